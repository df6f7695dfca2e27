/-
  MAPS with keys of one kind: what reading and writing come to, as lists of keys and values.
  MAPS BY NAMES.
  CONTRACTS: the walk over an expression's nodes.
  WEIGHTS: trees with their strings.
  THE DATA of declarations and modules.
  CONTRACTS: the depth of an expression.
  CONTRACTS: the types of an expression's node itself.
  CONTRACTS: the size of an expression.
  CONTRACTS: the reference's ExprSize.
  CONTRACTS: slices.EqualFunc on types and on fields.
  CONTRACTS: EqualTypes of the program.
  CONTRACTS: the reference's EqualTypeLists and EqualTypes.
  CONTRACTS: transparent, in both halves; the sizes of declarations and modules.
  THE FORM OF TREES, plainly: the errors of expressions, declarations and modules.
  RESOLVING NAMES, plainly: trees whose nodes are changed, and what is carried along.
  RESOLVING NAMES, plainly: what the names of a module mean.
  CONTRACTS: local variables, by the program.
  CONTRACTS: what names mean, by the program.
  CONTRACTS: nodes of types and expressions resolved, by the program.
  CONTRACTS: slices.Clone.
  SUBSTITUTION: the plain law.
  CONTRACTS: all nodes of a type, by the program.
  CONTRACTS: the local variables inside a kid.
  CONTRACTS: all nodes of an expression, by the program.
  CONTRACTS: any expression, by the program.
  WHAT A SOURCE IS, plainly: all nodes of a declaration satisfy a test.
  A MODULE RESOLVED, plainly.
  ALIASES, plainly: names with a letter ahead; types.
  ALIASES, plainly: expressions and declarations.
-/
import Derived.Test.YtnboooapeopjoaaGreatDoorJ3
set_option linter.all false
section
namespace Go.Proofs.YtnboooapeopjoaaGreatDoor
open Go.Eng
variable [aA]
section
variable {α : Type} [DecidableEq α]
def eT (kv : α → Value) : Nat → List (α × V) → List (Value × Nat × V)
 | _, [] => []
 | n, (k, v) :: r => (kv k, n, v) :: eT kv (n + 1) r
theorem va (kv : α → Value) : ∀ (g : List (α × V)) (n : Nat), (eT kv n g).length = g.length
 | [], _ => rfl
 | _ :: r, n => by simp [eT, va kv r (n + 1)]
theorem EI (kv : α → Value) : ∀ (g : List (α × V)) (n i : Nat), (eT kv n g)[i]? = g[i]?.map fun e => (kv e.1, n + i, e.2)
 | [], _, _ => rfl
 | e :: r, n, 0 => rfl
 | e :: r, n, i + 1 => by
  show (eT kv (n + 1) r)[i]? = _
  rw [EI kv r (n + 1) i, show n + 1 + i = n + (i + 1) by omega]; rfl
theorem AV (kv : α → Value) (k : α) (v : V) : ∀ (g : List (α × V)) (n : Nat), eT kv n (g ++ [(k, v)]) = eT kv n g ++ [(kv k, n + g.length, v)]
 | [], _ => rfl
 | e :: r, n => by
  show (kv e.1, n, e.2) :: eT kv (n + 1) (r ++ [(k, v)]) = (kv e.1, n, e.2) :: (eT kv (n + 1) r ++ _)
  rw [AV kv k v r (n + 1), List.length_cons, show n + 1 + r.length = n + (r.length + 1) by omega]
theorem EJ (kv : α → Value) (k : α) (v : V) : ∀ (g : List (α × V)) (n i : Nat), i < g.length → eT kv n (g.set i (k, v)) = (eT kv n g).set i (kv k, n + i, v)
 | [], _, _, h => by simp at h
 | e :: r, n, 0, _ => rfl
 | e :: r, n, i + 1, h => by
  show (kv e.1, n, e.2) :: eT kv (n + 1) (r.set i (k, v)) = (kv e.1, n, e.2) :: (eT kv (n + 1) r).set i _
  rw [EJ kv k v r (n + 1) i (by simpa using h), show n + 1 + i = n + (i + 1) by omega]
theorem yD (kv : α → Value) (p : V → Bool) : ∀ (g : List (α × V)) (n : Nat), ((eT kv n g).all fun e => p e.2.2) = g.all fun e => p e.2
 | [], _ => rfl
 | _ :: r, n => by simp [eT, yD kv p r (n + 1)]
def gH (a : α) : List (α × V) → Nat → Option (Nat × V)
 | [], _ => none
 | e :: r, i => if e.1 = a then some (i, e.2) else gH a r (i + 1)
def getM (a : α) : List (α × V) → Option V
 | [] => none
 | e :: r => if e.1 = a then some e.2 else getM a r
theorem w8 (a : α) : ∀ (g : List (α × V)) (i : Nat), (gH a g i).map (·.2) = getM a g
 | [], _ => rfl
 | e :: r, i => by
  unfold gH getM
  split
  ·rfl
  ·exact w8 a r (i + 1)
theorem qO {a : α} : ∀ {g : List (α × V)} {n i : Nat} {v : V}, gH a g n = some (i, v) → n ≤ i ∧ g[i - n]? = some (a, v)
 | [], _, _, _, h => by simp [gH] at h
 | e :: r, n, i, v, h => by
  unfold gH at h
  split at h
  ·rename_i he; cases h; subst he; simp
  ·obtain ⟨h1, h2⟩ := qO h
   refine ⟨by omega, ?_⟩
   rw [show i - n = (i - (n + 1)) + 1 by omega]; simpa using h2
structure KT (P : Program) (T kt et : TypeId) (kv : α → Value) (ky : α → V) : Prop where
 map : eJ P T = some (kt, et)
 val : ∀ a, dj (ky a) = some (kv a)
 ok : ∀ a, oK P kt (kv a) = true
 bits : ∀ a, Instr.sameBits 10000 (kv a) (kv a) = true
 find : ∀ (a : α) (g : List (α × V)), lx P kt (kv a) (eT kv 0 g) = some (gH a g 0)
theorem KT.now {P : Program} {kt : TypeId} {kv : α → Value} {d : TypeDesc} (hd : P.underlying kt = some d) (h : ∀ a b, Instr.sameNow d (kv a) (kv b) = some (decide (b = a))) (a : α) (g : List (α × V)) : lx P kt (kv a) (eT kv 0 g) = some (gH a g 0) := by
 have key : ∀ (g : List (α × V)) (n i : Nat), dO d (kv a) (eT kv n g) i = some (gH a g i) := by
  intro g
  induction g with
  | nil => intro n i; rfl
  | cons e r ih =>
   intro n i
   obtain ⟨k, v⟩ := e
   simp only [eT,dO,gH,h]
   by_cases hk : k = a
   ·simp [hk]
   ·rw [decide_eq_false hk, if_neg hk]; exact ih _ _
 unfold lx
 rw [hd]
 dsimp only
 rw [key]
section
variable {P : Program} {T kt et : TypeId} {kv : α → Value} {ky : α → V}
def AW (a : α) (v : V) (g : List (α × V)) : List (α × V) := match gH a g 0 with
 | none => g ++ [(a, v)]
 | some (i, _) => g.set i (a, v)
theorem KT.put (h : KT P T kt et kv ky) (a : α) (v : V) (g : List (α × V)) {mem : List aC} {b : Nat} (hm : mem[b]? = some (.map (eT kv 0 g) g.length)) :
  bX P mem T (.mp b) (ky a) v = some (mem.set b (.map (eT kv 0 (AW a v g)) (AW a v g).length)) := by
 unfold bX
 rw [h.map]
 dsimp only
 rw [h.val]
 dsimp only
 rw [if_pos (h.ok a), hm]
 dsimp only
 unfold insertAt
 rw [h.find]
 unfold AW
 cases hf : gH a g 0 with
 | none =>
  dsimp only
  rw [AV, Nat.zero_add, List.length_append, List.length_singleton]
 | some p =>
  obtain ⟨i, w⟩ := p
  obtain ⟨-, h2⟩ := qO hf
  rw [Nat.sub_zero] at h2
  dsimp only
  rw [EI, h2]
  dsimp only [Option.map_some]
  rw [if_pos (h.bits a)]
  dsimp only
  rw [EJ _ _ _ _ _ _ (List.getElem?_eq_some_iff.1 h2).1, List.length_set]
theorem KT.get (h : KT P T kt et kv ky) (a : α) (g : List (α × V)) {mem : List aC} {b : Nat} (hm : mem[b]? = some (.map (eT kv 0 g) g.length)) {z : V} (hz : zeroV P et = some z) (ok : Bool) :
  gb P mem T (.mp b) (ky a) ok = some (Lk ok (getM a g).isSome ((getM a g).getD z)) := by
 unfold gb
 rw [h.map]
 dsimp only
 rw [h.val]
 dsimp only
 rw [if_pos (h.ok a)]
 unfold ly
 dsimp only
 rw [hm]
 dsimp only
 rw [h.find, ← w8 a g 0]
 cases hf : gH a g 0 with
 | none => dsimp only; rw [hz]; rfl
 | some p => rfl
end
end
end Go.Proofs.YtnboooapeopjoaaGreatDoor
end

section
namespace Go.Proofs.YtnboooapeopjoaaGreatDoor
open Go.Eng
variable [aA]
set_option maxHeartbeats 4000000
set_option maxRecDepth 100000
def strVal (s : ByteArray) : Value := .string s
theorem OA {T et : TypeId} (h : eJ Tryz.prog T = some (9, et)) : KT Tryz.prog T 9 et strVal str :=
 ⟨h, fun _ => rfl, fun a => by unfold oK; rw [Tryz.underlying9], fun a => (wV a a).2 rfl,
  KT.now Tryz.underlying9 fun a b => by
   show some (a == b) = some (decide (b = a))
   congr 1
   rw [Bool.eq_iff_iff, wV, decide_eq_true_eq]
   exact ⟨fun h => h.symm, fun h => h.symm⟩⟩
theorem QQ : eJ Tryz.prog 164 = some (9, 4) := by kernel_rfl
theorem UE : KT Tryz.prog 164 9 4 strVal str := OA QQ
abbrev GN := List (ByteArray × V)
def qP (g : GN) (x : ByteArray) : GN := AW x (bl true) g
def cw (g : GN) (l : List ByteArray) : GN := l.foldl qP g
theorem MW (g : GN) (x : ByteArray) {mem : List aC} {b : Nat} (hm : mem[b]? = some (.map (eT strVal 0 g) g.length)) : bX Tryz.prog mem 164 (.mp b) (str x) (bl true) = some (mem.set b (.map (eT strVal 0 (qP g x)) (qP g x).length)) := UE.put x (bl true) g hm
structure NG (g : GN) : Prop where
 QR : ∀ e ∈ g, e.2 = bl true
 nodup : (g.map fun e => e.1).Nodup
theorem pr {a : ByteArray} : ∀ {g : GN} {n : Nat}, gH a g n = none → ∀ e ∈ g, e.1 ≠ a
 | [], _, _, e, he => by cases he
 | c :: r, n, h, e, he => by
  unfold gH at h
  split at h
  ·cases h
  ·rename_i ch
   rcases List.mem_cons.1 he with rfl | he
   ·exact ch
   ·exact pr h e he
theorem NG.nil : NG [] := ⟨fun e he => (by cases he), List.nodup_nil⟩
theorem AX {g : GN} {i : Nat} {x : ByteArray} {v w : V} (h : g[i]? = some (x, v)) : (g.set i (x, w)).map (fun e => e.1) = g.map fun e => e.1 := by
 rw [List.map_set]
 apply List.ext_getElem?
 intro j
 rw [List.getElem?_set]
 split
 ·rename_i D3; subst D3
  have aZ := (List.getElem?_eq_some_iff.1 h).1
  rw [if_pos (by simpa using aZ), List.getElem?_map, h]; rfl
 ·rfl
theorem NG.add {g : GN} (h : NG g) (x : ByteArray) : NG (qP g x) ∧ (∀ k, k ∈ (qP g x).map (fun e => e.1) ↔ k = x ∨ k ∈ g.map fun e => e.1) ∧ (qP g x).length ≤ g.length + 1 := by
 unfold qP AW
 cases hf : gH x g 0 with
 | none =>
  dsimp only
  refine ⟨⟨fun e he => ?_, ?_⟩, fun k => ?_, by simp⟩
  ·rcases List.mem_append.1 he with he | he
   ·exact h.QR e he
   ·rw [List.mem_singleton] at he; subst he; rfl
  ·rw [List.map_append, List.nodup_append]
   refine ⟨h.nodup, by simp, fun a ha b hb => ?_⟩
   obtain ⟨e, he, rfl⟩ := List.mem_map.1 ha
   simp only [List.map_cons,List.map_nil,List.mem_singleton] at hb; subst hb
   exact pr hf e he
  ·rw [List.map_append, List.mem_append]
   simp only [List.map_cons,List.map_nil,List.mem_singleton]
   exact Or.comm
 | some p =>
  obtain ⟨i, v⟩ := p
  obtain ⟨-, h2⟩ := qO hf
  rw [Nat.sub_zero] at h2
  dsimp only
  refine ⟨⟨fun e he => ?_, ?_⟩, fun k => ?_, by simp⟩
  ·rcases List.mem_or_eq_of_mem_set he with he | rfl
   ·exact h.QR e he
   ·rfl
  ·rw [AX h2]; exact h.nodup
  ·rw [AX h2]
   constructor
   ·exact .inr
   ·rintro (rfl | h)
    ·exact List.mem_map.2 ⟨_, List.mem_of_getElem? h2, rfl⟩
    ·exact h
theorem NG.cw : ∀ {l : List ByteArray} {g : GN}, NG g → NG (cw g l) ∧ (∀ k, k ∈ (cw g l).map (fun e => e.1) ↔ k ∈ l ∨ k ∈ g.map fun e => e.1) ∧ (cw g l).length ≤ g.length + l.length
 | [], g, h => ⟨h, fun k => ⟨.inr, fun h => h.resolve_left (by simp)⟩, by simp [Go.Proofs.YtnboooapeopjoaaGreatDoor.cw]⟩
 | x :: l, g, h => by
  obtain ⟨h1, h2, h3⟩ := h.add x
  obtain ⟨h4, h5, h6⟩ := NG.cw (l := l) h1
  refine ⟨h4, fun k => ?_, by have : Go.Proofs.YtnboooapeopjoaaGreatDoor.cw g (x :: l) = Go.Proofs.YtnboooapeopjoaaGreatDoor.cw (qP g x) l := rfl; rw [this, List.length_cons]; omega⟩
  have : Go.Proofs.YtnboooapeopjoaaGreatDoor.cw g (x :: l) = Go.Proofs.YtnboooapeopjoaaGreatDoor.cw (qP g x) l := rfl
  rw [this, h5 k, h2 k, List.mem_cons]
  constructor
  ·rintro (h | h | h)
   ·exact .inl (.inr h)
   ·exact .inl (.inl h)
   ·exact .inr h
  ·rintro ((h | h) | h)
   ·exact .inr (.inl h)
   ·exact .inl h
   ·exact .inr (.inr h)
theorem AY {α : Type} (f : α → ByteArray) (g : GN) {l : List α} {i : Nat} {x : α} (h : l[i]? = some x) : cw g ((l.take (i + 1)).map f) = qP (cw g ((l.take i).map f)) (f x) := by
 unfold cw
 rw [List.take_add_one, h, List.map_append, List.foldl_append]; rfl
theorem NG.below {g : GN} (h : NG g) (n : Nat) : ((eT strVal 0 g).all fun e => au n e.2.2) = true := by
 rw [yD strVal (au n), List.all_eq_true]
 intro e he
 rw [h.QR e he]; rfl
def pw : List ByteArray → Bool
 | [] => false
 | a :: r => iP a r || pw r
theorem EK (x : ByteArray) (l m : List ByteArray) : iP x (l ++ m) = (iP x l || iP x m) := by unfold iP; rw [List.any_append]
theorem w9 (x : ByteArray) : ∀ l : List ByteArray, pw (l ++ [x]) = (pw l || iP x l)
 | [] => rfl
 | a :: r => by
  have e1 : iP a [x] = iP x [a] := by
   unfold iP
   simp only [List.any_cons,List.any_nil,Bool.or_false]
   by_cases h : a = x
   ·rw [decide_eq_true h, decide_eq_true h.symm]
   ·rw [decide_eq_false h, decide_eq_false fun e => h e.symm]
  have e2 : iP x (a :: r) = (iP x [a] || iP x r) := EK x [a] r
  simp only [List.cons_append,pw,w9 x r,EK,e1,e2]
  cases iP a r <;> cases iP x [a] <;> cases pw r <;> cases iP x r <;> rfl
theorem Jg (g : GN) (x : ByteArray) : (x ∈ g.map (fun e => e.1) → (qP g x).length = g.length) ∧ (x ∉ g.map (fun e => e.1) → (qP g x).length = g.length + 1) := by
 unfold qP AW
 cases hf : gH x g 0 with
 | none =>
  dsimp only
  refine ⟨fun h => ?_, fun _ => by simp⟩
  obtain ⟨e, he, hx⟩ := List.mem_map.1 h
  exact absurd hx (pr hf e he)
 | some p =>
  obtain ⟨i, v⟩ := p
  obtain ⟨-, h2⟩ := qO hf
  rw [Nat.sub_zero] at h2
  dsimp only
  exact ⟨fun _ => by rw [List.length_set], fun h => absurd (List.mem_map.2 ⟨_, List.mem_of_getElem? h2, rfl⟩) h⟩
theorem AZ (l : List ByteArray) : ∀ m : List ByteArray, (cw [] l).length ≤ l.length → decide ((cw [] l).length < l.length) = pw l → (cw [] (l ++ m)).length ≤ (l ++ m).length ∧ decide ((cw [] (l ++ m)).length < (l ++ m).length) = pw (l ++ m) := by
 intro m
 induction m generalizing l with
 | nil => intro h1 h2; rw [List.append_nil]; exact ⟨h1, h2⟩
 | cons x m ih =>
  intro h1 h2
  have e0 : l ++ x :: m = (l ++ [x]) ++ m := by simp
  have e : cw [] (l ++ [x]) = qP (cw [] l) x := by unfold cw; rw [List.foldl_append]; rfl
  have hm : x ∈ (cw [] l).map (fun e => e.1) ↔ x ∈ l := by
   have := (NG.cw (l := l) NG.nil).2.1 x
   simpa using this
  have hl := Jg (cw [] l) x
  rw [e0]
  refine ih (l ++ [x]) ?_ ?_
  ·rw [e, List.length_append, List.length_singleton]
   by_cases hx : x ∈ l
   ·rw [hl.1 (hm.2 hx)]; omega
   ·rw [hl.2 fun h => hx (hm.1 h)]; omega
  ·rw [e, w9, ← h2, List.length_append, List.length_singleton]
   by_cases hx : x ∈ l
   ·rw [hl.1 (hm.2 hx), tB.2 hx, Bool.or_true]
    exact decide_eq_true (by omega)
   ·have hb : iP x l = false := Bool.eq_false_iff.2 fun h => hx (tB.1 h)
    rw [hl.2 fun h => hx (hm.1 h), hb, Bool.or_false]
    congr 1
    rw [eq_iff_iff]; omega
theorem Dd (l : List ByteArray) : (cw [] l).length ≤ l.length ∧ decide ((cw [] l).length < l.length) = pw l := AZ [] l (Nat.le_refl _) rfl
theorem MX {mem : List aC} {b : Nat} (g : GN) (c : Nat) (hm : mem[b]? = some (.map (eT strVal 0 g) c)) : rA mem #[164] Tryz.prog [.mp b] = some (num g.length) := by
 unfold rA
 have h : eJ Tryz.prog 164 = some (9, 4) := by kernel_rfl
 simp [h, hm, va]
theorem aah : eJ Tryz.prog 128 = some (9, 9) := by kernel_rfl
theorem ktS : KT Tryz.prog 128 9 9 strVal str := OA aah
end Go.Proofs.YtnboooapeopjoaaGreatDoor
end

section
namespace Go.Proofs.YtnboooapeopjoaaGreatDoor
open Go.Eng
open Nat renaming reduceAdd → zA, reduceLT → zB, reduceLeDiff → zC, reduceMul → zD, reduceEqDiff → zE, reduceSub → zF
variable [aA]
def Ex.own (e : Ex) : List Ty := e.types ++ if e.kind = 8 then e.labels.map Lb.ty else []
mutual
def Ex.size : Ex → Nat
 | .mk k _ _ _ _ ts ls ks => 1 + aO Ty.size (ts ++ if k = 8 then ls.map Lb.ty else []) + tF ks
def tF : List Ex → Nat
 | [] => 0
 | e :: r => e.size + tF r
end
mutual
def Ex.nodes : Ex → List Ex
 | .mk k m n t i ts ls ks => .mk k m n t i ts ls ks :: qQ ks
def qQ : List Ex → List Ex
 | [] => []
 | e :: r => e.nodes ++ qQ r
end
theorem A0 (ts : List Ex) : qQ ts = ts.flatMap Ex.nodes := by induction ts with | nil => rfl | cons t r ih => simp [qQ, ih]
theorem De (ts : List Ex) : tF ts = aO Ex.size ts := by induction ts with | nil => rfl | cons t r ih => simp [tF, aO, ih]
theorem Ex.fq (t : Ex) : t.nodes = t :: t.kids.flatMap Ex.nodes := by
 obtain ⟨k, m, n, x, i, ts, ls, ks⟩ := t
 simp only [Ex.nodes,Ex.kids,A0]
theorem Ex.size_eq (t : Ex) : t.size = 1 + aO Ty.size t.own + aO Ex.size t.kids := by
 obtain ⟨k, m, n, x, i, ts, ls, ks⟩ := t
 rw [Ex.size, De]; rfl
theorem Ex.size_pos (t : Ex) : 0 < t.size := by rw [Ex.size_eq]; omega
theorem Ex.vb : ∀ (N : Nat) (t : Ex), t.size ≤ N → aO (fun e => 1 + aO Ty.size e.own) t.nodes = t.size := by
 intro N
 induction N with
 | zero => intro t h; have := t.size_pos; omega
 | succ N ih =>
  intro t hN
  have h1 := t.size_eq
  have gen : ∀ (l : List Ex), aO Ex.size l ≤ N → aO (fun e => 1 + aO Ty.size e.own) (l.flatMap Ex.nodes) = aO Ex.size l := by
   intro l
   induction l with
   | nil => intro _; rfl
   | cons a r MR =>
    intro hl
    simp only [aO] at hl ⊢
    rw [List.flatMap_cons, gj, ih a (by omega), MR (by omega)]
  rw [Ex.fq]
  simp only [aO]
  rw [gen _ (by omega)]; omega
def Lb.cd (l : Lb) : Nat := 1 + l.ty.size
mutual
def Ex.cd : Ex → Nat
 | .mk _ _ _ _ _ ts ls ks => 1 + aO Ty.size ts + aO Lb.cd ls + tG ks
def tG : List Ex → Nat
 | [] => 0
 | e :: r => e.cd + tG r
end
theorem Df (ts : List Ex) : tG ts = aO Ex.cd ts := by induction ts with | nil => rfl | cons t r ih => simp [tG, aO, ih]
theorem Ex.oj (t : Ex) : t.cd = 1 + aO Ty.size t.types + aO Lb.cd t.labels + aO Ex.cd t.kids := by
 obtain ⟨k, m, n, x, i, ts, ls, ks⟩ := t
 rw [Ex.cd, Df]; rfl
theorem Ex.fu (t : Ex) : 0 < t.cd := by rw [Ex.oj]; omega
theorem Ex.om (t : Ex) : 1 + aO Ex.cd t.kids ≤ t.cd := by rw [Ex.oj]; omega
theorem Ex.nN (t : Ex) : t.kids.length < t.cd := by
 have := bm Ex.cd Ex.fu t.kids
 rw [Ex.oj]; omega
theorem Lb.fu (l : Lb) : 0 < l.cd := by unfold Lb.cd; omega
theorem Ex.Dg (t : Ex) : aO Ty.size t.own + 1 + aO Ex.cd t.kids ≤ t.cd := by
 rw [Ex.oj, Ex.own, gj]
 have : aO Ty.size (if t.kind = 8 then t.labels.map Lb.ty else []) ≤ aO Lb.cd t.labels := by
  split
  ·rw [rZ]
   generalize t.labels = l
   induction l with
   | nil => simp [aO]
   | cons a r ih => simp only [aO,Lb.cd] at ih ⊢; omega
  ·simp [aO]
 omega
theorem Ex.yE (t : Ex) : t.types.length + t.labels.length < t.cd := by
 have h1 := bm Ty.size Ty.size_pos t.types
 have h2 := bm Lb.cd Lb.fu t.labels
 rw [Ex.oj]; omega
theorem Ex.mo : ∀ (N : Nat) (t : Ex), t.cd ≤ N → t.size ≤ t.cd := by
 intro N
 induction N with
 | zero => intro t h; have := t.fu; omega
 | succ N ih =>
  intro t hN
  have h1 := t.Dg
  rw [Ex.size_eq]
  have gen : ∀ (l : List Ex), aO Ex.cd l ≤ N → aO Ex.size l ≤ aO Ex.cd l := by
   intro l
   induction l with
   | nil => intro _; simp [aO]
   | cons a r MR =>
    intro hl
    simp only [aO] at hl ⊢
    have := ih a (by omega); have := MR (by omega); omega
  have := gen t.kids (by omega)
  omega

section
variable {σ : Type} {M : σ → List aC} {n k k1 k2 : Nat}
theorem Jh (hn : ∀ s, (M s).length = n) (hk : k < n) (ff : k1 < n) (iU : k2 < n) (h1 : ∀ s, (M s)[k1]? = some (.box [.fP k])) (h2 : ∀ s, (M s)[k2]? = some (.box [.bp (.func 243) [] [.ptr k1 0, .ptr k2 0]])) (hb : ∀ s, (M s).all (az n) = true)
  (step : σ → Ex → σ × Bool) (G : σ → Prop) (hG : ∀ s u, G s → (step s u).2 = true → G (step s u).1) {B : Nat} (hB : B ≤ 1048576) (Pd : Ex → Prop) (hy : ∀ s u, G s → u.cd ≤ B → Pd u → BW Tryz.prog k [bT u] (M s) (step s u).2 (M (step s u).1)) :
  ∀ (N : Nat) (t : Ex) (s : σ), G s → (∀ v ∈ t.nodes, Pd v) → t.cd ≤ N → N ≤ B → aF Tryz.prog 243 [bT t, .ptr k1 0, .ptr k2 0] (M s) (bl (bS step s t.nodes).2) (M (bS step s t.nodes).1) := by
 have g0 : ∀ s (l : List aC), (M s ++ l)[n]? = l[0]? := fun s l => by rw [List.getElem?_append_right (by rw [hn]; exact Nat.le_refl _), hn, Nat.sub_self]
 have g1 : ∀ s (l : List aC), (M s ++ l)[n + 1]? = l[1]? := fun s l => by rw [List.getElem?_append_right (by rw [hn]; omega), hn, Nat.add_sub_cancel_left]
 have Ou : ∀ s (l : List aC), (M s ++ l)[k1]? = some (.box [.fP k]) := fun s l => by rw [List.getElem?_append_left (by rw [hn]; exact ff)]; exact h1 s
 have UA : ∀ s (l : List aC), (M s ++ l)[k2]? = some (.box [.bp (.func 243) [] [.ptr k1 0, .ptr k2 0]]) := fun s l => by rw [List.getElem?_append_left (by rw [hn]; exact iU)]; exact h2 s
 have gs : ∀ s (l : List aC) X, (M s ++ l).set n X = M s ++ l.set 0 X := fun s l X => by rw [List.set_append_right _ _ (by rw [hn]; exact Nat.le_refl _), hn, Nat.sub_self]
 have gt : ∀ s (l : List aC), (M s ++ l).take n = M s := fun s l => by rw [← hn s, List.take_left]
 have Ov : ∀ s, (M s).take n = M s := fun s => by rw [List.take_of_length_le (by rw [hn]; exact Nat.le_refl _)]
 have fy : ∀ s u (l : List aC), G s → u.cd ≤ B → Pd u → BW Tryz.prog k [bT u] (M s ++ l) (step s u).2 (M (step s u).1 ++ l) := fun s u l hg hu hp => by
  refine (hy s u hg hu hp).frame (by rw [hn]; exact hk) ?_ (by rw [hn]; exact hb s) (by rw [hn, hn]) (by rw [hn]; exact hb _) l
  rw [aI]; simp [au, aD, aq]
 intro N
 induction N with
 | zero => intro t s hg hP h; have := t.fu; omega
 | succ N ih =>
  intro t s hg hP hN hNB
  have AQ := t.nN
  have vX := t.om
  have MQ := bm Ex.cd Ex.fu t.kids
  have ch := t.fq
  have Ja := fun l => fy s t l hg (by omega) (hP t (by rw [t.fq]; simp))
  have Ow : ∀ u s (l : List aC), G s → (∀ v ∈ u.nodes, Pd v) → u.cd ≤ N → aF Tryz.prog 243 [bT u, .ptr k1 0, .ptr k2 0] (M s ++ l) (bl (bS step s u.nodes).2) (M (bS step s u.nodes).1 ++ l) := fun u s l hg hq hu => by
   refine (ih u s hg hq hu (by omega)).frame ?_ (by rw [hn]; exact hb s) rfl (by rw [hn, hn]) (by rw [hn]; exact hb _) l
   rw [aI, hn]; simp [au, aD, aq, ff, iU]
  simp only [aI,aq] at Ow
  refine gw tt_ok (fn := Tryz.f243) n (by rw [hn]; exact Nat.le_refl _) Tryz.func243 rfl Tryz.call243 ?_
  simp only [ck,bA,Tryz.ntmps243,List.length_cons,List.length_nil,zA,zF,List.replicate_succ,List.replicate_zero]
  rw [aI] at Ja ⊢
  simp only [aq] at Ja ⊢
  refine ai tt_ok fun K hK => ?_
  simp only [hn,go_sem]
  refine hK _ ?_
  refine aS ?_
  refine ai tt_ok fun K hK => ?_
  simp only [Ou,g0,hn,go_sem]
  refine .inl ⟨_, _, Ja _, ?_⟩
  try simp only [go_sem]
  refine hK _ ?_
  cases Jb : (step s t).2 with
  | false =>
   refine aL rfl ?_
   refine ai tt_ok fun K hK => ?_
   simp only [go_sem]
   refine hK _ ?_
   refine aY ⟨.inl rfl, ?_⟩
   have rB : bS step s t.nodes = ((step s t).1, false) := by rw [ch]; simp [bS, Jb]
   rw [rB]
   exact ⟨rfl, rfl, by dsimp only; rw [gt]; exact hb _, (gt _ _).symm⟩
  | true =>
   refine aL rfl (bn ?_)
   show cD _ _ _ _ _ _
   refine aS ?_
   refine ai tt_ok fun K hK => ?_
   simp only [Ou,g0,hn,ae,go_sem]
   refine hK _ ?_
   obtain ⟨ps, yA⟩ : ∃ ps, ps = t.kids := ⟨_, rfl⟩
   rw [← yA] at vX MQ ch ⊢
   have hPp : ∀ u ∈ ps, ∀ v ∈ u.nodes, Pd v := fun u hu v hv => hP v (by rw [ch]; exact List.mem_cons_of_mem _ (List.mem_flatMap.2 ⟨u, hu, hv⟩))
   refine bf (cA (fun N st => ∃ (i : Nat) (s' : σ), G s' ∧ N = ps.length - i ∧ i ≤ ps.length ∧ bS step s (t :: (ps.take i).flatMap Ex.nodes) = (s', true) ∧
    st = { fr := [.undef, .ptr k1 0, .ptr k2 0, .undef, .undef, .undef, .undef, .undef, .undef, .undef, .undef, .undef, .slice (bL ps), num ps.length, num i] ++ List.replicate 8 .undef, mem := M s' }) ps.length ?_ ?_)
   ·refine ⟨n, (false::true::true::(rp 9 false [true,true,true])), by rw [hn]; exact Nat.le_refl _, by simp only [bc,au,aD,az,zB,ff,iU,kC], by dsimp only; rw [gt]; exact hb _, 0, (step s t).1, hG s t hg Jb, by omega, by omega, by simp [bS, Jb], ?_⟩
    dsimp only; rw [gt]; rfl
   ·rintro N' st ⟨i, s', zJ, rfl, hi, Jc, rfl⟩
    simp only [ck,List.replicate_succ,List.replicate_zero]
    by_cases aZ : i < ps.length
    ·have hd := jf aZ
     refine ai tt_ok fun K hK => ?_
     simp only [ae,hd,go_sem]
     refine hK _ ?_
     refine aS (aL rfl (bn ?_))
     refine aS (bf ?_)
     obtain ⟨u, hu⟩ : ∃ u, ps[i]? = some u := ⟨_, List.getElem?_eq_getElem aZ⟩
     have Yc := bG Ex.cd hu
     have jM := fun l => Ow u s' l zJ (hPp u (List.mem_of_getElem? hu)) (by omega)
     have vY : (ps.take (i + 1)).flatMap Ex.nodes = (ps.take i).flatMap Ex.nodes ++ u.nodes := by rw [List.take_add_one, hu]; simp
     have EH : bS step s (t :: (ps.take (i + 1)).flatMap Ex.nodes) = bS step s' u.nodes := by
      rw [vY, ← List.cons_append, fb, Jc]; simp
     refine ai tt_ok fun K hK => ?_
     simp only [cX,hu,aI,aq,hn,g0,gs,go_sem]
     refine hK _ ?_
     refine ai tt_ok fun K hK => ?_
     simp only [UA,g0,hn,go_sem]
     refine .inr <| .inl ⟨_, _, jM _, ?_⟩
     try simp only [go_sem]
     refine hK _ ?_
     cases Jd : (bS step s' u.nodes).2 with
     | false =>
      refine aL rfl ?_
      refine ai tt_ok fun K hK => ?_
      simp only [go_sem]
      refine hK _ ?_
      refine aY ⟨.inl rfl, ?_⟩
      have rB : bS step s t.nodes = ((bS step s' u.nodes).1, false) := by
       have u6 : ps.flatMap Ex.nodes = (ps.take (i + 1)).flatMap Ex.nodes ++ (ps.drop (i + 1)).flatMap Ex.nodes := by rw [← List.flatMap_append, List.take_append_drop]
       rw [ch, u6, ← List.cons_append, fb, EH, Jd]; simp
      rw [rB]
      exact ⟨rfl, rfl, by dsimp only; rw [gt]; exact hb _, (gt _ _).symm⟩
     | true =>
      refine aL rfl (bn ?_)
      show cD _ _ _ _ _ _
      refine aK tt_ok fun K hK => ?_
      simp only [go_sem]
      refine hK _ ?_
      have kg := aU i (by omega)
      rw [kg]
      refine ⟨ps.length - (i + 1), by omega, n, (false::true::true::(rp 9 false [true,true,true])), by rw [hn]; exact Nat.le_refl _, by simp only [bc,au,aD,az,zB,ff,iU,kC], by dsimp only; rw [gt]; exact hb _, i + 1, (bS step s' u.nodes).1, mm step hG _ _ zJ Jd, rfl, aZ, by rw [EH, ← Jd], ?_⟩
      dsimp only; rw [gt]; rfl
    ·have hd := jg aZ
     refine ai tt_ok fun K hK => ?_
     simp only [ae,hd,go_sem]
     refine hK _ ?_
     refine aS (aL rfl (dy ?_))
     have gB : i = ps.length := by omega
     subst gB
     show cD _ _ _ _ _ _
     refine ai tt_ok fun K hK => ?_
     simp only [go_sem]
     refine hK _ ?_
     refine aY ⟨.inl rfl, ?_⟩
     rw [List.take_length] at Jc
     rw [ch, Jc]
     exact ⟨rfl, rfl, by dsimp only; rw [Ov]; exact hb _, (Ov _).symm⟩
end

theorem A1 (t : Ex) (m : List aC) (hb : m.all (az (m.length + 1)) = true) : aF Tryz.prog 193 [bT t] m (.bp (.func 242) [] [.ptr m.length 0]) (m ++ [.box (aq t)]) := by
 refine gw tt_ok (fn := Tryz.f193) (m.length + 1) (by omega) Tryz.func193 rfl Tryz.call193 ?_
 simp only [ck,bA,Tryz.ntmps193,List.length_cons,List.length_nil,zA,zF,List.replicate_succ,List.replicate_zero]
 rw [aI]
 simp only [aq]
 refine ai tt_ok fun K hK => ?_
 simp only [go_sem]
 refine hK _ ?_
 refine ai tt_ok fun K hK => ?_
 simp only [go_sem]
 refine hK _ ?_
 have ht : ∀ B : aC, (m ++ [B]).take (m.length + 1) = m ++ [B] := fun B => List.take_of_length_le (by simp)
 refine aY ⟨.inl rfl, rfl, by simp [au, aD], ?_, ?_⟩
 ·dsimp only; rw [ht]; simp [hb, az, au, aD]
 ·dsimp only; rw [ht]

section
variable {σ : Type} {M : σ → List aC} {n k kt : Nat}
theorem Ji (hn : ∀ s, (M s).length = n) (hk : k < n) (FU : kt < n) {t : Ex} (h1 : ∀ s, (M s)[kt]? = some (.box (aq t))) (hb : ∀ s, (M s).all (az n) = true)
  (step : σ → Ex → σ × Bool) (G : σ → Prop) (hG : ∀ s u, G s → (step s u).2 = true → G (step s u).1) {B : Nat} (hB : B ≤ 1048576) (Pd : Ex → Prop) (hy : ∀ s u, G s → u.cd ≤ B → Pd u → BW Tryz.prog k [bT u] (M s) (step s u).2 (M (step s u).1)) (ht : t.cd ≤ B) (hP : ∀ v ∈ t.nodes, Pd v) (s : σ) (hs : G s) :
  aF Tryz.prog 242 [.fP k, .ptr kt 0] (M s) (.cC []) (M (bS step s t.nodes).1) := by
 have g0 : ∀ s (l : List aC), (M s ++ l)[n]? = l[0]? := fun s l => by rw [List.getElem?_append_right (by rw [hn]; exact Nat.le_refl _), hn, Nat.sub_self]
 have g1 : ∀ s (l : List aC), (M s ++ l)[n + 1]? = l[1]? := fun s l => by rw [List.getElem?_append_right (by rw [hn]; omega), hn, Nat.add_sub_cancel_left]
 have Ox : ∀ s (l : List aC), (M s ++ l)[kt]? = some (.box (aq t)) := fun s l => by rw [List.getElem?_append_left (by rw [hn]; exact FU)]; exact h1 s
 have gs : ∀ s (l : List aC) X, (M s ++ l).set (n + 1) X = M s ++ l.set 1 X := fun s l X => by rw [List.set_append_right _ _ (by rw [hn]; omega), hn, Nat.add_sub_cancel_left]
 have gt : ∀ s (l : List aC), (M s ++ l).take n = M s := fun s l => by rw [← hn s, List.take_left]
 have hw : ∀ s, G s → aF Tryz.prog 243 [bT t, .ptr n 0, .ptr (n + 1) 0] (M s ++ [.box [.fP k], .box [.bp (.func 243) [] [.ptr n 0, .ptr (n + 1) 0]]]) (bl (bS step s t.nodes).2) (M (bS step s t.nodes).1 ++ [.box [.fP k], .box [.bp (.func 243) [] [.ptr n 0, .ptr (n + 1) 0]]]) := fun s hs => by
  refine Jh (M := fun s => M s ++ [.box [.fP k], .box [.bp (.func 243) [] [.ptr n 0, .ptr (n + 1) 0]]]) (n := n + 2) (k := k) (k1 := n) (k2 := n + 1) (fun s => by simp [hn]) (by omega) (by omega) (by omega) (fun s => g0 _ _) (fun s => g1 _ _) (fun s => ?_) step G hG hB Pd (fun s u hg hu hq => ?_) t.cd t s hs hP (Nat.le_refl _) ht
  ·rw [List.all_append, Bool.and_eq_true]
   refine ⟨l8 (by omega) (hb s), ?_⟩
   simp [az, au, aD]; omega
  ·refine (hy s u hg hu hq).frame (by rw [hn]; exact hk) ?_ (by rw [hn]; exact hb s) (by rw [hn, hn]) (by rw [hn]; exact hb _) _
   rw [aI]; simp [au, aD, aq]
 refine gw tt_ok (fn := Tryz.f242) n (by rw [hn]; exact Nat.le_refl _) Tryz.func242 rfl Tryz.call242 ?_
 simp only [ck,bA,Tryz.ntmps242,List.length_cons,List.length_nil,zA,zF,List.replicate_succ,List.replicate_zero]
 have AJ := hw s hs
 rw [aI] at AJ
 simp only [aq] at AJ Ox
 refine ai tt_ok fun K hK => ?_
 simp only [hn,go_sem]
 refine hK _ ?_
 refine ai tt_ok fun K hK => ?_
 simp only [hn,List.length_append,List.append_assoc,go_sem]
 refine hK _ ?_
 refine ai tt_ok fun K hK => ?_
 simp only [hn,g1,gs,go_sem]
 refine hK _ ?_
 refine aK tt_ok fun K hK => ?_
 simp only [hn,g1,Ox,go_sem]
 refine .inr <| .inl ⟨_, _, AJ, ?_⟩
 try simp only [go_sem]
 refine hK _ ?_
 refine ⟨.inr rfl, rfl, rfl, ?_, ?_⟩
 ·dsimp only; rw [gt]; exact hb _
 ·dsimp only; rw [gt]


theorem vd {n0 : Nat} {st : St} {Q : Exit → St → Prop} {f : Operand} {params : Array Tmp} {assign body : Code} {t : Ex} (pre : σ → List aC) (s0 : σ) (n kt : Nat) (lF : st.mem = pre s0) (hn : ∀ s, (pre s).length = n) (FU : kt < n)
  (ht : ∀ s, (pre s)[kt]? = some (.box (aq t))) (hb : ∀ s, (pre s).all (az (n + 1)) = true) (yZ : st.fr.all (au (n + 1)) = true) (hf : st.eval f = .bp (.func 242) [] [.ptr kt 0]) (hp : params.size = 1) (step : σ → Ex → σ × Option Code) {B : Nat} (hB : B ≤ 1048576) (ka : t.cd ≤ B) (Pd : Ex → Prop) (hPt : ∀ v ∈ t.nodes, Pd v)
  (u7 : ∀ s u, u.cd ≤ B → Pd u → ∀ (l : Nat) (LR LB : aC), az (n + 1) LR = true → az (n + 1) LB = true → cD Tryz.prog (some l) (n + 1) assign { fr := kM params.toList [bT u] st.fr, mem := pre s ++ [LR] } fun ex oz => ex = .normal ∧ oz.mem[n]? = some LR ∧
   cD Tryz.prog (some l) (n + 1) body { oz with mem := oz.mem.set n LB } fun ex tp => nn ex = some (step s u).2 ∧ tp.mem[n]? = some LB ∧ tp.mem.take n = pre (step s u).1)
  (hq : match (eS step s0 t.nodes).2 with
   | none => Q .normal { st with mem := pre (eS step s0 t.nodes).1 ++ [.dead] }
   | some c => cD Tryz.prog none n0 c { st with mem := pre (eS step s0 t.nodes).1 ++ [.dead] } Q) : cD Tryz.prog none n0 (.rangeFunc f params assign body) st Q := by
 have hlen : st.mem.length = n := by rw [lF, hn]
 have gn : ∀ s X, (pre s ++ [X])[n]? = some X := fun s X => by rw [List.getElem?_append_right (by rw [hn]; exact Nat.le_refl _), hn, Nat.sub_self]; rfl
 have gk : ∀ s X, (pre s ++ [X])[kt]? = some (.box (aq t)) := fun s X => by rw [List.getElem?_append_left (by rw [hn]; exact FU)]; exact ht s
 have AU : ∀ s (X Y : aC), (pre s ++ [X]).set n Y = pre s ++ [Y] := fun s X Y => by rw [List.set_append_right _ _ (by rw [hn]; exact Nat.le_refl _), hn, Nat.sub_self]; rfl
 have s4 : ∀ (s : σ) (a : LoopState) (b : Option Code), (pre s ++ [aC.loop a b st.fr params assign body]).all (az (n + 1)) = true := fun s a b => by
  rw [List.all_append, Bool.and_eq_true]
  exact ⟨hb s, by simp only [List.all_cons,List.all_nil,Bool.and_true,az]; exact yZ⟩
 have it := Ji (M := fun s : σ × Option Code => pre s.1 ++ [.loop (if s.2.isNone then .ready else .done) s.2 st.fr params assign body]) (n := n + 1) (k := n) (kt := kt) (t := t) (fun s => by simp [hn]) (by omega) (by omega) (fun s => gk _ _) (fun s => s4 _ _ _)
  (qN step) (fun s => s.2 = none) (fun s u hs h => by simpa [qN] using h) hB Pd (fun s u hs hu hq => by
   obtain ⟨s, j⟩ := s
   simp only at hs; subst hs
   refine np (fr := st.fr) (params := params) (assign := assign) (body := body) (gn _ _) (by simp [hp]) fun l => ?_
   have hl : (pre s ++ [aC.loop .ready none st.fr params assign body]).length = n + 1 := by simp [hn]
   simp only [Option.isNone_none,if_true,hl]
   refine cD.mono (u7 s u hu hq l (.loop .ready none st.fr params assign body) (.loop .busy none st.fr params assign body) yZ yZ) ?_
   rintro ex oz ⟨h1, h2, h3⟩
   refine ⟨h1, h2, cD.mono h3 ?_⟩
   rintro ex tp ⟨h4, h5, h6⟩
   refine ⟨_, h4, rfl, h5, ?_, ?_⟩
   ·rw [take_set (hn _) h5 h6]; exact s4 _ _ _
   ·rw [take_set (hn _) h5 h6]; rfl) ka hPt (s0, none) rfl
 rw [tD] at it
 refine k8 (g := 242) (vs := [.fP n, .ptr kt 0]) (by rw [hf, hlen]; rfl) (by rw [lF]; exact it) ?_
 rw [hlen]
 refine ⟨_, _, _, _, _, _, gn _ _, ?_, ?_⟩
 ·cases (eS step s0 t.nodes).2 <;> simp
 ·generalize hj : (eS step s0 t.nodes).2 = j at hq
  cases j with
  | none => dsimp only at hq ⊢; rw [AU]; exact hq
  | some c => dsimp only at hq ⊢; rw [AU]; exact hq
theorem FX {n0 : Nat} {st : St} {Q : Exit → St → Prop} {f : Operand} {params : Array Tmp} {assign body : Code} {t : Ex} (pre : σ → List aC) (s0 : σ) (n kt : Nat) (lF : st.mem = pre s0) (hn : ∀ s, (pre s).length = n) (FU : kt < n)
  (ht : ∀ s, (pre s)[kt]? = some (.box (aq t))) (hb : ∀ s, (pre s).all (az (n + 1)) = true) (yZ : st.fr.all (au (n + 1)) = true) (hf : st.eval f = .bp (.func 242) [] [.ptr kt 0]) (hp : params.size = 1) (step : σ → Ex → σ × Option Code) {B : Nat} (hB : B ≤ 1048576) (ka : t.cd ≤ B)
  (u7 : ∀ s u, u.cd ≤ B → ∀ (l : Nat) (LR LB : aC), az (n + 1) LR = true → az (n + 1) LB = true → cD Tryz.prog (some l) (n + 1) assign { fr := kM params.toList [bT u] st.fr, mem := pre s ++ [LR] } fun ex oz => ex = .normal ∧ oz.mem[n]? = some LR ∧
   cD Tryz.prog (some l) (n + 1) body { oz with mem := oz.mem.set n LB } fun ex tp => nn ex = some (step s u).2 ∧ tp.mem[n]? = some LB ∧ tp.mem.take n = pre (step s u).1)
  (hq : match (eS step s0 t.nodes).2 with
   | none => Q .normal { st with mem := pre (eS step s0 t.nodes).1 ++ [.dead] }
   | some c => cD Tryz.prog none n0 c { st with mem := pre (eS step s0 t.nodes).1 ++ [.dead] } Q) : cD Tryz.prog none n0 (.rangeFunc f params assign body) st Q :=
 vd pre s0 n kt lF hn FU ht hb yZ hf hp step hB ka (fun _ => True) (fun _ _ => trivial) (fun s u hu _ => u7 s u hu) hq
end
end Go.Proofs.YtnboooapeopjoaaGreatDoor
end

section
namespace Go.Proofs.YtnboooapeopjoaaGreatDoor
open Go.Eng
variable [aA]
mutual
def Ty.wt : Ty → Nat
 | .mk _ m n ts fs => 1 + m.size + n.size + A2 ts + A3 fs
def A2 : List Ty → Nat
 | [] => 0
 | t :: r => t.wt + A2 r
def Fd.wt : Fd → Nat
 | .mk n (.mk _ m n' ts fs) _ => 1 + n.size + m.size + n'.size + A2 ts + A3 fs
def A3 : List Fd → Nat
 | [] => 0
 | f :: r => f.wt + A3 r
end
theorem Fd.jT (f : Fd) : f.wt = f.name.size + f.ty.wt := by
 obtain ⟨n', ⟨k, m, n, ts, fs⟩, o⟩ := f
 simp only [Fd.wt,Ty.wt,Fd.name,Fd.ty]; omega
theorem FY (ts : List Ty) : A2 ts = aO Ty.wt ts := by induction ts with | nil => rfl | cons t r ih => simp [A2, aO, ih]
theorem F0 (ts : List Fd) : A3 ts = aO Fd.wt ts := by induction ts with | nil => rfl | cons t r ih => simp [A3, aO, ih]
theorem Ty.jT (t : Ty) : t.wt = 1 + t.mod.size + t.name.size + aO Ty.wt t.args + aO Fd.wt t.aJ := by
 obtain ⟨k, m, n, ts, fs⟩ := t
 simp only [Ty.wt,FY,F0,Ty.mod,Ty.name,Ty.args,Ty.aJ]
theorem qR {α : Type} {g h : α → Nat} (hle : ∀ a, g a ≤ h a) (l : List α) : aO g l ≤ aO h l := by
 induction l with
 | nil => exact Nat.le_refl _
 | cons a r ih => simp only [aO]; have := hle a; omega
theorem Ty.ve (t : Ty) : 1 + t.mod.size + t.name.size + aO Ty.wt t.parts ≤ t.wt := by
 rw [t.jT, Ty.parts, gj, rZ]
 have := qR (g := fun f : Fd => f.ty.wt) (h := Fd.wt) (fun f => by rw [f.jT]; omega) t.aJ
 omega
theorem Ty.A4 : ∀ (N : Nat) (t : Ty), t.size ≤ N → t.size ≤ t.wt := by
 intro N
 induction N with
 | zero => intro t h; have := t.size_pos; omega
 | succ N ih =>
  intro t hN
  have h1 := t.cE
  have h2 := t.ve
  have gen : ∀ (l : List Ty), aO Ty.size l ≤ N → aO Ty.size l ≤ aO Ty.wt l := by
   intro l
   induction l with
   | nil => intro _; exact Nat.le_refl _
   | cons a r MR =>
    intro hl
    simp only [aO] at hl ⊢
    have := ih a (by omega); have := MR (by omega); omega
  have := gen t.parts (by omega)
  omega
theorem Ty.ca (t : Ty) : t.size ≤ t.wt := Ty.A4 _ t (Nat.le_refl _)
theorem Ty.r9 : ∀ (N : Nat) (t : Ty), t.size ≤ N → ∀ v ∈ t.nodes, v.wt ≤ t.wt := by
 intro N
 induction N with
 | zero => intro t h; have := t.size_pos; omega
 | succ N ih =>
  intro t hN v hv
  have h1 := t.cE
  have h2 := t.ve
  rw [t.fq] at hv
  rcases List.mem_cons.1 hv with rfl | hv
  ·exact Nat.le_refl _
  ·obtain ⟨p, hp, hv⟩ := List.mem_flatMap.1 hv
   obtain ⟨i, hi⟩ := List.mem_iff_getElem?.1 hp
   have e1 := bG Ty.size hi
   have e2 := bG Ty.wt hi
   have := ih p (by omega) v hv
   omega
theorem Ty.vf {t v : Ty} (hv : v ∈ t.nodes) : v.wt ≤ t.wt := Ty.r9 _ t (Nat.le_refl _) v hv
theorem Ty.mod_lt (t : Ty) : t.mod.size < t.wt := by rw [t.jT]; omega
theorem Ty.UF {t : Ty} {n : Nat} (h : t.wt ≤ n + 1) : ∀ v ∈ t.nodes, v.mod.size ≤ n := fun v hv => by
 have := Ty.vf hv
 have := v.mod_lt
 omega
def Lb.wt (l : Lb) : Nat := 1 + l.name.size + l.var.size + l.ty.wt
mutual
def Ex.wt : Ex → Nat
 | .mk _ m n t _ ts ls ks => 1 + m.size + n.size + t.size + aO Ty.wt ts + aO Lb.wt ls + A5 ks
def A5 : List Ex → Nat
 | [] => 0
 | e :: r => e.wt + A5 r
end
theorem Jj (ts : List Ex) : A5 ts = aO Ex.wt ts := by induction ts with | nil => rfl | cons t r ih => simp [A5, aO, ih]
theorem Ex.jT (t : Ex) : t.wt = 1 + t.mod.size + t.name.size + t.text.size + aO Ty.wt t.types + aO Lb.wt t.labels + aO Ex.wt t.kids := by
 obtain ⟨k, m, n, x, i, ts, ls, ks⟩ := t
 rw [Ex.wt, Jj]; rfl
theorem Ex.A6 : ∀ (N : Nat) (t : Ex), t.cd ≤ N → t.cd ≤ t.wt := by
 intro N
 induction N with
 | zero => intro t h; have := t.fu; omega
 | succ N ih =>
  intro t hN
  have h1 := t.oj
  have h2 := t.jT
  have gen : ∀ (l : List Ex), aO Ex.cd l ≤ N → aO Ex.cd l ≤ aO Ex.wt l := by
   intro l
   induction l with
   | nil => intro _; exact Nat.le_refl _
   | cons a r MR =>
    intro hl
    simp only [aO] at hl ⊢
    have := ih a (by omega); have := MR (by omega); omega
  have h3 := gen t.kids (by omega)
  have h4 := qR (g := Ty.size) (h := Ty.wt) Ty.ca t.types
  have h5 := qR (g := Lb.cd) (h := Lb.wt) (fun l => by unfold Lb.cd Lb.wt; have := l.ty.ca; omega) t.labels
  omega
theorem Ex.fX (t : Ex) : t.cd ≤ t.wt := Ex.A6 _ t (Nat.le_refl _)
theorem Ex.r9 : ∀ (N : Nat) (t : Ex), t.cd ≤ N → ∀ v ∈ t.nodes, v.wt ≤ t.wt := by
 intro N
 induction N with
 | zero => intro t h; have := t.fu; omega
 | succ N ih =>
  intro t hN v hv
  have h1 := t.om
  have h2 := t.jT
  rw [t.fq] at hv
  rcases List.mem_cons.1 hv with rfl | hv
  ·exact Nat.le_refl _
  ·obtain ⟨p, hp, hv⟩ := List.mem_flatMap.1 hv
   obtain ⟨i, hi⟩ := List.mem_iff_getElem?.1 hp
   have e1 := bG Ex.cd hi
   have e2 := bG Ex.wt hi
   have := ih p (by omega) v hv
   omega
theorem Ex.vf {t v : Ex} (hv : v ∈ t.nodes) : v.wt ≤ t.wt := Ex.r9 _ t (Nat.le_refl _) v hv
theorem Ex.QS {e : Ex} {p : Ty} (hp : p ∈ e.own) : p.wt < e.wt := by
 have h := e.jT
 unfold Ex.own at hp
 rcases List.mem_append.1 hp with hp | hp
 ·obtain ⟨i, hi⟩ := List.mem_iff_getElem?.1 hp
  have := bG Ty.wt hi
  omega
 ·split at hp
  ·obtain ⟨l, hl, rfl⟩ := List.mem_map.1 hp
   obtain ⟨i, hi⟩ := List.mem_iff_getElem?.1 hl
   have h1 := bG Lb.wt hi
   have h2 : l.wt = 1 + l.name.size + l.var.size + l.ty.wt := rfl
   omega
  ·cases hp
theorem Ex.mod_lt (t : Ex) : t.mod.size < t.wt := by rw [t.jT]; omega
theorem Ex.F1 (t : Ex) : t.labels.length < t.wt := by
 have h1 := bm Lb.wt (fun l => by unfold Lb.wt; omega) t.labels
 rw [t.jT]; omega
theorem Lb.Jk {t : Ex} {l : Lb} (hl : l ∈ t.labels) : l.wt < t.wt := by
 obtain ⟨i, hi⟩ := List.mem_iff_getElem?.1 hl
 have h1 := bG Lb.wt hi
 rw [t.jT]; omega
def dH (d : Dc) : List V := [num d.kind, str d.name, bl d.exported, bl d.deprecated, str d.note, .slice (d.params.map cb)] ++ aj d.lower ++ aj d.upper ++ aj d.type ++ aq d.expr ++ [str d.mod, str d.target]
theorem A7 (d : Dc) : aB d = .agg (dH d) := rfl
def Dc.cd (d : Dc) : Nat := 1 + d.params.length + aO (fun p => p.bound.size) d.params + d.lower.size + d.upper.size + d.type.size + d.expr.cd
theorem Dc.fu (d : Dc) : 0 < d.cd := by unfold Dc.cd; omega
def Md.cd (m : Md) : Nat := 1 + m.imports.length + aO Dc.cd m.decls
def oo (m : Md) : List V := [str m.path, .slice (m.imports.map a7), .slice (m.decls.map aB)]
theorem nO (m : Md) : cM m = .agg (oo m) := rfl
def Pm.wt (p : Pm) : Nat := 1 + p.name.size + p.bound.wt
def Im.wt (i : Im) : Nat := 1 + i.path.size + i.alias.size
def Dc.wt (d : Dc) : Nat := 1 + d.name.size + d.note.size + aO Pm.wt d.params + d.lower.wt + d.upper.wt + d.type.wt + d.expr.wt + d.mod.size + d.target.size
def Md.wt (m : Md) : Nat := 1 + m.path.size + aO Im.wt m.imports + aO Dc.wt m.decls
theorem Jl (l : List Pm) : l.length + aO (fun p => p.bound.size) l ≤ aO Pm.wt l := by
 induction l with
 | nil => exact Nat.le_refl _
 | cons a r ih => have := a.bound.ca; simp only [aO,List.length_cons,Pm.wt]; omega
theorem Dc.fX (d : Dc) : d.cd ≤ d.wt := by
 have h1 := Jl d.params
 have h2 := d.lower.ca
 have h3 := d.upper.ca
 have h4 := d.type.ca
 have h5 := d.expr.fX
 unfold Dc.cd Dc.wt
 omega
theorem Md.fX (m : Md) : m.cd ≤ m.wt := by
 have h1 := qR (g := Dc.cd) (h := Dc.wt) Dc.fX m.decls
 have h2 := bm Im.wt (fun l => by unfold Im.wt; omega) m.imports
 unfold Md.cd Md.wt
 omega
end Go.Proofs.YtnboooapeopjoaaGreatDoor
end

section
namespace Go.Proofs.YtnboooapeopjoaaGreatDoor
open Go.Eng
open Nat renaming reduceAdd → zA, reduceLT → zB, reduceLeDiff → zC, reduceMul → zD, reduceEqDiff → zE, reduceSub → zF
variable [aA]
set_option maxHeartbeats 4000000
set_option maxRecDepth 100000
attribute [local irreducible] runM dW pb bP jS Au Of
mutual
def Ex.depth : Ex → Nat
 | .mk _ _ _ _ _ _ _ ks => 1 + qS ks
def qS : List Ex → Nat
 | [] => 0
 | e :: r => max e.depth (qS r)
end
theorem yF (ts : List Ex) : qS ts = dX Ex.depth ts := by induction ts with | nil => rfl | cons t r ih => simp [qS, dX, ih]
theorem Ex.A8 (t : Ex) : t.depth = 1 + dX Ex.depth t.kids := by
 obtain ⟨k, m, n, x, i, ts, ls, ks⟩ := t
 rw [Ex.depth, yF]; rfl
theorem Ex.wx : ∀ (N : Nat) (t : Ex), t.cd ≤ N → t.depth ≤ t.cd := by
 intro N
 induction N with
 | zero => intro t h; have := t.fu; omega
 | succ N ih =>
  intro t hN
  rw [Ex.A8]
  have h1 := t.om
  have := u5 Ex.depth (l := t.kids) (B := aO Ex.cd t.kids) fun i a ha => by
   have := bG Ex.cd ha
   have := ih a (by omega)
   omega
  omega
theorem A9 (x : Ex) (hl : x.kids.length ≤ 1048576) (hd : x.depth ≤ 1048576) (jM : ∀ (i : Nat) (k : Ex), x.kids[i]? = some k → aT Tryz.prog 191 [bT k] (num k.depth)) : ∃ r, (fun v => v = num x.depth) r ∧ aT Tryz.prog 191 [bT x] r := by
 refine TY tt_ok (fn := Tryz.f191) Tryz.func191 rfl Tryz.call191 ?_
 simp only [ck,bA,Tryz.ntmps191,List.length_cons,List.length_nil,zA,zF,List.replicate_succ,List.replicate_zero]
 have hde := x.A8
 simp only [aI,aq]
 refine im tt_ok 20 [0,2,2] [] rfl rfl fun K hK => ?_
 simp only [ae,go_sem,List.take_length]
 refine hK _ _ rfl ?_
 simp only [LA,zA,zE]
 refine im tt_ok 20 [0,0,0,2] [] rfl rfl fun K hK => ?_
 simp only [ae,go_sem,List.take_length]
 refine hK _ _ rfl ?_
 simp only [LA,zA,zE]
 refine uK ?_
 refine im tt_ok 20 [0,0,0,0,0,0,1,2,2,2] [] rfl rfl fun K hK => ?_
 simp only [ae,go_sem,List.take_length]
 refine hK _ _ rfl ?_
 simp only [LA,zA,zE]
 refine uL ?_
 refine Il [9,3] [num 0, num 0] 1 [false,false,true,true,false,false,false,true,true,true] (fun vs => ((x.kids.length : Int) - intOf (vs.headD .undef)).toNat) (fun vs => ∃ (i : Nat), vs = [num i, num (dX Ex.depth (x.kids.take i) : Nat)] ∧ i ≤ x.kids.length) (by omega) (by simp only [bc,au,aD,az,zB,kC]) (by simp only [bc,au,aD,az,zB,kC]) (by rfl) (⟨0, rfl, by omega⟩) fun vs hI => ?_
 obtain ⟨i, rfl, hi⟩ := hI
 simp only [bc,au,aD,az,zB,pj,List.set_cons_zero,List.set_cons_succ,kC]
 refine im tt_ok 20 (rp 10 0 [2]) [] rfl rfl fun K hK => ?_
 simp only [ae,go_sem,List.take_length]
 refine hK _ _ rfl ?_
 simp only [LA,zA,zE]
 refine uK ?_
 refine TW rfl (fun mq => ?_) (fun mq => ?_)
 ·have aZ : i < x.kids.length := by simpa using mq
  obtain ⟨k, hx⟩ : ∃ k, x.kids[i]? = some k := ⟨_, List.getElem?_eq_getElem aZ⟩
  have hk := jM i k hx
  rw [aI] at hk
  simp only [aq] at hk
  have hw := aU i (by omega)
  refine yf ?_
  show Go.Eng.Ex _ _ _ _ _ _
  refine uK ?_
  refine uL ?_
  refine im tt_ok 20 [0,0,0,0,0,2,0,0,0,0,0,1,1] [] rfl rfl fun K hK => ?_
  simp only [hw,cX,hx,aI,aq,ae,go_sem,List.take_length]
  refine hK _ _ rfl ?_
  simp only [LA,zA,zE]
  refine lM tt_ok 20 [0,0,0,2,0,0,0,0,0,0,0,0,0,2,2,2,2] [] (by kernel_rfl) rfl rfl fun K hK => ?_
  try simp only [ck]
  refine Ii 3 fun K1 Jm => ?_
  simp only [hw,cX,hx,aI,aq,ae,go_sem,List.take_length]
  refine Ij (⟨_, rfl, hk⟩) ?_
  rintro _ rfl
  try simp only [hw,cX,hx,aI,aq,ae,go_sem,List.take_length]
  refine Jm _ ?_
  simp only [hw,cX,hx,aI,aq,ae,go_sem,List.take_length]
  refine hK _ _ rfl ?_
  simp only [LA,zA,zE]
  show Go.Eng.Ex _ _ _ _ _ _
  refine lM tt_ok 20 (rp 9 0 [2,0,0,0,0,0,0,0,2]) [] (by kernel_rfl) rfl rfl fun K hK => ?_
  simp only [hw,cX,hx,aI,aq,ae,go_sem,List.take_length]
  refine hK _ _ rfl ?_
  simp only [LA,zA,zE]
  refine ⟨[_, _], ?_, ?_, 1, [false,false,true,true,false,false,false,true,true,true], by omega, by simp only [bc,au,aD,az,zB,kC], by simp only [bc,au,aD,az,zB,kC], by simp only [bc,au,aD,az,zB,pj,List.set_cons_zero,List.set_cons_succ,kC]; rfl⟩
  ·refine ⟨i + 1, ?_, aZ⟩
   rw [jL Ex.depth hx, ← yz]
  ·simp only [intOf,List.headD_cons]; omega
 ·have G6 : ¬ i < x.kids.length := by simpa using mq
  have gv : i = x.kids.length := by omega
  subst gv
  try rw [List.take_length]
  have hw := aU (dX Ex.depth x.kids) (by omega)
  have hz : ((dX Ex.depth x.kids + 1 : Nat) : Int) = (x.depth : Int) := by omega
  refine Er ?_
  show Go.Eng.Ex _ _ _ _ _ _
  refine im tt_ok 20 (0::0::2::(rp 15 0 [1,1])) [] rfl rfl fun K hK => ?_
  simp only [hw,hz,ae,go_sem,List.take_length]
  refine hK _ _ rfl ?_
  simp only [LA,zA,zE]
  exact Ig ⟨.inl rfl, _, rfl, rfl⟩
theorem Dh : ∀ (N : Nat) (x : Ex), x.cd ≤ N → N ≤ 1048576 → aT Tryz.prog 191 [bT x] (num x.depth) := by
 intro N
 induction N with
 | zero => intro x h; have := x.fu; omega
 | succ N ih =>
  intro x hN hb
  have h2 := x.nN
  have h4 := Ex.wx _ x (Nat.le_refl _)
  obtain ⟨_, rfl, h⟩ := A9 x (by omega) (by omega) fun i k hk => ih k (by
   have h1 := bG Ex.cd hk
   have h3 := x.om
   omega) (by omega)
  exact h
end Go.Proofs.YtnboooapeopjoaaGreatDoor
end

section
namespace Go.Proofs.YtnboooapeopjoaaGreatDoor
open Go.Eng
open Nat renaming reduceAdd → zA, reduceLT → zB, reduceLeDiff → zC, reduceMul → zD, reduceEqDiff → zE, reduceSub → zF
variable [aA]

theorem EL (e : Ex) (hl : e.types.length + e.labels.length ≤ 34359738368) : aT Tryz.prog 230 [bT e] (.slice (aE e.own)) := by
 have G3 : e.types.length ≤ 34359738368 := by omega
 obtain ⟨k, m, n, x, z, ts, ls, ks⟩ := e
 simp only [Ex.types,Ex.labels] at hl G3
 refine iS tt_ok (fn := Tryz.f230) Tryz.func230 rfl Tryz.call230 ?_
 simp only [ck,bA,Tryz.ntmps230,List.length_cons,List.length_nil,zA,zF,List.replicate_succ,List.replicate_zero]
 refine ai tt_ok fun K hK => ?_
 simp only [bT,go_sem]
 refine hK _ ?_
 refine ai tt_ok fun K hK => ?_
 simp only [bT,go_sem]
 refine .inr <| .inl ⟨_, _, aF.live (by simp only [bT,ab,go_sem,List.take_length]) (ji (aE ts) (km ts 0) (by rw [ab]; exact G3)) rfl _, ?_⟩
 try simp only [bT,ab,go_sem]
 refine hK _ ?_
 refine aS ?_
 refine ai tt_ok fun K hK => ?_
 simp only [go_sem]
 refine hK _ ?_
 by_cases hk : k = 8
 ·have hd : decide (k = 8) = true := by simpa using hk
  rw [hd]
  refine aL rfl ?_
  refine ai tt_ok fun K hK => ?_
  simp only [List.length_map,go_sem]
  refine hK _ ?_
  refine bf (cA (fun N st => ∃ (i b7 : Nat) (acc : List Ty), N = ls.length - i ∧ i ≤ ls.length ∧ acc = ts ++ (ls.take i).map Lb.ty ∧
   st = { fr := [.undef, .ptr 0 0, .undef, .ms 1 b7 0 acc.length, .undef, .undef, .undef, .undef, .undef, .undef, .undef, .undef, .undef, .slice (ls.map aX), num ls.length, num i] ++ List.replicate 10 .undef, mem := [.box (bT (.mk k m n x z ts ls ks)).cells, .rows b7 5 (aE acc)] }) ls.length ?_ ?_)
  ·exact ⟨2, (false::true::false::true::(rp 9 false [true,true,true])), by omega, by simp only [bc,au,aD,az,zB,kC], by simp only [bc,au,aD,az,zB,kC], 0, 1, ts, by omega, by omega, by simp, rfl⟩
  ·rintro N st ⟨i, b7, acc, rfl, hi, lQ, rfl⟩
   have Sp : acc.length ≤ 34359738367 ∨ i = ls.length := by
    rw [lQ]; simp; omega
   simp only [ck,List.replicate_succ,List.replicate_zero,bT,V.cells]
   by_cases aZ : i < ls.length
   ·have hd := jf aZ
    have I7 : acc.length ≤ 34359738367 := by omega
    refine ai tt_ok fun K hK => ?_
    simp only [hd,go_sem]
    refine hK _ ?_
    refine aS (aL rfl (bn ?_))
    refine aS (bf ?_)
    obtain ⟨f, hf⟩ : ∃ f, ls[i]? = some f := ⟨_, List.getElem?_eq_getElem aZ⟩
    have tC : (ls.take (i + 1)).map Lb.ty = (ls.take i).map Lb.ty ++ [f.ty] := by
     rw [List.take_add_one, hf]; simp
    refine ai tt_ok fun K hK => ?_
    simp only [List.getElem?_map,hf,aX,aj,go_sem]
    refine hK _ ?_
    refine aK tt_ok fun K hK => ?_
    simp only [ab,I7,go_sem]
    refine hK _ ?_
    refine aK tt_ok fun K hK => ?_
    simp only [go_sem]
    refine hK _ ?_
    have hw := aU i (by omega)
    rw [hw]
    refine ⟨ls.length - (i + 1), by omega, 2, (false::true::false::true::(rp 9 false [true,true,true])), by omega, by simp only [bc,au,aD,az,zB,kC], by simp only [bc,au,aD,az,zB,kC], i + 1, b7 + 1, acc ++ [f.ty], rfl, aZ, by rw [lQ, tC]; simp, ?_⟩
    simp [rp,bc, cg, ay, aj]
   ·have hd := jg aZ
    refine ai tt_ok fun K hK => ?_
    simp only [hd,go_sem]
    refine hK _ ?_
    refine aS (aL rfl (dy ?_))
    have gB : i = ls.length := by omega
    subst gB
    show cD _ _ _ _ _ _
    refine ai tt_ok fun K hK => ?_
    simp only [go_sem]
    refine hK _ ?_
    refine aY ⟨.inl rfl, ?_⟩
    rw [List.take_length] at lQ
    have hr : aE (Ex.mk k m n x z ts ls ks).own = aE acc := by rw [lQ]; simp [Ex.own, Ex.types, Ex.kind, Ex.labels, hk]
    rw [hr]
    simp [qb, l4, oA, Tryz.f230, Fe, e8, cq, ab]
    rw [← ab]; simp
 ·have hd : decide (k = 8) = false := by simpa using hk
  rw [hd]
  refine aL rfl (bn ?_)
  show cD _ _ _ _ _ _
  refine ai tt_ok fun K hK => ?_
  simp only [go_sem]
  refine hK _ ?_
  refine aY ⟨.inl rfl, ?_⟩
  have hr : aE (Ex.mk k m n x z ts ls ks).own = aE ts := by simp [Ex.own, Ex.types, Ex.kind, Ex.labels, hk]
  rw [hr]
  simp [qb, l4, oA, Tryz.f230, Fe, e8, cq, ab]
  rw [← ab]; simp

end Go.Proofs.YtnboooapeopjoaaGreatDoor
end

section
namespace Go.Proofs.YtnboooapeopjoaaGreatDoor
open Go.Eng
open Nat renaming reduceAdd → zA, reduceLT → zB, reduceLeDiff → zC, reduceMul → zD, reduceEqDiff → zE, reduceSub → zF
variable [aA]
def Di (s : Int) (u : Ty) : Int := IntKind.i64.wrap (s + (u.size : Int))
def EM (s : Int) (e : Ex) : Int := e.own.foldl Di (IntKind.i64.wrap (s + 1))
theorem xb : ∀ (l : List Ty) (a : Nat), a + aO Ty.size l ≤ 1152921504606846976 → l.foldl Di (a : Int) = ((a + aO Ty.size l : Nat) : Int)
 | [], a, _ => rfl
 | u :: r, a, h => by
  simp only [aO] at h ⊢
  rw [List.foldl_cons, Di, qE a u.size (by omega), xb r _ (by omega)]
  congr 1; omega
theorem vg : ∀ (l : List Ex) (a : Nat), a + aO (fun e => 1 + aO Ty.size e.own) l ≤ 1152921504606846976 → l.foldl EM (a : Int) = ((a + aO (fun e => 1 + aO Ty.size e.own) l : Nat) : Int)
 | [], a, _ => rfl
 | e :: r, a, h => by
  simp only [aO] at h ⊢
  rw [List.foldl_cons, EM, aU a (by omega), xb _ _ (by omega), vg r _ (by omega)]
  congr 1; omega


theorem xd (e : Ex) (he : e.cd ≤ 1048576) : aT Tryz.prog 177 [bT e] (num e.size) := by
 have ka := Ex.mo _ e (Nat.le_refl _)
 refine iS tt_ok (fn := Tryz.f177) Tryz.func177 rfl Tryz.call177 ?_
 simp only [ck,bA,Tryz.ntmps177,List.length_cons,List.length_nil,zA,zF,List.replicate_succ,List.replicate_zero]
 have QT := fun B0 B1 h => A1 e [B0, B1] h
 rw [aI] at QT ⊢
 simp only [aq] at QT ⊢
 refine ai tt_ok fun K hK => ?_
 simp only [go_sem]
 refine hK _ ?_
 refine ai tt_ok fun K hK => ?_
 simp only [go_sem]
 refine hK _ ?_
 refine aS ?_
 refine ai tt_ok fun K hK => ?_
 simp only [go_sem]
 refine .inr <| .inl ⟨_, _, QT _ _ rfl, ?_⟩
 try simp only [go_sem]
 refine hK _ ?_
 refine bf (FX (t := e) (B := 1048576) (fun s : Int => [.box (aq e), .box [num s], .box (aq e)]) 0 3 2 rfl (fun _ => rfl) (by omega) (fun _ => rfl) (fun _ => rfl) rfl rfl rfl (fun s u => (EM s u, none)) (by omega) he ?_ ?_)
 ·intro s u hu l LR LB hLR Sr
  rw [aI]
  simp only [ck,kM,aq,List.set_cons_succ,List.set_cons_zero]
  have S2 := u.Dg
  have aeU := u.yE
  have jD := EL u (by omega)
  have G6 := bm Ty.size Ty.size_pos u.own
  rw [aI] at jD
  simp only [aq] at jD
  refine aK tt_ok fun K hK => ?_
  simp only [go_sem]
  refine hK _ ?_
  refine ⟨rfl, rfl, bf ?_⟩
  refine aS ?_
  refine aK tt_ok fun K hK => ?_
  simp only [go_sem]
  refine hK _ ?_
  refine aS ?_
  refine aK tt_ok fun K hK => ?_
  simp only [go_sem]
  refine .inl ⟨_, _, by simp only [ab,go_sem,List.take_length], jD, ?_⟩
  try simp only [ab,go_sem]
  refine hK _ ?_
  obtain ⟨ps, vX⟩ : ∃ ps, ps = u.own := ⟨_, rfl⟩
  have hnw : EM s u = ps.foldl Di (IntKind.i64.wrap (s + 1)) := by rw [vX]; rfl
  rw [hnw, ← vX]
  rw [← vX] at S2 G6
  refine bf (cA (fun N st => ∃ (i : Nat), N = ps.length - i ∧ i ≤ ps.length ∧
   st = { fr := [.undef, .undef, .undef, .ptr 1 0, .undef, .undef, .undef, .undef, .undef, .undef, .undef, .undef, .undef, .slice (aE ps), num ps.length, num i] ++ List.replicate 9 .undef, mem := [.box (aq e), .box [num ((ps.take i).foldl Di (IntKind.i64.wrap (s + 1)))], .box (aq e), LB] }) ps.length ?_ ?_)
  ·exact ⟨4, (false::false::false::true::(rp 9 false [true,true,true])), by omega, by simp only [bc,au,aD,az,zB,kC], by have h4 : az 4 LB = true := Sr; simp only [ck,List.all_cons,List.all_nil,h4]; rfl, 0, by omega, by omega, rfl⟩
  ·rintro N st ⟨i, rfl, hi, rfl⟩
   simp only [ck,List.replicate_succ,List.replicate_zero]
   by_cases aZ : i < ps.length
   ·have hd := jf aZ
    refine ai tt_ok fun K hK => ?_
    simp only [hd,go_sem]
    refine hK _ ?_
    refine aS (aL rfl (bn ?_))
    refine aS (bf ?_)
    obtain ⟨v, hv⟩ : ∃ v, ps[i]? = some v := ⟨_, List.getElem?_eq_getElem aZ⟩
    have S7 := bG Ty.size hv
    have SO : (ps.take (i + 1)).foldl Di (IntKind.i64.wrap (s + 1)) = IntKind.i64.wrap ((ps.take i).foldl Di (IntKind.i64.wrap (s + 1)) + (v.size : Int)) := by
     rw [List.take_add_one, hv, List.foldl_append]; rfl
    have G1 := j5 v (by omega)
    rw [ay] at G1
    simp only [aj] at G1
    refine ai tt_ok fun K hK => ?_
    simp only [bt,hv,ay,aj,go_sem]
    refine hK _ ?_
    refine nx tt_ok bj [⟨.r, 0, [], [], []⟩, ⟨.r, 0, [], [], []⟩, ⟨.n, 0, [], [], []⟩, ⟨.n, 0, [], [], []⟩, ⟨.w, 0, [], [], []⟩] 1 (by kernel_rfl) fun K hK => ?_
    simp only [go_sem,List.replicate]
    refine ⟨_, _, by simp only [go_sem,List.take_length], .inl (G1), ?_⟩
    try simp only [go_sem,List.replicate]
    refine hK _ ?_
    rw [← SO]
    refine aK tt_ok fun K hK => ?_
    simp only [go_sem]
    refine hK _ ?_
    have kg := aU i (by omega)
    rw [kg]
    exact ⟨ps.length - (i + 1), by omega, 4, (false::false::false::true::(rp 9 false [true,true,true])), by omega, by simp only [bc,au,aD,az,zB,kC], by have h4 : az 4 LB = true := Sr; simp only [ck,List.all_cons,List.all_nil,h4]; rfl, i + 1, rfl, aZ, rfl⟩
   ·have hd := jg aZ
    refine ai tt_ok fun K hK => ?_
    simp only [hd,go_sem]
    refine hK _ ?_
    refine aS (aL rfl (dy ?_))
    have gB : i = ps.length := by omega
    subst gB
    try rw [List.take_length]
    exact ⟨rfl, rfl, rfl⟩
 ·rw [pq, show (0 : Int) = ((0 : Nat) : Int) from rfl, vg _ _ (by rw [Ex.vb _ e (Nat.le_refl _)]; omega), Ex.vb _ e (Nat.le_refl _), Nat.zero_add]
  show cD _ _ _ _ _ _
  refine ai tt_ok fun K hK => ?_
  simp only [go_sem]
  refine hK _ ?_
  exact aY ⟨.inl rfl, rfl⟩
end Go.Proofs.YtnboooapeopjoaaGreatDoor
end

section
namespace Go.Proofs.YtnboooapeopjoaaGreatDoor
open Go.Eng
variable [aA]
end Go.Proofs.YtnboooapeopjoaaGreatDoor
end

section
namespace Go.Proofs.YtnboooapeopjoaaGreatDoor
open Go.Eng
open Nat renaming reduceAdd → zA, reduceLT → zB, reduceLeDiff → zC, reduceMul → zD, reduceEqDiff → zE, reduceSub → zF
variable [aA]
noncomputable def Ba {α : Type} (a b : α) : Bool := @decide (a = b) (Classical.propDecidable _)
theorem eU {α : Type} {a b : α} (h : a = b) : Ba a b = true := by unfold Ba; exact @decide_eq_true _ (Classical.propDecidable _) h
theorem cn {α : Type} {a b : α} (h : ¬ a = b) : Ba a b = false := by unfold Ba; exact @decide_eq_false _ (Classical.propDecidable _) h
theorem vh (a b : ByteArray) : (a.toList == b.toList) = Ba a b := by
 have inj : a.toList = b.toList → a = b := fun h => by
  rw [ByteArray.toList_eq, ByteArray.toList_eq] at h
  exact ByteArray.ext (Array.toList_inj.1 h)
 by_cases h : a = b
 ·rw [eU h, h]; simp
 ·rw [cn h]; simpa using fun e => h (inj e)

theorem Bb (g : FuncId) (ts us : List Ty) (hl : ts.length ≤ 1048576) (hg : ∀ (i : Nat) (t u : Ty), ts[i]? = some t → us[i]? = some u → aT Tryz.prog g [bg t, bg u] (bl (Ba t u))) :
  aT Tryz.prog 224 [.slice (aE ts), .slice (aE us), .sc (.func (.func g) #[] #[])] (bl (Ba ts us)) := by
 refine iS tt_ok (fn := Tryz.f224) Tryz.func224 rfl Tryz.call224 ?_
 simp only [ck,bA,Tryz.ntmps224,List.length_cons,List.length_nil,zA,zF,List.replicate_succ,List.replicate_zero]
 refine ai tt_ok fun K hK => ?_
 simp only [go_sem]
 refine hK _ ?_
 refine aS ?_
 by_cases hlen : ts.length = us.length
 ·have hd : (!decide ((ts.length : Int) = (us.length : Int))) = false := by simp [hlen]
  refine ai tt_ok fun K hK => ?_
  simp only [ab,hd,go_sem]
  refine hK _ ?_
  refine aL rfl (bn ?_)
  show cD _ _ _ _ _ _
  refine aS ?_
  refine ai tt_ok fun K hK => ?_
  simp only [ab,go_sem]
  refine hK _ ?_
  refine bf (cA (fun N st => ∃ (i : Nat), N = ts.length - i ∧ i ≤ ts.length ∧ ts.take i = us.take i ∧
   st = { fr := [.undef, .slice (aE us), .sc (.func (.func g) #[] #[]), .undef, .undef, .undef, .undef, .undef, .undef, .undef, .undef, .undef, .undef, .undef, .undef, .slice (aE ts), num ts.length, num i] ++ List.replicate 14 .undef, mem := [] }) ts.length ?_ ?_)
  ·exact ⟨0, (false::true::true::(rp 12 false [true,true,true])), by omega, by simp only [bc,au,aD,az,zB,kC], rfl, 0, by omega, by omega, by simp, rfl⟩
  ·rintro N' st ⟨i, rfl, hi, vY, rfl⟩
   simp only [ck,List.replicate_succ,List.replicate_zero]
   by_cases aZ : i < ts.length
   ·have hd := jf aZ
    refine ai tt_ok fun K hK => ?_
    simp only [hd,go_sem]
    refine hK _ ?_
    refine aS (aL rfl (bn ?_))
    refine aS (bf ?_)
    obtain ⟨t, ht⟩ : ∃ t, ts[i]? = some t := ⟨_, List.getElem?_eq_getElem aZ⟩
    obtain ⟨u, hu⟩ : ∃ u, us[i]? = some u := ⟨_, List.getElem?_eq_getElem (by omega)⟩
    have QU := hg i t u ht hu
    rw [ay, ay] at QU
    simp only [aj] at QU
    refine ai tt_ok fun K hK => ?_
    simp only [bt,ht,ay,aj,go_sem]
    refine hK _ ?_
    refine ai tt_ok fun K hK => ?_
    simp only [bt,hu,ay,aj,go_sem]
    refine hK _ ?_
    refine ai tt_ok fun K hK => ?_
    simp only [go_sem]
    refine .inl ⟨_, _, by simp only [go_sem,List.take_length], QU, ?_⟩
    try simp only [go_sem]
    refine hK _ ?_
    have QV : ∀ h : t = u, ts.take (i + 1) = us.take (i + 1) := fun h => by rw [List.take_add_one, List.take_add_one, vY, ht, hu, h]
    by_cases MY : t = u
    ·rw [eU MY]
     refine aL rfl (bn ?_)
     show cD _ _ _ _ _ _
     refine aK tt_ok fun K hK => ?_
     simp only [go_sem]
     refine hK _ ?_
     have kg := aU i (by omega)
     rw [kg]
     exact ⟨ts.length - (i + 1), by omega, 0, (false::true::true::(rp 12 false [true,true,true])), by omega, by simp only [bc,au,aD,az,zB,kC], rfl, i + 1, rfl, aZ, QV MY, rfl⟩
    ·rw [cn MY]
     refine aL rfl ?_
     refine ai tt_ok fun K hK => ?_
     simp only [go_sem]
     refine hK _ ?_
     refine aY ⟨.inl rfl, ?_⟩
     rw [cn (fun e => MY (by rw [e, hu] at ht; exact (Option.some.inj ht).symm))]
     rfl
   ·have hd := jg aZ
    refine ai tt_ok fun K hK => ?_
    simp only [hd,go_sem]
    refine hK _ ?_
    refine aS (aL rfl (dy ?_))
    have gB : i = ts.length := by omega
    show cD _ _ _ _ _ _
    refine ai tt_ok fun K hK => ?_
    simp only [go_sem]
    refine hK _ ?_
    refine aY ⟨.inl rfl, ?_⟩
    rw [gB, List.take_length, hlen, List.take_length] at vY
    rw [eU vY]
    rfl
 ·have hd : (!decide ((ts.length : Int) = (us.length : Int))) = true := by simpa using fun e => hlen (by omega)
  refine ai tt_ok fun K hK => ?_
  simp only [ab,hd,go_sem]
  refine hK _ ?_
  refine aL rfl ?_
  refine ai tt_ok fun K hK => ?_
  simp only [go_sem]
  refine hK _ ?_
  refine aY ⟨.inl rfl, ?_⟩
  rw [cn (fun e => hlen (by rw [e]))]
  rfl

theorem Bc (g : FuncId) (ts us : List Fd) (hl : ts.length ≤ 1048576) (hg : ∀ (i : Nat) (t u : Fd), ts[i]? = some t → us[i]? = some u → aT Tryz.prog g [jA t, jA u] (bl (Ba t u))) :
  aT Tryz.prog 225 [.slice (a6 ts), .slice (a6 us), .sc (.func (.func g) #[] #[])] (bl (Ba ts us)) := by
 refine iS tt_ok (fn := Tryz.f225) Tryz.func225 rfl Tryz.call225 ?_
 simp only [ck,bA,Tryz.ntmps225,List.length_cons,List.length_nil,zA,zF,List.replicate_succ,List.replicate_zero]
 refine ai tt_ok fun K hK => ?_
 simp only [go_sem]
 refine hK _ ?_
 refine aS ?_
 by_cases hlen : ts.length = us.length
 ·have hd : (!decide ((ts.length : Int) = (us.length : Int))) = false := by simp [hlen]
  refine ai tt_ok fun K hK => ?_
  simp only [af,hd,go_sem]
  refine hK _ ?_
  refine aL rfl (bn ?_)
  show cD _ _ _ _ _ _
  refine aS ?_
  refine ai tt_ok fun K hK => ?_
  simp only [af,go_sem]
  refine hK _ ?_
  refine bf (cA (fun N st => ∃ (i : Nat), N = ts.length - i ∧ i ≤ ts.length ∧ ts.take i = us.take i ∧
   st = { fr := [.undef, .slice (a6 us), .sc (.func (.func g) #[] #[]), .undef, .undef, .undef, .undef, .undef, .undef, .undef, .undef, .undef, .undef, .undef, .undef, .slice (a6 ts), num ts.length, num i] ++ List.replicate 14 .undef, mem := [] }) ts.length ?_ ?_)
  ·exact ⟨0, (false::true::true::(rp 12 false [true,true,true])), by omega, by simp only [bc,au,aD,az,zB,kC], rfl, 0, by omega, by omega, by simp, rfl⟩
  ·rintro N' st ⟨i, rfl, hi, vY, rfl⟩
   simp only [ck,List.replicate_succ,List.replicate_zero]
   by_cases aZ : i < ts.length
   ·have hd := jf aZ
    refine ai tt_ok fun K hK => ?_
    simp only [hd,go_sem]
    refine hK _ ?_
    refine aS (aL rfl (bn ?_))
    refine aS (bf ?_)
    obtain ⟨t, ht⟩ : ∃ t, ts[i]? = some t := ⟨_, List.getElem?_eq_getElem aZ⟩
    obtain ⟨u, hu⟩ : ∃ u, us[i]? = some u := ⟨_, List.getElem?_eq_getElem (by omega)⟩
    have QU := hg i t u ht hu
    rw [bE, bE] at QU
    simp only [ck,aj] at QU
    refine ai tt_ok fun K hK => ?_
    simp only [bJ,ht,bE,aj,go_sem]
    refine hK _ ?_
    refine ai tt_ok fun K hK => ?_
    simp only [bJ,hu,bE,aj,go_sem]
    refine hK _ ?_
    refine ai tt_ok fun K hK => ?_
    simp only [go_sem]
    refine .inl ⟨_, _, by simp only [go_sem,List.take_length], QU, ?_⟩
    try simp only [go_sem]
    refine hK _ ?_
    have QV : ∀ h : t = u, ts.take (i + 1) = us.take (i + 1) := fun h => by rw [List.take_add_one, List.take_add_one, vY, ht, hu, h]
    by_cases MY : t = u
    ·rw [eU MY]
     refine aL rfl (bn ?_)
     show cD _ _ _ _ _ _
     refine aK tt_ok fun K hK => ?_
     simp only [go_sem]
     refine hK _ ?_
     have kg := aU i (by omega)
     rw [kg]
     exact ⟨ts.length - (i + 1), by omega, 0, (false::true::true::(rp 12 false [true,true,true])), by omega, by simp only [bc,au,aD,az,zB,kC], rfl, i + 1, rfl, aZ, QV MY, rfl⟩
    ·rw [cn MY]
     refine aL rfl ?_
     refine ai tt_ok fun K hK => ?_
     simp only [go_sem]
     refine hK _ ?_
     refine aY ⟨.inl rfl, ?_⟩
     rw [cn (fun e => MY (by rw [e, hu] at ht; exact (Option.some.inj ht).symm))]
     rfl
   ·have hd := jg aZ
    refine ai tt_ok fun K hK => ?_
    simp only [hd,go_sem]
    refine hK _ ?_
    refine aS (aL rfl (dy ?_))
    have gB : i = ts.length := by omega
    show cD _ _ _ _ _ _
    refine ai tt_ok fun K hK => ?_
    simp only [go_sem]
    refine hK _ ?_
    refine aY ⟨.inl rfl, ?_⟩
    rw [gB, List.take_length, hlen, List.take_length] at vY
    rw [eU vY]
    rfl
 ·have hd : (!decide ((ts.length : Int) = (us.length : Int))) = true := by simpa using fun e => hlen (by omega)
  refine ai tt_ok fun K hK => ?_
  simp only [af,hd,go_sem]
  refine hK _ ?_
  refine aL rfl ?_
  refine ai tt_ok fun K hK => ?_
  simp only [go_sem]
  refine hK _ ?_
  refine aY ⟨.inl rfl, ?_⟩
  rw [cn (fun e => hlen (by rw [e]))]
  rfl
theorem Ty.ext_iff (t u : Ty) : t = u ↔ t.kind = u.kind ∧ t.mod = u.mod ∧ t.name = u.name ∧ t.args = u.args ∧ t.aJ = u.aJ := by
 obtain ⟨k, m, n, ts, fs⟩ := t
 obtain ⟨k', m', n', ts', fs'⟩ := u
 simp [Ty.kind, Ty.mod, Ty.name, Ty.args, Ty.aJ]
theorem Fd.ext_iff (t u : Fd) : t = u ↔ t.name = u.name ∧ t.opt = u.opt ∧ t.ty = u.ty := by
 obtain ⟨n, t, o⟩ := t
 obtain ⟨n', t', o'⟩ := u
 simp only [Fd.name,Fd.opt,Fd.ty,Fd.mk.injEq]
 exact ⟨fun h => ⟨h.1, h.2.2, h.2.1⟩, fun h => ⟨h.1, h.2.2, h.2.1⟩⟩

theorem MZ (t u : Fd) (h : aT Tryz.prog 171 [bg t.ty, bg u.ty] (bl (Ba t.ty u.ty))) : aT Tryz.prog 226 [jA t, jA u] (bl (Ba t u)) := by
 refine iS tt_ok (fn := Tryz.f226) Tryz.func226 rfl Tryz.call226 ?_
 simp only [ck,bA,Tryz.ntmps226,List.length_cons,List.length_nil,zA,zF,List.replicate_succ,List.replicate_zero]
 rw [ay, ay] at h
 rw [bE, bE]
 simp only [ck,aj] at h ⊢
 have e1 := vh t.name u.name
 have hT : Tryz.prog.underlying 4 = some .bool := by kernel_rfl
 have e2 := fun x y => LZ (P := Tryz.prog) (T := 4) x y hT
 refine ai tt_ok fun K hK => ?_
 simp only [go_sem]
 refine hK _ ?_
 by_cases h1 : t.name = u.name
 ·rw [eU h1] at e1
  by_cases h2 : t.opt = u.opt
  ·have e3 : (t.opt == u.opt) = true := by simpa using h2
   refine ai tt_ok fun K hK => ?_
   simp only [e1,e2,e3,go_sem]
   refine .inl ⟨_, _, by simp only [go_sem,List.take_length], h, ?_⟩
   try simp only [go_sem]
   refine hK _ ?_
   refine aY ⟨.inl rfl, ?_⟩
   have hr : Ba t u = Ba t.ty u.ty := by
    by_cases h3 : t.ty = u.ty
    ·rw [eU h3, eU ((Fd.ext_iff t u).2 ⟨h1, h2, h3⟩)]
    ·rw [cn h3, cn fun e => h3 ((Fd.ext_iff t u).1 e).2.2]
   rw [hr]; rfl
  ·have e3 : (t.opt == u.opt) = false := by simpa using h2
   refine ai tt_ok fun K hK => ?_
   simp only [e1,e2,e3,go_sem]
   refine hK _ ?_
   refine aY ⟨.inl rfl, ?_⟩
   rw [cn fun e => h2 ((Fd.ext_iff t u).1 e).2.1]; rfl
 ·rw [cn h1] at e1
  refine ai tt_ok fun K hK => ?_
  simp only [e1,go_sem]
  refine hK _ ?_
  refine aY ⟨.inl rfl, ?_⟩
  rw [cn fun e => h1 ((Fd.ext_iff t u).1 e).1]; rfl
theorem Ty.F2 {t a : Ty} {i : Nat} (h : t.args[i]? = some a) : a.size < t.size := by
 have h1 : t.parts[i]? = some a := by
  unfold Ty.parts
  rw [List.getElem?_append_left (List.getElem?_eq_some_iff.1 h).1]; exact h
 have := bG Ty.size h1; have := t.cE; omega
theorem Ty.F3 {t : Ty} {f : Fd} {i : Nat} (h : t.aJ[i]? = some f) : f.ty.size < t.size := by
 have h1 : t.parts[t.args.length + i]? = some f.ty := by
  unfold Ty.parts
  rw [List.getElem?_append_right (by omega), Nat.add_sub_cancel_left, List.getElem?_map, h]; rfl
 have := bG Ty.size h1; have := t.cE; omega

theorem Bd : ∀ (N : Nat) (t u : Ty), t.size ≤ N → N ≤ 1048576 → aT Tryz.prog 171 [bg t, bg u] (bl (Ba t u)) := by
 intro N
 induction N with
 | zero => intro t u h; have := t.size_pos; omega
 | succ N ih =>
  intro t u hN hb
  have AQ := t.ew
  have hA := Bb 171 t.args u.args (by omega) fun i a b ha _ => ih a b (by have := Ty.F2 ha; omega) (by omega)
  have hF := Bc 226 t.aJ u.aJ (by omega) fun i a b ha _ => MZ a b (ih a.ty b.ty (by have := Ty.F3 ha; omega) (by omega))
  refine iS tt_ok (fn := Tryz.f171) Tryz.func171 rfl Tryz.call171 ?_
  simp only [ck,bA,Tryz.ntmps171,List.length_cons,List.length_nil,zA,zF,List.replicate_succ,List.replicate_zero]
  rw [ay, ay]
  simp only [aj]
  have e2 := vh t.mod u.mod
  have e3 := vh t.name u.name
  refine ai tt_ok fun K hK => ?_
  simp only [go_sem]
  refine hK _ ?_
  by_cases h1 : t.kind = u.kind
  ·have d1 : decide (t.kind = u.kind) = true := decide_eq_true h1
   by_cases h2 : t.mod = u.mod
   ·rw [eU h2] at e2
    by_cases h3 : t.name = u.name
    ·rw [eU h3] at e3
     by_cases h4 : t.args = u.args
     ·rw [eU h4] at hA
      by_cases h5 : t.aJ = u.aJ
      ·rw [eU h5] at hF
       refine ai tt_ok fun K hK => ?_
       simp only [d1,e2,e3,go_sem]
       refine .inl ⟨_, _, by simp only [go_sem,List.take_length], hA, ?_⟩
       try simp only [go_sem]
       refine .inl ⟨_, _, by simp only [go_sem,List.take_length], hF, ?_⟩
       try simp only [go_sem]
       refine hK _ ?_
       refine aY ⟨.inl rfl, ?_⟩
       rw [eU ((Ty.ext_iff t u).2 ⟨h1, h2, h3, h4, h5⟩)]; rfl
      ·rw [cn h5] at hF
       refine ai tt_ok fun K hK => ?_
       simp only [d1,e2,e3,go_sem]
       refine .inl ⟨_, _, by simp only [go_sem,List.take_length], hA, ?_⟩
       try simp only [go_sem]
       refine .inl ⟨_, _, by simp only [go_sem,List.take_length], hF, ?_⟩
       try simp only [go_sem]
       refine hK _ ?_
       refine aY ⟨.inl rfl, ?_⟩
       rw [cn fun e => h5 ((Ty.ext_iff t u).1 e).2.2.2.2]; rfl
     ·rw [cn h4] at hA
      refine ai tt_ok fun K hK => ?_
      simp only [d1,e2,e3,go_sem]
      refine .inl ⟨_, _, by simp only [go_sem,List.take_length], hA, ?_⟩
      try simp only [go_sem]
      refine hK _ ?_
      refine aY ⟨.inl rfl, ?_⟩
      rw [cn fun e => h4 ((Ty.ext_iff t u).1 e).2.2.2.1]; rfl
    ·rw [cn h3] at e3
     refine ai tt_ok fun K hK => ?_
     simp only [d1,e2,e3,go_sem]
     refine hK _ ?_
     refine aY ⟨.inl rfl, ?_⟩
     rw [cn fun e => h3 ((Ty.ext_iff t u).1 e).2.2.1]; rfl
   ·rw [cn h2] at e2
    refine ai tt_ok fun K hK => ?_
    simp only [d1,e2,go_sem]
    refine hK _ ?_
    refine aY ⟨.inl rfl, ?_⟩
    rw [cn fun e => h2 ((Ty.ext_iff t u).1 e).2.1]; rfl
  ·have d1 : decide (t.kind = u.kind) = false := decide_eq_false h1
   refine ai tt_ok fun K hK => ?_
   simp only [d1,go_sem]
   refine hK _ ?_
   refine aY ⟨.inl rfl, ?_⟩
   rw [cn fun e => h1 ((Ty.ext_iff t u).1 e).1]; rfl
end Go.Proofs.YtnboooapeopjoaaGreatDoor
end

section
namespace Go.Proofs.YtnboooapeopjoaaGreatDoor
open Go.Eng
variable [aA]
set_option maxRecDepth 100000
set_option maxHeartbeats 2000000
attribute [local irreducible] runM dW pb

def mr (id : Nat) : Code → Option (Array Oper)
 | .region j ops _ => if j = id then some ops else none
 | .seq a b => match mr id a with | some x => some x | none => mr id b
 | .cond _ a b => match mr id a with | some x => some x | none => mr id b
 | .block _ c => mr id c
 | .loop c => mr id c
 | _ => none
def M0 (id : Nat) (fn : Func) : Option (Array Oper) := match fn.body with | some b => mr id b | none => none
section
variable {t u : Ty} {i : Nat} {f g : Fd} (hf : t.aJ[i]? = some f) (hg : u.aJ[i]? = some g) {a0 a b c d : V} {K : St → Prop} {ops : Array Oper} (ho : M0 6 Tryz.f76 = some ops)
end

end Go.Proofs.YtnboooapeopjoaaGreatDoor
end

section
namespace Go.Proofs.YtnboooapeopjoaaGreatDoor
open Go.Eng
open Nat renaming reduceAdd → zA, reduceLT → zB, reduceLeDiff → zC, reduceMul → zD, reduceEqDiff → zE, reduceSub → zF
variable [aA]
set_option maxRecDepth 100000
set_option maxHeartbeats 2000000
attribute [local irreducible] runM dW pb
noncomputable def Dc.clear (d : Dc) : Bool := Ba d.lower d.upper && Ba d.upper d.type
noncomputable def Dc.size (d : Dc) : Nat :=
 1 + d.params.length + (if d.kind = 0 then d.type.size + (if d.clear = true then 0 else d.lower.size + d.upper.size)
  else if d.kind = 1 then d.type.size + d.expr.size + aO (fun p => p.bound.size) d.params else 0)
theorem Dc.size_le (d : Dc) : d.size ≤ d.cd := by
 have := Ex.mo _ d.expr (Nat.le_refl _)
 unfold Dc.size Dc.cd
 split
 ·split <;> omega
 ·split <;> omega
noncomputable def Md.size (m : Md) : Nat := 1 + m.imports.length + aO Dc.size m.decls

theorem F4 (d : Dc) (hd : d.cd ≤ 1048576) : aT Tryz.prog 176 [aB d] (bl d.clear) := by
 unfold Dc.cd at hd
 have hA := Bd d.lower.size d.lower d.upper (Nat.le_refl _) (by omega)
 have hB := Bd d.upper.size d.upper d.type (Nat.le_refl _) (by omega)
 rw [ay, ay] at hA hB
 simp only [aj] at hA hB
 refine iS tt_ok (fn := Tryz.f176) Tryz.func176 rfl Tryz.call176 ?_
 simp only [ck,bA,Tryz.ntmps176,List.length_cons,List.length_nil,zA,zF,List.replicate_succ,List.replicate_zero]
 rw [A7]
 simp only [ck,dH,aj,aq]
 refine ai tt_ok fun K hK => ?_
 simp only [go_sem]
 refine hK _ ?_
 unfold Dc.clear
 cases h1 : Ba d.lower d.upper with
 | false =>
  rw [h1] at hA
  refine ai tt_ok fun K hK => ?_
  simp only [go_sem]
  refine .inl ⟨_, _, by simp only [go_sem,List.take_length], hA, ?_⟩
  try simp only [go_sem]
  refine hK _ ?_
  exact aY ⟨.inl rfl, rfl⟩
 | true =>
  rw [h1] at hA
  refine ai tt_ok fun K hK => ?_
  simp only [go_sem]
  refine .inl ⟨_, _, by simp only [go_sem,List.take_length], hA, ?_⟩
  try simp only [go_sem]
  refine .inl ⟨_, _, by simp only [go_sem,List.take_length], hB, ?_⟩
  try simp only [go_sem]
  refine hK _ ?_
  exact aY ⟨.inl rfl, rfl⟩
end Go.Proofs.YtnboooapeopjoaaGreatDoor
end

section
namespace Go.Proofs.YtnboooapeopjoaaGreatDoor
open Go.Eng
variable [aA]
structure Fo where
  fl : ByteArray
  ty : Int
  lb : Bool
  kd : Int
def pA (k : Int) : Option Fo :=
  if k = 0 then some ⟨⟨#[98]⟩, 0, false, 0⟩ else if k = 1 then some ⟨⟨#[120]⟩, 0, false, 0⟩ else if k = 2 then some ⟨⟨#[98]⟩, 0, false, 0⟩ else if k = 3 then some ⟨⟨#[110]⟩, 0, false, 0⟩
  else if k = 4 then some ⟨⟨#[109,110]⟩, -1, false, 0⟩ else if k = 5 then some ⟨⟨#[]⟩, 0, true, 0⟩ else if k = 6 then some ⟨⟨#[110]⟩, 0, false, 1⟩ else if k = 7 then some ⟨⟨#[110]⟩, 0, false, 1⟩
  else if k = 8 then some ⟨⟨#[116,111]⟩, 0, true, 1⟩ else if k = 9 then some ⟨⟨#[]⟩, 0, true, 1⟩ else if k = 10 then some ⟨⟨#[110]⟩, 0, false, 2⟩ else if k = 11 then some ⟨⟨#[]⟩, 1, false, 1⟩
  else if k = 12 then some ⟨⟨#[]⟩, 1, false, 3⟩ else if k = 13 then some ⟨⟨#[118]⟩, 1, true, 1⟩ else if k = 14 then some ⟨⟨#[]⟩, 1, false, -1⟩ else if k = 15 then some ⟨⟨#[110,120]⟩, 1, false, 3⟩
  else if k = 16 then some ⟨⟨#[110]⟩, 0, false, -1⟩ else none
def sd (fl s : ByteArray) : Bool := Lib.contains fl.data.toList s.data.toList
def qU : List ByteArray := [⟨#[43]⟩, ⟨#[45]⟩, ⟨#[42]⟩, ⟨#[60]⟩, ⟨#[61,61]⟩, ⟨#[61,61,61]⟩, ⟨#[43,43]⟩, ⟨#[97,110,100]⟩, ⟨#[111,114]⟩]
def Dj : List ByteArray := [⟨#[110,111,116]⟩, ⟨#[108,101,110,103,116,104]⟩]
def UG (s : ByteArray) : Int := if iP s qU = true then 2 else if iP s Dj = true then 1 else 0
def oF (l : List Lb) : Nat := (l.filter Lb.opt).length
def vi (x : Ex) (kd : Int) : Int := if x.kind = 16 then UG x.name else if x.kind = 8 then 1 + oF x.labels else if kd < 0 then -1 else kd + x.labels.length
def kn (fl : ByteArray) (l : Lb) : Bool := !fg l.var && !sd fl ⟨#[118]⟩ || !ft l.ty && !sd fl ⟨#[116]⟩ || l.opt && !sd fl ⟨#[111]⟩
def q1 (x : Ex) (fl : ByteArray) : Bool := !fg x.mod && !sd fl ⟨#[109]⟩
def q2 (x : Ex) (fl : ByteArray) : Bool := !fg x.name && !sd fl ⟨#[110]⟩
def q3 (x : Ex) (fl : ByteArray) : Bool := !fg x.text && !sd fl ⟨#[120]⟩
def q4 (x : Ex) (fl : ByteArray) : Bool := !decide (x.num = 0) && !sd fl ⟨#[98]⟩
def q5 (x : Ex) : Bool := decide (x.kind = 2) && !decide (x.num = 0) && !decide (x.num = 1)
def q6 (x : Ex) (kd : Int) : Bool := decide (x.kind = 16) && decide (vi x kd = 0)
def q7 (x : Ex) (ty : Int) : Bool := decide (0 ≤ ty) && !decide ((x.types.length : Int) = ty)
def q8 (x : Ex) (lb : Bool) : Bool := decide (0 < x.labels.length) && !lb
def q9 (x : Ex) (kd : Int) : Bool := decide (0 ≤ vi x kd) && !decide ((x.kids.length : Int) = vi x kd)
def nP (x : Ex) (fl : ByteArray) (ty : Int) (lb : Bool) (kd : Int) : Bool :=
  !q1 x fl && !q2 x fl && !q3 x fl && !q4 x fl && !q5 x && !q6 x kd && !q7 x ty && !q8 x lb && !q9 x kd && !(x.labels.any (kn fl))
def s6 (fl : ByteArray) (l : Lb) : Bool := !bM l.name || sd fl ⟨#[118]⟩ && !bM l.var
def m1 (x : Ex) (fl : ByteArray) : Bool := sd fl ⟨#[109]⟩ && !yw x.mod
def m2 (x : Ex) (fl : ByteArray) : Bool := sd fl ⟨#[110]⟩ && !decide (x.kind = 16) && !bM x.name
def m3 (x : Ex) : Bool := decide (x.kind = 15) && !bM x.text
def wy (x : Ex) (fl : ByteArray) : Bool := m1 x fl || m2 x fl || m3 x || x.labels.any (s6 fl)
def th (x : Ex) : Int := match pA x.kind with
  | none => 1
  | some f => if nP x f.fl f.ty f.lb f.kd = false then 1
    else if 32 < x.labels.length ∨ 8 < x.types.length ∨ 65536 < x.text.size then 7
    else if wy x f.fl = true then 4
    else if ix (x.labels.map Lb.name) ≠ 0 then ix (x.labels.map Lb.name)
    else if x.kind = 15 ∧ x.name = x.text then 5
    else cB s5 x.own
noncomputable def Jn (e : Ex) : Int := if 4096 < e.size ∨ 32 < e.depth then 7 else cB th e.nodes
def mJ (x : Ex) : Bool := decide (x.kind = 0) && fg x.mod && fg x.name && fg x.text && decide (x.num = 0) && decide (x.types.length = 0) && decide (x.labels.length = 0) && decide (x.kids.length = 0)
def vj (d : Dc) : Bool :=
  !(d.deprecated && !d.exported) && !(!fg d.note && !d.deprecated) &&
  (if d.kind = 0 then !(d.params.any fun p => !ft p.bound) && !(d.params.any fun p => decide (p.dn < 0) || decide (2 < p.dn)) && mJ d.expr && fg d.mod && fg d.target
   else if d.kind = 1 then !(d.params.any fun p => !decide (p.dn = 0)) && ft d.lower && ft d.upper && fg d.mod && fg d.target
   else if d.kind = 2 then decide (d.params.length = 0) && ft d.lower && ft d.upper && ft d.type && mJ d.expr else false)
def yG (d : Dc) : Bool :=
  !(d.params.any fun p => !lg p.name) &&
  (if d.kind = 0 then lg d.name else if d.kind = 1 then bM d.name
   else (bM d.name && bM d.target || lg d.name && lg d.target) && !fg d.mod && yw d.mod)
noncomputable def pU (before : List Dc) (d : Dc) : Int :=
  if vj d = false then 1
  else if 8 < d.params.length ∨ 65536 < d.note.size then 7
  else if yG d = false then 4
  else if (before.any fun x => decide (x.name = d.name)) = true then 5
  else if pw (d.params.map Pm.name) = true then 5
  else if cB s5 ([d.lower, d.upper, d.type] ++ d.params.map Pm.bound) ≠ 0 then cB s5 ([d.lower, d.upper, d.type] ++ d.params.map Pm.bound)
  else Jn d.expr
def xe (path : ByteArray) (before : List Im) (x : Im) : Int :=
  if fM x.path = false ∨ bM x.alias = false then 4
  else if x.path = path then 14
  else if (before.any fun y => decide (y.path = x.path) || decide (y.alias = x.alias)) = true then 5 else 0
def fO {α : Type} (f : List α → α → Int) : List α → List α → Nat × Int
  | _, [] => (0, 0)
  | b, x :: r => if f b x = 0 then (if (fO f (b ++ [x]) r).2 = 0 then (0, 0) else ((fO f (b ++ [x]) r).1 + 1, (fO f (b ++ [x]) r).2)) else (0, f b x)
noncomputable def vZ (m : Md) : Int :=
  if fM m.path = false then 4
  else if 16 < m.imports.length ∨ 64 < m.decls.length ∨ 4096 < m.size then 7
  else (fO (xe m.path) [] m.imports).2
noncomputable def oG (m : Md) : Int × Int := if vZ m ≠ 0 then (-1, vZ m) else (((fO pU [] m.decls).1 : Nat), (fO pU [] m.decls).2)
mutual
def Ty.res (g : Ty → Option ByteArray) : Ty → Ty
 | .mk k m n ar fs => match (if k = 10 ∨ k = 9 then g (.mk k m n ar fs) else some m) with
  | some m' => .mk k m' n (vk g ar) (vl g fs)
  | none => .mk 9 ⟨#[]⟩ n [] []
def vk (g : Ty → Option ByteArray) : List Ty → List Ty
 | [] => []
 | t :: r => t.res g :: vk g r
def Fd.res (g : Ty → Option ByteArray) : Fd → Fd
 | .mk n t o => .mk n (t.res g) o
def vl (g : Ty → Option ByteArray) : List Fd → List Fd
 | [] => []
 | f :: r => f.res g :: vl g r
end
section
variable {S : Type}
mutual
def Ty.fold (g : Ty → Option ByteArray) (s : S → Ty → S) : Ty → S → S
 | .mk k m n ar fs, a => match (if k = 10 ∨ k = 9 then g (.mk k m n ar fs) else some m) with
  | some _ => kU g s fs (kV g s ar (if k = 10 ∨ k = 9 then s a (.mk k m n ar fs) else a))
  | none => s a (.mk k m n ar fs)
def kV (g : Ty → Option ByteArray) (s : S → Ty → S) : List Ty → S → S
 | [], a => a
 | t :: r, a => kV g s r (t.fold g s a)
def Fd.fold (g : Ty → Option ByteArray) (s : S → Ty → S) : Fd → S → S
 | .mk _ t _, a => t.fold g s a
def kU (g : Ty → Option ByteArray) (s : S → Ty → S) : List Fd → S → S
 | [], a => a
 | f :: r, a => kU g s r (f.fold g s a)
end
theorem Dk (g : Ty → Option ByteArray) (ts : List Ty) : vk g ts = ts.map (Ty.res g) := by induction ts with | nil => rfl | cons t r ih => simp [vk, ih]
theorem Dl (g : Ty → Option ByteArray) (ts : List Fd) : vl g ts = ts.map (Fd.res g) := by induction ts with | nil => rfl | cons t r ih => simp [vl, ih]
theorem vm (g : Ty → Option ByteArray) (s : S → Ty → S) : ∀ (ts : List Ty) (a : S), kV g s ts a = ts.foldl (fun a t => t.fold g s a) a
 | [], _ => by rw [kV]; rfl
 | t :: r, a => by rw [kV, vm g s r, List.foldl_cons]
theorem vn (g : Ty → Option ByteArray) (s : S → Ty → S) : ∀ (ts : List Fd) (a : S), kU g s ts a = ts.foldl (fun a f => f.ty.fold g s a) a
 | [], _ => by rw [kU]; rfl
 | .mk n t o :: r, a => by rw [kU, vn g s r, Fd.fold, List.foldl_cons]; rfl
def F5 (g : Ty → Option ByteArray) (t : Ty) : Option ByteArray := if t.kind = 10 ∨ t.kind = 9 then g t else some t.mod
theorem Ty.mu (g : Ty → Option ByteArray) (t : Ty) : t.res g = match F5 g t with
  | some m' => .mk t.kind m' t.name (t.args.map (Ty.res g)) (t.aJ.map (Fd.res g))
  | none => .mk 9 ⟨#[]⟩ t.name [] [] := by
 obtain ⟨k, m, n, ar, fs⟩ := t
 rw [Ty.res, Dk, Dl]; rfl
theorem Ty.fold_eq (g : Ty → Option ByteArray) (s : S → Ty → S) (t : Ty) (a : S) : t.fold g s a = match F5 g t with
  | some _ => t.aJ.foldl (fun a f => f.ty.fold g s a) (t.args.foldl (fun a t => t.fold g s a) (if t.kind = 10 ∨ t.kind = 9 then s a t else a))
  | none => s a t := by
 obtain ⟨k, m, n, ar, fs⟩ := t
 rw [Ty.fold, vm, vn]; rfl
theorem Fd.mu (g : Ty → Option ByteArray) (f : Fd) : f.res g = .mk f.name (f.ty.res g) f.opt := by obtain ⟨n, t, o⟩ := f; rw [Fd.res]; rfl
theorem Fd.Be (g : Ty → Option ByteArray) (f : Fd) : (f.res g).name = f.name := by rw [Fd.mu]; rfl
theorem Fd.Jo (g : Ty → Option ByteArray) (f : Fd) : (f.res g).ty = f.ty.res g := by rw [Fd.mu]; rfl
theorem Fd.EN (g : Ty → Option ByteArray) (f : Fd) : (f.res g).opt = f.opt := by rw [Fd.mu]; rfl
/-! ### expressions -/
def Lb.res (g : Ty → Option ByteArray) (l : Lb) : Lb := { l with ty := l.ty.res g }
def lq (k : Int) (ls : List Lb) (name text : ByteArray) (nk : Nat) (loc : List ByteArray) (i : Nat) : List ByteArray :=
 if k = 8 ∧ i + 1 = nk then (ls.map Lb.name).reverse ++ loc
 else if k = 10 ∧ i = 1 then name :: loc
 else if k = 13 ∧ 0 < i then ((ls[i - 1]?).elim ⟨#[]⟩ Lb.var) :: loc
 else if k = 15 ∧ i = 2 then text :: name :: loc
 else loc
abbrev y4 := List ByteArray → Ex → Int × ByteArray
mutual
def Ex.res (g : Ty → Option ByteArray) (h : y4) : Ex → List ByteArray → Ex
 | .mk k m n t i ts ls ks, loc => .mk (if k = 3 ∨ k = 4 then h loc (.mk k m n t i ts ls ks) else (k, m)).1 (if k = 3 ∨ k = 4 then h loc (.mk k m n t i ts ls ks) else (k, m)).2 n t i (ts.map (Ty.res g))
   (if (if k = 3 ∨ k = 4 then h loc (.mk k m n t i ts ls ks) else (k, m)).1 = 8 then ls.map (Lb.res g) else ls)
   (cx g h (lq (if k = 3 ∨ k = 4 then h loc (.mk k m n t i ts ls ks) else (k, m)).1 ls n t ks.length loc) 0 ks)
def cx (g : Ty → Option ByteArray) (h : y4) (lo : Nat → List ByteArray) : Nat → List Ex → List Ex
 | _, [] => []
 | i, x :: r => x.res g h (lo i) :: cx g h lo (i + 1) r
end
mutual
def Ex.fold (g : Ty → Option ByteArray) (h : y4) (s : S → Ty → S) (v : List ByteArray → S → Ex → S) : Ex → List ByteArray → S → S
 | .mk k m n t i ts ls ks, loc, a =>
  cR g h s v (lq (if k = 3 ∨ k = 4 then h loc (.mk k m n t i ts ls ks) else (k, m)).1 ls n t ks.length loc) 0 ks
   ((if (if k = 3 ∨ k = 4 then h loc (.mk k m n t i ts ls ks) else (k, m)).1 = 8 then ls else []).foldl (fun a l => l.ty.fold g s a)
    (ts.foldl (fun a t => t.fold g s a) (if k = 3 ∨ k = 4 then v loc a (.mk k m n t i ts ls ks) else a)))
def cR (g : Ty → Option ByteArray) (h : y4) (s : S → Ty → S) (v : List ByteArray → S → Ex → S) (lo : Nat → List ByteArray) : Nat → List Ex → S → S
 | _, [], a => a
 | i, x :: r, a => cR g h s v lo (i + 1) r (x.fold g h s v (lo i) a)
end
def mv (h : y4) (loc : List ByteArray) (x : Ex) : Int × ByteArray := if x.kind = 3 ∨ x.kind = 4 then h loc x else (x.kind, x.mod)
def lbG (g : Ty → Option ByteArray) (k : Int) (ls : List Lb) : List Lb := if k = 8 then ls.map (Lb.res g) else ls
def Yd (h : y4) (x : Ex) (loc : List ByteArray) : Nat → List ByteArray := lq (mv h loc x).1 x.labels x.name x.text x.kids.length loc
theorem Ex.mu (g : Ty → Option ByteArray) (h : y4) (x : Ex) (loc : List ByteArray) :
  x.res g h loc = .mk (mv h loc x).1 (mv h loc x).2 x.name x.text x.num (x.types.map (Ty.res g)) (lbG g (mv h loc x).1 x.labels) (cx g h (Yd h x loc) 0 x.kids) := by
 obtain ⟨k, m, n, t, i, ts, ls, ks⟩ := x
 rw [Ex.res]; rfl
theorem Ex.fold_eq (g : Ty → Option ByteArray) (h : y4) (s : S → Ty → S) (v : List ByteArray → S → Ex → S) (x : Ex) (loc : List ByteArray) (a : S) :
  x.fold g h s v loc a = cR g h s v (Yd h x loc) 0 x.kids ((if (mv h loc x).1 = 8 then x.labels else []).foldl (fun a l => l.ty.fold g s a)
   (x.types.foldl (fun a t => t.fold g s a) (if x.kind = 3 ∨ x.kind = 4 then v loc a x else a))) := by
 obtain ⟨k, m, n, t, i, ts, ls, ks⟩ := x
 rw [Ex.fold]; rfl
theorem gI (g : Ty → Option ByteArray) (h : y4) (lo : Nat → List ByteArray) : ∀ (ks : List Ex) (i : Nat), (cx g h lo i ks).length = ks.length
 | [], i => by rw [cx]
 | x :: r, i => by rw [cx, List.length_cons, gI g h lo r, List.length_cons]
theorem s7 (g : Ty → Option ByteArray) (h : y4) (lo : Nat → List ByteArray) (x : Ex) : ∀ (ks : List Ex) (i : Nat), cx g h lo i (ks ++ [x]) = cx g h lo i ks ++ [x.res g h (lo (i + ks.length))]
 | [], i => by simp [cx]
 | y :: r, i => by
  rw [List.cons_append, cx, s7 g h lo x r (i + 1), cx, List.length_cons, show i + 1 + r.length = i + (r.length + 1) by omega]; rfl
theorem qV (g : Ty → Option ByteArray) (h : y4) (s : S → Ty → S) (v : List ByteArray → S → Ex → S) (lo : Nat → List ByteArray) (x : Ex) : ∀ (ks : List Ex) (i : Nat) (a : S), cR g h s v lo i (ks ++ [x]) a = x.fold g h s v (lo (i + ks.length)) (cR g h s v lo i ks a)
 | [], i, a => by simp [cR]
 | y :: r, i, a => by
  rw [List.cons_append, cR, qV g h s v lo x r (i + 1), cR, List.length_cons, show i + 1 + r.length = i + (r.length + 1) by omega]
theorem Bf {g : Ty → Option ByteArray} {h : y4} {lo : Nat → List ByteArray} {ks : List Ex} {i : Nat} {x : Ex} (hx : ks[i]? = some x) : cx g h lo 0 (ks.take (i + 1)) = cx g h lo 0 (ks.take i) ++ [x.res g h (lo i)] := by
 have aZ := (List.getElem?_eq_some_iff.1 hx).1
 rw [List.take_add_one, hx, Option.toList_some, s7, List.length_take, Nat.min_eq_left (by omega), Nat.zero_add]
theorem qW {g : Ty → Option ByteArray} {h : y4} {s : S → Ty → S} {v : List ByteArray → S → Ex → S} {lo : Nat → List ByteArray} {ks : List Ex} {i : Nat} {x : Ex} {a : S} (hx : ks[i]? = some x) : cR g h s v lo 0 (ks.take (i + 1)) a = x.fold g h s v (lo i) (cR g h s v lo 0 (ks.take i) a) := by
 have aZ := (List.getElem?_eq_some_iff.1 hx).1
 rw [List.take_add_one, hx, Option.toList_some, qV, List.length_take, Nat.min_eq_left (by omega), Nat.zero_add]
theorem eB {α : Type} {f : S → α → S} {l : List α} {i : Nat} {x : α} {a : S} (hx : l[i]? = some x) : (l.take (i + 1)).foldl f a = f ((l.take i).foldl f a) x := by
 rw [List.take_add_one, hx, Option.toList_some, List.foldl_append]; rfl
end
/-! ### declarations -/
def dv (G : List ByteArray → Ty → Option ByteArray) : List ByteArray → List Pm → List Pm
 | _, [] => []
 | vs, p :: r => { p with bound := p.bound.res (G vs) } :: dv G (vs ++ [p.name]) r
section
variable {S : Type}
def dU (G : List ByteArray → Ty → Option ByteArray) (s : List ByteArray → S → Ty → S) : List ByteArray → List Pm → S → S
 | _, [], a => a
 | vs, p :: r, a => dU G s (vs ++ [p.name]) r (p.bound.fold (G vs) (s vs) a)
theorem s8 (G : List ByteArray → Ty → Option ByteArray) (p : Pm) : ∀ (l : List Pm) (vs : List ByteArray), dv G vs (l ++ [p]) = dv G vs l ++ [{ p with bound := p.bound.res (G (vs ++ l.map Pm.name)) }]
 | [], vs => by simp [dv]
 | q :: r, vs => by simp [dv, s8 G p r]
theorem qY (G : List ByteArray → Ty → Option ByteArray) (s : List ByteArray → S → Ty → S) (p : Pm) : ∀ (l : List Pm) (vs : List ByteArray) (a : S), dU G s vs (l ++ [p]) a = p.bound.fold (G (vs ++ l.map Pm.name)) (s (vs ++ l.map Pm.name)) (dU G s vs l a)
 | [], vs, a => by simp [dU]
 | q :: r, vs, a => by simp [dU, qY G s p r]
theorem gJ (G : List ByteArray → Ty → Option ByteArray) : ∀ (l : List Pm) (vs : List ByteArray), (dv G vs l).length = l.length
 | [], _ => rfl
 | p :: r, vs => by rw [dv, List.length_cons, gJ G r, List.length_cons]
theorem Bg {G : List ByteArray → Ty → Option ByteArray} {l : List Pm} {i : Nat} {p : Pm} (hx : l[i]? = some p) : dv G [] (l.take (i + 1)) = dv G [] (l.take i) ++ [{ p with bound := p.bound.res (G ((l.take i).map Pm.name)) }] := by
 rw [List.take_add_one, hx, Option.toList_some, s8, List.nil_append]
theorem qZ {G : List ByteArray → Ty → Option ByteArray} {s : List ByteArray → S → Ty → S} {l : List Pm} {i : Nat} {p : Pm} {a : S} (hx : l[i]? = some p) : dU G s [] (l.take (i + 1)) a = p.bound.fold (G ((l.take i).map Pm.name)) (s ((l.take i).map Pm.name)) (dU G s [] (l.take i) a) := by
 rw [List.take_add_one, hx, Option.toList_some, qY, List.nil_append]
end
end Go.Proofs.YtnboooapeopjoaaGreatDoor
end

section
namespace Go.Proofs.YtnboooapeopjoaaGreatDoor
open Go.Eng
variable [aA]
def oV (a b : Int) : Int := if a = 0 then b else a
theorem ra (a : Int) : oV a 0 = a := by unfold oV; split <;> simp_all
theorem Jp (a : Int) : oV 0 a = a := by unfold oV; simp
def Bh (a : ByteArray) : List (ByteArray × ByteArray) → Option ByteArray
 | [] => none
 | e :: r => if e.1 = a then some e.2 else Bh a r
def bI (g : List (ByteArray × ByteArray)) : List (ByteArray × V) := g.map fun e => (e.1, str e.2)
theorem Bi (a : ByteArray) : ∀ g : List (ByteArray × ByteArray), getM a (bI g) = (Bh a g).map str
 | [] => rfl
 | e :: r => by
  show getM a ((e.1, str e.2) :: bI r) = _
  unfold getM Bh
  dsimp only
  split
  ·rfl
  ·exact Bi a r
def M1 (a : ByteArray) : List (ByteArray × ByteArray) → Nat → Option Nat
 | [], _ => none
 | e :: r, i => if e.1 = a then some i else M1 a r (i + 1)
def M3 (a v : ByteArray) (g : List (ByteArray × ByteArray)) : List (ByteArray × ByteArray) := match M1 a g 0 with
 | none => g ++ [(a, v)]
 | some i => g.set i (a, v)
theorem xg (a : ByteArray) : ∀ (g : List (ByteArray × ByteArray)) (n : Nat), (gH a (bI g) n).map (fun p => p.1) = M1 a g n
 | [], _ => rfl
 | e :: r, n => by
  show (gH a ((e.1, str e.2) :: bI r) n).map _ = _
  unfold gH M1
  dsimp only
  split
  ·rfl
  ·exact xg a r (n + 1)
theorem Jq (a v : ByteArray) (g : List (ByteArray × ByteArray)) : AW a (str v) (bI g) = bI (M3 a v g) := by
 unfold AW M3
 rw [← xg]
 cases gH a (bI g) 0 with
 | none => simp [bI]
 | some p => simp [bI, List.map_set]
def bK (l : List Im) : List (ByteArray × ByteArray) := l.foldl (fun g x => M3 x.alias x.path g) []
theorem F6 {l : List Im} {i : Nat} {x : Im} (h : l[i]? = some x) : bK (l.take (i + 1)) = M3 x.alias x.path (bK (l.take i)) := by
 unfold bK
 rw [List.take_add_one, h, Option.toList_some, List.foldl_append]; rfl
structure Rv where
 mp : ByteArray
 a8 : List Im
 decls : List Dc
 idx : Nat
def B6 (X : Rv) (s : ByteArray) : ByteArray := (Bh s (bK X.a8)).getD ⟨#[]⟩
def B7 (X : Rv) (s : ByteArray) : Int := if (Bh s (bK X.a8)).isSome then 0 else 6
def oq : List Dc → ByteArray → Int
 | [], _ => -1
 | d :: r, s => if d.name = s then 0 else if oq r s < 0 then -1 else oq r s + 1
def gR (X : Rv) (vs : List ByteArray) (t : Ty) : Option ByteArray := if t.mod = ⟨#[]⟩ then (if iP t.name vs = true then none else some X.mp) else some (B6 X t.mod)
def tE (X : Rv) (vs : List ByteArray) (t : Ty) : Int := if t.mod = ⟨#[]⟩ then (if iP t.name vs = true then (if 0 < t.args.length then 11 else 0) else if oq X.decls t.name < 0 then 6 else 0) else B7 X t.mod
def sR (X : Rv) (vs : List ByteArray) (e : Int) (t : Ty) : Int := oV e (tE X vs t)
def sf (X : Rv) (s : ByteArray) : Int := if oq X.decls s < 0 then 6 else if (X.idx : Int) ≤ oq X.decls s then 14 else 0
def hR (X : Rv) (loc : List ByteArray) (x : Ex) : Int × ByteArray := if x.mod = ⟨#[]⟩ then (if iP x.name loc = true then (x.kind, x.mod) else (4, X.mp)) else (x.kind, B6 X x.mod)
def vE (X : Rv) (loc : List ByteArray) (x : Ex) : Int := if x.mod = ⟨#[]⟩ then (if iP x.name loc = true then (if x.kind = 4 then 11 else 0) else sf X x.name) else B7 X x.mod
def vR (X : Rv) (loc : List ByteArray) (e : Int) (x : Ex) : Int := oV e (vE X loc x)
def dp (d : Dc) : List ByteArray := d.params.map Pm.name
noncomputable def cy (X : Rv) (d : Dc) : Dc :=
 { d with mod := (if d.kind = 2 then B6 X d.mod else d.mod), params := dv (gR X) [] d.params, lower := d.lower.res (gR X (dp d)), upper := d.upper.res (gR X (dp d)), type := d.type.res (gR X (dp d)), expr := d.expr.res (gR X (dp d)) (hR X) [] }
noncomputable def jZ (X : Rv) (d : Dc) : Int :=
 d.expr.fold (gR X (dp d)) (hR X) (sR X (dp d)) (vR X) [] (d.type.fold (gR X (dp d)) (sR X (dp d)) (d.upper.fold (gR X (dp d)) (sR X (dp d)) (d.lower.fold (gR X (dp d)) (sR X (dp d)) (dU (gR X) (sR X) [] d.params (if d.kind = 2 then B7 X d.mod else 0)))))
end Go.Proofs.YtnboooapeopjoaaGreatDoor
end

section
namespace Go.Proofs.YtnboooapeopjoaaGreatDoor
open Go.Eng
variable [aA]
set_option maxHeartbeats 4000000
set_option maxRecDepth 100000
def dh : List ByteArray → V
 | [] => .sc (.pointer none)
 | s :: r => .cH [str s, dh r]
theorem cO : dh [] = .sc (.pointer none) := rfl
theorem cr (s : ByteArray) (r : List ByteArray) : dh (s :: r) = .cH [str s, dh r] := rfl
theorem xh (l : List ByteArray) : eO (dh l) = true := by cases l <;> rfl
theorem pB : Tryz.prog.underlying 170 = some (.pointer 208) := by kernel_rfl
theorem pC (x y : Operand) : c5 Tryz.prog (rn .neq 170 x y) (.sc (.pointer none)) (.sc (.pointer none)) = some (bl false) := by kernel_rfl
theorem ah (l : List ByteArray) (n : Nat) : au n (dh l) = true := by cases l <;> simp [dh, au]
theorem Bj (s x : ByteArray) (r : List ByteArray) : iP s (x :: r) = (decide (s = x) || iP s r) := rfl
theorem Jr {l : List ByteArray} {i : Nat} {x : ByteArray} {r : List ByteArray} (h : l[i]? = some x) : (l.take (i + 1)).reverse ++ r = x :: ((l.take i).reverse ++ r) := by rw [List.take_add_one, h]; simp
theorem UH (l : List Lb) (a : Lb) : (l ++ [a]).map (fun x => str x.name) = l.map (fun x => str x.name) ++ [str a.name] := by simp
theorem jj (l : List Lb) (n : Nat) : cf (l.map fun x => str x.name) n 1 = true := by
 unfold cf; split
 ·rename_i h; simp at h; obtain ⟨t, -, rfl⟩ := h; rfl
 ·rfl
theorem aal {α : Type} (l : List α) (a : α) : (l ++ [a]).length = l.length + 1 := by simp
theorem M4 (l : List ByteArray) (s : ByteArray) : ∃ r_, (fun w => w = bl (iP s l)) r_ ∧ aT Tryz.prog 143 [dh l, str s] r_ := by
 refine gG tt_ok [] 17 [.tmp 4] (fn := Tryz.f143) Tryz.func143 rfl Tryz.call143 ⟨rfl, rfl, by simp⟩ fun K hK => ?_
 simp only [ah,ag,cO,cr,pC,pB,go_sem]
 refine gF tt_ok [] (fun a : List ByteArray => [(0, dh a), (1, str s)]) (fun a : List ByteArray => []) (fun a => a.length) (fun a => iP s l = iP s a) (l) 0 (cV (by omega) (by simp only [ah,ag,cO,cr,pC,pB,Int.cast_ofNat_Int,go_sem] <;> rfl)) (rfl) ?_
 intro a hI
 intro Z1 cJ
 rcases a with _ | ⟨x, r⟩
 ·simp only [ah,ag,cO,cr,pC,pB,go_sem]
  first | exact hK _ (congrArg bl ba) | exact hK _ (congrArg bl (hI ▸ rfl))
 ·simp only [ah,ag,cO,cr,pC,pB,go_sem]
  refine aV (fun dG => ?_) (fun dG => ?_)
  ·have ba : true = iP s l := by rw [hI, Bj, decide_eq_true (of_decide_eq_true dG).symm]; rfl
   simp only [ah,ag,cO,cr,pC,pB,go_sem]
   first | exact hK _ (congrArg bl ba) | exact hK _ (congrArg bl (hI ▸ rfl))
  ·have ch : decide (s = x) = false := decide_eq_false fun h => of_decide_eq_false dG h.symm
   simp only [ah,ag,cO,cr,pC,pB,go_sem]
   refine cJ _ ⟨r, ?_, ?_, cV (by omega) (by simp only [ah,ag,cO,cr,pC,pB,go_sem])⟩
   ·rw [hI, Bj, ch]; rfl
   ·exact Nat.lt_succ_self _
theorem vo (l ns : List ByteArray) (hl : ns.length ≤ 1048576) : ∃ r_, (fun w => w = dh (ns.reverse ++ l)) r_ ∧ aT Tryz.prog 200 [dh l, .slice (ns.map str)] r_ := by
 refine gG tt_ok [5] 19 [.tmp 4] (fn := Tryz.f200) Tryz.func200 rfl Tryz.call200 ⟨rfl, rfl, by simp⟩ fun K hK => ?_
 simp only [ah,List.length_map,cO,cr,go_sem]
 refine gF tt_ok [5] (fun i : Nat => [(0, dh ((ns.take i).reverse ++ l)), (7, .slice (ns.map str)), (8, num ns.length), (9, num i)]) (fun i : Nat => []) (fun i => ns.length - i) (fun i => i ≤ ns.length) (0) 0 (cV (by omega) (by simp only [ck,ah,List.length_map,cO,cr,List.reverse_nil,Int.cast_ofNat_Int,go_sem] <;> rfl)) (Nat.zero_le _) ?_
 intro i hi
 intro Z1 cJ
 simp only [ah,List.length_map,cO,cr,go_sem]
 refine aV (fun mq => ?_) (fun mq => ?_)
 ·have F7 : i < ns.length := by simpa using mq
  have jE := aU i (by omega)
  obtain ⟨x, hx⟩ : ∃ x, ns[i]? = some x := ⟨_, List.getElem?_eq_getElem F7⟩
  have hrv := Jr (r := l) hx
  obtain ⟨L, hL⟩ : ∃ L, (ns.take i).reverse ++ l = L := ⟨_, rfl⟩; rw [hL] at hrv ⊢; rcases L with _ | ⟨y, r⟩
  ·simp only [ah,jE,hx,List.getElem?_map,List.length_map,cO,cr,go_sem]
   refine EE 0 (by decide) rfl rfl (by simp [eO, xh, cO, cr]) ?_
   refine kA tt_ok ?_
   simp only [ah,jE,hx,List.getElem?_map,List.length_map,cO,cr,go_sem]
   refine cJ _ ⟨i + 1, ?_, ?_, cV (by omega) (by (simp only [jE,hrv,cO,cr,ah,go_sem]))⟩
   ·exact F7
   ·omega
  ·simp only [ah,jE,hx,List.getElem?_map,List.length_map,cO,cr,go_sem]
   refine EE 0 (by decide) rfl rfl (by simp [eO, xh, cO, cr]) ?_
   refine kA tt_ok ?_
   simp only [ah,jE,hx,List.getElem?_map,List.length_map,cO,cr,go_sem]
   refine cJ _ ⟨i + 1, ?_, ?_, cV (by omega) (by (simp only [jE,hrv,cO,cr,ah,go_sem]))⟩
   ·exact F7
   ·omega
 ·have QW : i = ns.length := by have h_ : ¬ i < ns.length := (by simpa using mq); omega
  rw [QW, List.take_length]
  obtain ⟨L, hL⟩ : ∃ L, ns.reverse ++ l = L := ⟨_, rfl⟩; rw [hL] at hK ⊢; rcases L with _ | ⟨y, r⟩
  ·simp only [ah,List.length_map,cO,cr,go_sem]
   exact hK _ rfl
  ·simp only [ah,List.length_map,cO,cr,go_sem]
   exact hK _ rfl
end Go.Proofs.YtnboooapeopjoaaGreatDoor
end

section
namespace Go.Proofs.YtnboooapeopjoaaGreatDoor
open Go.Eng
open Nat renaming reduceAdd → zA, reduceLT → zB, reduceLeDiff → zC, reduceMul → zD, reduceEqDiff → zE, reduceSub → zF
variable [aA]
set_option maxHeartbeats 4000000
set_option maxRecDepth 100000
theorem aw (mem : List aC) (l : List ByteArray) : e8 mem (dh l) = some (dh l) := by cases l <;> rfl
theorem ax (l : List ByteArray) : cL (dh l) = [] := by cases l <;> rfl
theorem M5 {s : ByteArray} {l : List ByteArray} (h : s ∈ l) : iP s l = true := tB.2 h
theorem QX {s : ByteArray} {l : List ByteArray} (h : ¬ s ∈ l) : iP s l = false := Bool.eq_false_iff.2 fun e => h (tB.1 e)
theorem ak (g : List (ByteArray × ByteArray)) (n : Nat) : ((eT strVal 0 (bI g)).all fun e => au n e.2.2) = true := by
 rw [yD strVal (au n), List.all_eq_true]
 intro e he
 obtain ⟨p, -, rfl⟩ := List.mem_map.1 he
 rfl
theorem ko (g : List (ByteArray × ByteArray)) (n : Nat) (a : Value) (b : Nat) (c : V) (h : (a, b, c) ∈ eT strVal 0 (bI g)) : au n c = true := List.all_eq_true.1 (ak g n) _ h
theorem vp (σ : Nat → Nat) (g : List (ByteArray × ByteArray)) (c : Nat) : jJ σ (.map (eT strVal 0 (bI g)) c) = .map (eT strVal 0 (bI g)) c := by
 have key : ∀ (g : List (ByteArray × ByteArray)) (n : Nat), (eT strVal n (bI g)).map (fun e => (e.1, e.2.1, c7 σ e.2.2)) = eT strVal n (bI g) := by
  intro g
  induction g with
  | nil => intro n; rfl
  | cons e r ih =>
   intro n
   show _ :: (eT strVal (n + 1) (bI r)).map _ = _ :: eT strVal (n + 1) (bI r)
   rw [ih]; rfl
 simp only [jJ]
 rw [key]
theorem gK (σ : Nat → Nat) (l : List ByteArray) : c7 σ (dh l) = dh l := by cases l <;> rfl
def EO (X : Rv) (n v : Nat) (e : Int) (k1 k3 : Nat) : List V := [str X.mp, .slice (X.a8.map a7), .slice (X.decls.map aB), num X.idx, .ms k3 v 0 n, num e, .sc (.func (.func 85) #[] #[]), .sc (.func (.func 86) #[] #[]), .bp (.func 83) [] [.ptr k1 0]]
def L4 (X : Rv) (vs : List ByteArray) (v : Nat) (e : Int) : List aC := [.box (EO X vs.length v e 1 3), .box [.mp 2], .map (eT strVal 0 (bI (bK X.a8))) (bI (bK X.a8)).length, .rows v 1 (vs.map str)]
structure y5 (M : List aC) (X : Rv) (vs : List ByteArray) (v : Nat) (e : Int) (k0 k1 k2 k3 : Nat) : Prop where
 h0 : M[k0]? = some (.box (EO X vs.length v e k1 k3))
 h1 : M[k1]? = some (.box [.mp k2])
 h2 : M[k2]? = some (.map (eT strVal 0 (bI (bK X.a8))) (bI (bK X.a8)).length)
 h3 : M[k3]? = some (.rows v 1 (vs.map str))
 nd : [k0, k1, k2, k3].Nodup
theorem LF {f : FuncId} {args : List V} {r : V} {X : Rv} {vs : List ByteArray} {v : Nat} {e e' : Int} (h : aF Tryz.prog f args (L4 X vs v e) r (L4 X vs v e')) (ha : args.all (au 4) = true) (hr : au 4 r = true)
  {M : List aC} {k0 k1 k2 k3 : Nat} (hM : y5 M X vs v e k0 k1 k2 k3) : aF Tryz.prog f (fN (j4 [k0, k1, k2, k3] M.length) args) M (c7 (j4 [k0, k1, k2, k3] M.length) r) (M.set k0 (.box (EO X vs.length v e' k1 k3))) := by
 refine aF.keys (mem := L4 X vs v e) (B := .box (EO X vs.length v e' 1 3)) (j0 := 0) h M [k0, k1, k2, k3] rfl hM.nd (by simp [L4]) ha ?_ ?_ hr ?_
 ·have hb := ak (bK X.a8) 4
  simp only [L4,List.all_cons,List.all_nil,List.length_cons,List.length_nil,az,EO,au,aD,hb]; rfl
 ·simp only [L4,List.length_cons,List.length_nil,az,EO,List.all_cons,List.all_nil,au,aD]; rfl
 ·intro i B hi
  rcases i with _ | _ | _ | _ | i
  ·cases hi; exact hM.h0
  ·cases hi; exact hM.h1
  ·cases hi; rw [vp]; exact hM.h2
  ·cases hi; exact hM.h3
  ·simp [L4] at hi
def Bk (o : Option ByteArray) (t : Ty) : Ty := match o with
 | some m => .mk t.kind m t.name t.args t.aJ
 | none => .mk 9 ⟨#[]⟩ t.name [] []
def Ye (p : Int × ByteArray) (x : Ex) : Ex := .mk p.1 p.2 x.name x.text x.num x.types x.labels x.kids
theorem Js {s : ByteArray} : ∀ {l : List Dc} {i : Nat} {x : Dc}, l[i]? = some x → x.name = s → (∀ j < i, ∀ y, l[j]? = some y → decide (y.name = s) = false) → (i : Int) = oq l s
 | [], _, _, h, _, _ => by simp at h
 | d :: r, 0, x, h, hn, _ => by
  simp only [List.getElem?_cons_zero,Option.some.injEq] at h
  subst h
  unfold oq; rw [if_pos hn]; rfl
 | d :: r, i + 1, x, h, hn, cK => by
  have h1 := of_decide_eq_false (cK 0 (by omega) d rfl)
  have h2 := Js (l := r) (i := i) (x := x) (by simpa using h) hn fun j hj y hy => cK (j + 1) (by omega) y (by simpa using hy)
  unfold oq; rw [if_neg h1, ← h2, if_neg (by omega)]; rfl
theorem Bl {s : ByteArray} : ∀ {l : List Dc}, (∀ j < l.length, ∀ y, l[j]? = some y → decide (y.name = s) = false) → (-1 : Int) = oq l s
 | [], _ => rfl
 | d :: r, cK => by
  have h1 := of_decide_eq_false (cK 0 (by simp) d rfl)
  have h2 := Bl (l := r) fun j hj y hy => cK (j + 1) (by simpa using hj) y (by simpa using hy)
  unfold oq; rw [if_neg h1, ← h2, if_pos (by decide)]
theorem M6 (ns : List ByteArray) (s : ByteArray) (hl : ns.length ≤ 1048576) : ∃ r_, (fun w => ∃ n : Int, w = num n ∧ decide (n ≥ 0) = iP s ns) r_ ∧ aT Tryz.prog 102 [.slice (ns.map str), str s] r_ := by
 refine gG tt_ok [] 19 [.tmp 4] (fn := Tryz.f102) Tryz.func102 rfl Tryz.call102 ⟨rfl, rfl, by simp⟩ fun K hK => ?_
 simp only [List.length_map,go_sem]
 refine eA tt_ok [] [8] 0 [0,1,7] (fun vs => ((ns.length : Int) - Go.Eng.intOf (vs.headD .undef)).toNat) (fun vs => ∃ i : Nat, vs = [num i] ∧ i ≤ ns.length ∧ ∀ j < i, ∀ b, ns[j]? = some b → s ≠ b) (by omega) (by simp only [List.length_map,go_sem]) (⟨0, rfl, Nat.zero_le _, fun j hj => absurd hj (Nat.not_lt_zero j)⟩) fun vs hI Z1 cJ => ?_
 obtain ⟨i, rfl, hi, mH⟩ := hI
 simp only [List.length_map,go_sem]
 refine aV (fun jh => ?_) (fun jh => ?_)
 ·have aZ : i < ns.length := by simpa using jh
  obtain ⟨m, hx⟩ : ∃ m, ns[i]? = some m := ⟨_, List.getElem?_eq_getElem aZ⟩
  have hw := aU i (by omega)
  simp only [List.getElem?_map,hx,hw,List.length_map,go_sem]
  refine aV (fun dG => ?_) (fun dG => ?_)
  ·have heq : s = m := by rw [ag] at dG; simpa using dG
   have ba : decide ((i : Int) ≥ 0) = iP s ns := by rw [decide_eq_true (by omega : (i : Int) ≥ 0), M5 (heq ▸ List.mem_of_getElem? hx)]
   simp only [List.getElem?_map,hx,hw,List.length_map,go_sem]
   exact hK _ ⟨_, rfl, ba⟩
  ·have ch : s ≠ m := by rw [ag] at dG; simpa using dG
   simp only [List.getElem?_map,hx,hw,List.length_map,go_sem]
   refine cJ _ (kB (by omega) (by simp only [List.getElem?_map,hx,hw,List.length_map,go_sem]) ?_ ?_) <;> simp only [dr,lk,reduceIte,zE]
   ·refine ⟨i + 1, rfl, aZ, fun j hj b hb => ?_⟩
    rcases Nat.lt_or_ge j i with h | h
    ·exact mH j h b hb
    ·obtain rfl : j = i := by omega
     rw [hx] at hb; cases hb; exact ch
   ·simp only [Go.Eng.intOf,List.headD_cons]; omega
 ·have gv : ¬ i < ns.length := by simpa using jh
  have ba : decide ((-1 : Int) ≥ 0) = iP s ns := by
   rw [decide_eq_false (by decide : ¬ ((-1 : Int) ≥ 0)), QX]
   intro hm
   obtain ⟨j, hj⟩ := List.getElem?_of_mem hm
   exact mH j (by have := (List.getElem?_eq_some_iff.1 hj).1; omega) s hj rfl
  simp only [List.length_map,go_sem]
  exact hK _ ⟨_, rfl, ba⟩
theorem Jt (ns : List ByteArray) (s : ByteArray) (hl : ns.length ≤ 1048576) : ∃ r_, (fun w => w = bl (iP s ns)) r_ ∧ aT Tryz.prog 45 [.slice (ns.map str), str s] r_ := by
 refine gG tt_ok [] 9 [.tmp 4] (fn := Tryz.f45) Tryz.func45 rfl Tryz.call45 ⟨rfl, rfl, by simp⟩ fun K hK => ?_
 simp only [go_sem]
 refine cF (M6 ns s hl) ?_
 rintro _ ⟨n, rfl, hn⟩
 simp only [go_sem]
 exact hK _ (congrArg bl hn)
theorem Ju (ns : List ByteArray) (s : ByteArray) (hl : ns.length ≤ 1048576) : aT Tryz.prog 45 [.slice (ns.map str), str s] (bl (iP s ns)) := by
 obtain ⟨_, rfl, h⟩ := Jt ns s hl
 exact h
theorem M7 (X : Rv) (vs : List ByteArray) (v : Nat) (e : Int) (c : Int) : ∃ r_ m_, (fun r m => r = .cC [] ∧ m = [.box [str X.mp, .slice (X.a8.map a7), .slice (X.decls.map aB), num X.idx, .ms 3 v 0 vs.length, num (oV e c), .sc (.func (.func 85) #[] #[]), .sc (.func (.func 86) #[] #[]), .bp (.func 83) [] [.ptr 1 0]], .box [.mp 2], .map (eT strVal 0 (bI (bK X.a8))) (bI (bK X.a8)).length, .rows v 1 (vs.map str)]) r_ m_ ∧ aF Tryz.prog 84 [.ptr 0 0, num c] ([.box [str X.mp, .slice (X.a8.map a7), .slice (X.decls.map aB), num X.idx, .ms 3 v 0 vs.length, num (e), .sc (.func (.func 85) #[] #[]), .sc (.func (.func 86) #[] #[]), .bp (.func 83) [] [.ptr 1 0]], .box [.mp 2], .map (eT strVal 0 (bI (bK X.a8))) (bI (bK X.a8)).length, .rows v 1 (vs.map str)]) r_ m_ := by
 refine ED tt_ok [] 13 [] (4) (by simp) (fn := Tryz.f84) Tryz.func84 rfl Tryz.call84 ⟨rfl, rfl, by simp⟩ fun K hK => ?_
 simp only [ak,go_sem]
 refine aV (fun UI => ?_) (fun UI => ?_)
 ·have tg : oV e c = c := by unfold oV; rw [if_pos (of_decide_eq_true UI)]
  simp only [ak,go_sem]
  exact hK _ _ ⟨rfl, by rw [tg]⟩
 ·have tg : oV e c = e := by unfold oV; rw [if_neg (of_decide_eq_false UI)]
  simp only [ak,go_sem]
  exact hK _ _ ⟨rfl, by rw [tg]⟩
theorem M8 (X : Rv) (vs : List ByteArray) (v : Nat) (e : Int) (c : Int) : aF Tryz.prog 84 [.ptr 0 0, num c] (L4 X vs v e) (.cC []) (L4 X vs v (oV e c)) := by
 obtain ⟨r, m, ⟨rfl, rfl⟩, h⟩ := M7 X vs v e c
 exact h
theorem M9 (X : Rv) (vs : List ByteArray) (v : Nat) (e : Int) (c : Int) {M : List aC} {k0 k1 k2 k3 : Nat} (hM : y5 M X vs v e k0 k1 k2 k3) : aF Tryz.prog 84 [.ptr k0 0, num c] M (.cC []) (M.set k0 (.box (EO X vs.length v (oV e c) k1 k3))) := by
 have h := LF (M8 X vs v e c) (by simp [au, aD, ay, aj, aI, aq, ah]) (by simp [au, aD, ay, aj, aI, aq, ah]) hM
 simpa [fN, c7, j4, ay, aj, aI, aq, gK] using h
theorem vq (X : Rv) (vs : List ByteArray) (v : Nat) (e : Int) (c : Int) {M : List aC} (hM : y5 M X vs v e 0 1 2 3) : ∃ r_ m_, (fun r m => r = .cC [] ∧ m = M.set 0 (.box [str X.mp, .slice (X.a8.map a7), .slice (X.decls.map aB), num X.idx, .ms 3 v 0 vs.length, num (oV e c), .sc (.func (.func 85) #[] #[]), .sc (.func (.func 86) #[] #[]), .bp (.func 83) [] [.ptr 1 0]])) r_ m_ ∧ aF Tryz.prog 84 [.ptr 0 0, num c] M r_ m_ := ⟨_, _, ⟨rfl, rfl⟩, M9 X vs v e c hM⟩
theorem QY (X : Rv) (vs : List ByteArray) (v : Nat) (e : Int) (s : ByteArray) : ∃ r_ m_, (fun r m => r = str (B6 X s) ∧ m = [.box [str X.mp, .slice (X.a8.map a7), .slice (X.decls.map aB), num X.idx, .ms 3 v 0 vs.length, num (oV e (B7 X s)), .sc (.func (.func 85) #[] #[]), .sc (.func (.func 86) #[] #[]), .bp (.func 83) [] [.ptr 1 0]], .box [.mp 2], .map (eT strVal 0 (bI (bK X.a8))) (bI (bK X.a8)).length, .rows v 1 (vs.map str)]) r_ m_ ∧ aF Tryz.prog 83 [.ptr 0 0, str s, .ptr 1 0] ([.box [str X.mp, .slice (X.a8.map a7), .slice (X.decls.map aB), num X.idx, .ms 3 v 0 vs.length, num (e), .sc (.func (.func 85) #[] #[]), .sc (.func (.func 86) #[] #[]), .bp (.func 83) [] [.ptr 1 0]], .box [.mp 2], .map (eT strVal 0 (bI (bK X.a8))) (bI (bK X.a8)).length, .rows v 1 (vs.map str)]) r_ m_ := by
 refine ED tt_ok [] 19 [.tmp 5] (4) (by simp) (fn := Tryz.f83) Tryz.func83 rfl Tryz.call83 ⟨rfl, rfl, by simp⟩ fun K hK => ?_
 have fH := ktS.get s (bI (bK X.a8)) (mem := [.box [str X.mp, .slice (X.a8.map a7), .slice (X.decls.map aB), num X.idx, .ms 3 v 0 vs.length, num (e), .sc (.func (.func 85) #[] #[]), .sc (.func (.func 86) #[] #[]), .bp (.func 83) [] [.ptr 1 0]], .box [.mp 2], .map (eT strVal 0 (bI (bK X.a8))) (bI (bK X.a8)).length, .rows v 1 (vs.map str)]) (b := 2) rfl (z := str ⟨#[]⟩) (by kernel_rfl) true
 rw [Bi] at fH
 rcases mN : Bh s (bK X.a8) with _ | p
 ·simp only [mN,Option.map_none,Option.isSome_none,Option.getD_none,Lk] at fH
  have Tn : B6 X s = ⟨#[]⟩ := by unfold B6; rw [mN]; rfl
  have hle : oV e (B7 X s) = oV e 6 := by unfold B7; rw [mN]; rfl
  simp only [ak,fH,go_sem]
  refine cW (vq X vs v e 6 ⟨rfl, rfl, rfl, rfl, by decide⟩) ?_
  rintro _ _ ⟨rfl, rfl⟩
  simp only [ak,fH,go_sem]
  exact hK _ _ ⟨by rw [Tn], by rw [hle]⟩
 ·simp only [mN,Option.map_some,Option.isSome_some,Option.getD_some,Lk] at fH
  have Tn : B6 X s = p := by unfold B6; rw [mN]; rfl
  have hle : oV e (B7 X s) = e := by unfold B7; rw [mN]; exact ra e
  simp only [ak,fH,go_sem]
  exact hK _ _ ⟨by rw [Tn], by rw [hle]⟩
theorem QZ (X : Rv) (vs : List ByteArray) (v : Nat) (e : Int) (s : ByteArray) : aF Tryz.prog 83 [.ptr 0 0, str s, .ptr 1 0] (L4 X vs v e) (str (B6 X s)) (L4 X vs v (oV e (B7 X s))) := by
 obtain ⟨r, m, ⟨rfl, rfl⟩, h⟩ := QY X vs v e s
 exact h
theorem Jv (X : Rv) (vs : List ByteArray) (v : Nat) (e : Int) (s : ByteArray) {M : List aC} {k0 k1 k2 k3 : Nat} (hM : y5 M X vs v e k0 k1 k2 k3) : aF Tryz.prog 83 [.ptr k0 0, str s, .ptr k1 0] M (str (B6 X s)) (M.set k0 (.box (EO X vs.length v (oV e (B7 X s)) k1 k3))) := by
 have h := LF (QZ X vs v e s) (by simp [au, aD, ay, aj, aI, aq, ah]) (by simp [au, aD, ay, aj, aI, aq, ah]) hM
 simpa [fN, c7, j4, ay, aj, aI, aq, gK] using h
theorem OB (X : Rv) (vs : List ByteArray) (v : Nat) (e : Int) (s : ByteArray) {M : List aC} (hM : y5 M X vs v e 0 1 2 3) : ∃ r_ B_, (fun r B => r = str (B6 X s) ∧ B = aC.box [str X.mp, .slice (X.a8.map a7), .slice (X.decls.map aB), num X.idx, .ms 3 v 0 vs.length, num (oV e (B7 X s)), .sc (.func (.func 85) #[] #[]), .sc (.func (.func 86) #[] #[]), .bp (.func 83) [] [.ptr 1 0]]) r_ B_ ∧ B_.b7 = 0 ∧ aF Tryz.prog 83 [.ptr 0 0, str s, .ptr 1 0] M r_ (M.set 0 B_) := ⟨_, _, ⟨rfl, rfl⟩, rfl, Jv X vs v e s hM⟩
theorem Q0 (s : ByteArray) (d : Dc) : ∃ r_, (fun w => w = bl (decide (d.name = s))) r_ ∧ aF Tryz.prog 199 [aB d, .ptr 0 0] ([.box [str s]]) r_ ([.box [str s]]) := by
 refine wX tt_ok [] 8 [.tmp 3] (fn := Tryz.f199) Tryz.func199 rfl Tryz.call199 ⟨rfl, rfl, by simp⟩ fun K hK => ?_
 simp only [ck,aB,aj,aq]
 simp only [ag,go_sem]
 exact hK _ _ ⟨rfl, rfl⟩
theorem Na (s : ByteArray) (l : List Dc) (hl : l.length ≤ 1048576) : ∃ r_, (fun w => w = num (oq l s)) r_ ∧ aF Tryz.prog 32 [.slice (l.map aB), .bp (.func 199) [] [.ptr 0 0]] ([.box [str s]]) r_ ([.box [str s]]) := by
 refine wX tt_ok [] 19 [.tmp 4] (fn := Tryz.f32) Tryz.func32 rfl Tryz.call32 ⟨rfl, rfl, by simp⟩ fun K hK => ?_
 simp only [List.length_map,go_sem]
 refine eA tt_ok [] [8] 1 [0,1,7] (fun vs => ((l.length : Int) - Go.Eng.intOf (vs.headD .undef)).toNat) (fun vs => ∃ i : Nat, vs = [num i] ∧ i ≤ l.length ∧ ∀ j < i, ∀ x, l[j]? = some x → decide (x.name = s) = false) (by omega) (by simp only [List.length_map,go_sem]) (⟨0, rfl, Nat.zero_le _, fun j hj => absurd hj (Nat.not_lt_zero j)⟩) fun vs hI Z1 cJ => ?_
 obtain ⟨i, rfl, hi, cK⟩ := hI
 simp only [List.length_map,go_sem]
 refine aV (fun jh => ?_) (fun jh => ?_)
 ·have aZ : i < l.length := by simpa using jh
  have hw := aU i (by omega)
  obtain ⟨x, hx⟩ : ∃ x, l[i]? = some x := ⟨_, List.getElem?_eq_getElem aZ⟩
  simp only [hw,List.getElem?_map,hx,aB,aj,aq,List.cons_append,List.nil_append,List.length_map,go_sem]
  refine cS (by have h := Q0 s x; simp only [ck,aB,aj,aq] at h; exact h) ?_
  rintro _ rfl
  simp only [hw,List.getElem?_map,hx,aB,aj,aq,List.cons_append,List.nil_append,List.length_map,go_sem]
  refine aV (fun dG => ?_) (fun dG => ?_)
  ·have ba : (i : Int) = oq l s := Js hx (of_decide_eq_true dG) cK
   simp only [hw,List.getElem?_map,hx,aB,aj,aq,List.cons_append,List.nil_append,List.length_map,go_sem]
   exact hK _ _ ⟨congrArg num ba, rfl⟩
  ·simp only [hw,List.getElem?_map,hx,aB,aj,aq,List.cons_append,List.nil_append,List.length_map,go_sem]
   refine cJ _ (kB (by omega) (by simp only [hw,List.getElem?_map,hx,aB,aj,aq,List.cons_append,List.nil_append,List.length_map,go_sem]) ?_ ?_) <;> simp only [dr,lk,reduceIte,zE]
   ·refine ⟨i + 1, rfl, aZ, fun j hj => ?_⟩
    rcases Nat.lt_or_ge j i with h | h
    ·exact cK j h
    ·obtain rfl : j = i := by omega
     intro y hy
     rw [hx] at hy; cases hy; exact dG
   ·simp only [Go.Eng.intOf,List.headD_cons]; omega
 ·have gv : ¬ i < l.length := by simpa using jh
  have ba : (-1 : Int) = oq l s := Bl fun j hj => cK j (by omega)
  simp only [List.length_map,go_sem]
  exact hK _ _ ⟨congrArg num ba, rfl⟩
theorem Nb (s : ByteArray) (l : List Dc) (hl : l.length ≤ 1048576) {M : List aC} {k : Nat} (hM : M[k]? = some (.box [str s])) : ∃ r_, (fun w => w = num (oq l s)) r_ ∧ aF Tryz.prog 32 [.slice (l.map aB), .bp (.func 199) [] [.ptr k 0]] M r_ M := by
 obtain ⟨_, rfl, h⟩ := Na s l hl
 have h2 := aF.keys (mem := [.box [str s]]) (B := .box [str s]) (j0 := 0) h M [k] rfl (by simp) (by simp) (by simp [au, aD]) rfl rfl rfl (fun i B hi => by
  rcases i with _ | i
  ·cases hi; exact hM
  ·simp at hi)
 have e : M.set (j4 [k] M.length 0) (jJ (j4 [k] M.length) (.box [str s])) = M := mg hM
 rw [e] at h2
 exact ⟨_, rfl, h2⟩
theorem rb (X : Rv) (vs : List ByteArray) (v : Nat) (e : Int) (ic : X.decls.length ≤ 1048576) (s : ByteArray) : ∃ r_, (fun w => w = num (oq X.decls s)) r_ ∧ aF Tryz.prog 142 [.ptr 0 0, str s] ([.box [str X.mp, .slice (X.a8.map a7), .slice (X.decls.map aB), num X.idx, .ms 3 v 0 vs.length, num (e), .sc (.func (.func 85) #[] #[]), .sc (.func (.func 86) #[] #[]), .bp (.func 83) [] [.ptr 1 0]], .box [.mp 2], .map (eT strVal 0 (bI (bK X.a8))) (bI (bK X.a8)).length, .rows v 1 (vs.map str)]) r_ ([.box [str X.mp, .slice (X.a8.map a7), .slice (X.decls.map aB), num X.idx, .ms 3 v 0 vs.length, num (e), .sc (.func (.func 85) #[] #[]), .sc (.func (.func 86) #[] #[]), .bp (.func 83) [] [.ptr 1 0]], .box [.mp 2], .map (eT strVal 0 (bI (bK X.a8))) (bI (bK X.a8)).length, .rows v 1 (vs.map str)]) := by
 refine wX tt_ok [] 12 [.tmp 4] (fn := Tryz.f142) Tryz.func142 rfl Tryz.call142 ⟨rfl, rfl, by simp⟩ fun K hK => ?_
 simp only [ak,go_sem]
 refine cS (Nb s X.decls ic rfl) ?_
 rintro _ rfl
 simp only [ak,go_sem]
 exact hK _ _ ⟨rfl, rfl⟩
theorem Nc (X : Rv) (vs : List ByteArray) (v : Nat) (e : Int) (ic : X.decls.length ≤ 1048576) (s : ByteArray) : ∃ r_, (fun w => w = num (sf X s)) r_ ∧ aF Tryz.prog 144 [.ptr 0 0, str s] ([.box [str X.mp, .slice (X.a8.map a7), .slice (X.decls.map aB), num X.idx, .ms 3 v 0 vs.length, num (e), .sc (.func (.func 85) #[] #[]), .sc (.func (.func 86) #[] #[]), .bp (.func 83) [] [.ptr 1 0]], .box [.mp 2], .map (eT strVal 0 (bI (bK X.a8))) (bI (bK X.a8)).length, .rows v 1 (vs.map str)]) r_ ([.box [str X.mp, .slice (X.a8.map a7), .slice (X.decls.map aB), num X.idx, .ms 3 v 0 vs.length, num (e), .sc (.func (.func 85) #[] #[]), .sc (.func (.func 86) #[] #[]), .bp (.func 83) [] [.ptr 1 0]], .box [.mp 2], .map (eT strVal 0 (bI (bK X.a8))) (bI (bK X.a8)).length, .rows v 1 (vs.map str)]) := by
 refine wX tt_ok [] 19 [.tmp 4] (fn := Tryz.f144) Tryz.func144 rfl Tryz.call144 ⟨rfl, rfl, by simp⟩ fun K hK => ?_
 simp only [ak,go_sem]
 refine cS (rb X vs v e ic s) ?_
 rintro _ rfl
 simp only [ak,go_sem]
 refine aV (fun jh => ?_) (fun jh => ?_)
 ·have ba : 6 = sf X s := by unfold sf; rw [if_pos (of_decide_eq_true jh)]
  simp only [ak,go_sem]
  exact hK _ _ ⟨congrArg num ba, rfl⟩
 ·have hn9 := of_decide_eq_false jh
  simp only [ak,go_sem]
  refine aV (fun F8 => ?_) (fun F8 => ?_)
  ·have ba : 14 = sf X s := by unfold sf; rw [if_neg hn9, if_pos (of_decide_eq_true F8)]
   simp only [ak,go_sem]
   exact hK _ _ ⟨congrArg num ba, rfl⟩
  ·have ba : 0 = sf X s := by unfold sf; rw [if_neg hn9, if_neg (of_decide_eq_false F8)]
   simp only [ak,go_sem]
   exact hK _ _ ⟨congrArg num ba, rfl⟩
theorem Bm (X : Rv) (vs : List ByteArray) (v : Nat) (e : Int) (ic : X.decls.length ≤ 1048576) (s : ByteArray) {M : List aC} (hM : y5 M X vs v e 0 1 2 3) : ∃ r_, (fun w => w = num (oq X.decls s)) r_ ∧ aF Tryz.prog 142 [.ptr 0 0, str s] M r_ M := by
 obtain ⟨_, rfl, h⟩ := rb X vs v e ic s
 have h2 := LF (e' := e) h rfl rfl hM
 rw [mg hM.h0] at h2
 exact ⟨_, rfl, h2⟩
theorem Q1 (X : Rv) (vs : List ByteArray) (v : Nat) (e : Int) (ic : X.decls.length ≤ 1048576) (s : ByteArray) {M : List aC} (hM : y5 M X vs v e 0 1 2 3) : ∃ r_, (fun w => w = num (sf X s)) r_ ∧ aF Tryz.prog 144 [.ptr 0 0, str s] M r_ M := by
 obtain ⟨_, rfl, h⟩ := Nc X vs v e ic s
 have h2 := LF (e' := e) h rfl rfl hM
 rw [mg hM.h0] at h2
 exact ⟨_, rfl, h2⟩
end Go.Proofs.YtnboooapeopjoaaGreatDoor
end

section
namespace Go.Proofs.YtnboooapeopjoaaGreatDoor
open Go.Eng
variable [aA]
set_option maxHeartbeats 4000000
set_option maxRecDepth 100000
theorem cT (mem : List aC) (ks : List (Nat × Nat)) (b : Bool) : bx mem ks (bl b) = mem := rfl
theorem B8 (l : List ByteArray) : (l.map str).take l.length = l.map str := List.take_of_length_le (by simp)
theorem F9 (X : Rv) (vs : List ByteArray) (v : Nat) (e : Int) (ic : X.decls.length ≤ 1048576) (gy : vs.length ≤ 1048576) (t : Ty) : ∃ r_ m_, (fun r m => Ci r = bg (Bk (gR X vs t) t) ∧ m = [.box [str X.mp, .slice (X.a8.map a7), .slice (X.decls.map aB), num X.idx, .ms 3 v 0 vs.length, num (sR X vs e t), .sc (.func (.func 85) #[] #[]), .sc (.func (.func 86) #[] #[]), .bp (.func 83) [] [.ptr 1 0]], .box [.mp 2], .map (eT strVal 0 (bI (bK X.a8))) (bI (bK X.a8)).length, .rows v 1 (vs.map str)]) r_ m_ ∧ aF Tryz.prog 85 [.ptr 0 0, bg t] ([.box [str X.mp, .slice (X.a8.map a7), .slice (X.decls.map aB), num X.idx, .ms 3 v 0 vs.length, num (e), .sc (.func (.func 85) #[] #[]), .sc (.func (.func 86) #[] #[]), .bp (.func 83) [] [.ptr 1 0]], .box [.mp 2], .map (eT strVal 0 (bI (bK X.a8))) (bI (bK X.a8)).length, .rows v 1 (vs.map str)]) r_ m_ := by
 refine ED tt_ok [] 49 [.cell 4 41] (4) (by simp) (fn := Tryz.f85) Tryz.func85 rfl Tryz.call85 ⟨rfl, rfl, by simp⟩ fun K hK => ?_
 simp only [ay,aj]
 simp only [ak,ab,af,ag,List.length_map,Nat.le_refl,B8 vs,cT,go_sem]
 refine aV (fun nQ => ?_) (fun nQ => ?_)
 ·have hm : ¬ t.mod = ⟨#[]⟩ := by simpa using nQ
  have iK : gR X vs t = some (B6 X t.mod) := by unfold gR; rw [if_neg hm]
  have Bn : sR X vs e t = oV e (B7 X t.mod) := by unfold sR tE; rw [if_neg hm]
  simp only [ak,ab,af,ag,List.length_map,Nat.le_refl,B8 vs,cT,go_sem]
  refine de tt_ok bj [⟨.n, 0, [], [], []⟩, ⟨.n, 0, [], [0], []⟩, ⟨.n, 0, [], [0,1], []⟩, ⟨.r, 0, [], [0,1,2], []⟩, ⟨.n, 0, [], [], []⟩, ⟨.n, 0, [], [], []⟩, ⟨.r, 0, [], [5], []⟩, ⟨.e, 0, [], [0,1,2,3,4,5,6], []⟩, ⟨.n, 0, [], [0,1,2,3,4,5,6,7], []⟩, ⟨.w, 0, [], [0,1,2,3,4,5,6,7,8], []⟩] 1 (by kernel_rfl) ?_
  simp only [ak,ab,af,ag,List.length_map,Nat.le_refl,B8 vs,cT,go_sem]
  refine ry rfl rfl (OB X vs v e t.mod ⟨rfl, rfl, rfl, rfl, by decide⟩) ?_
  rintro _ _ ⟨rfl, rfl⟩
  simp only [ak,ab,af,ag,List.length_map,Nat.le_refl,B8 vs,cT,go_sem]
  exact hK _ _ ⟨by rw [iK]; rfl, by rw [Bn]⟩
 ·have hm : t.mod = ⟨#[]⟩ := by simpa using nQ
  simp only [ak,ab,af,ag,List.length_map,Nat.le_refl,B8 vs,cT,go_sem]
  refine de tt_ok bj [⟨.n, 0, [], [], []⟩, ⟨.n, 0, [], [0], []⟩, ⟨.n, 0, [], [0,1], []⟩, ⟨.r, 0, [], [0,1,2], []⟩, ⟨.n, 0, [], [], []⟩, ⟨.r, 0, [], [4], []⟩, ⟨.z, 0, [], [0,1,2,3,4,5], []⟩, ⟨.n, 0, [], [0,1,2,3,4,5,6], []⟩] 0 (by kernel_rfl) ?_
  simp only [ak,ab,af,ag,List.length_map,Nat.le_refl,B8 vs,cT,go_sem]
  refine cGZ (Ju vs t.name gy) ?_
  simp only [ak,ab,af,ag,List.length_map,Nat.le_refl,B8 vs,cT,go_sem]
  refine aV (fun Dm => ?_) (fun Dm => ?_)
  ·have iK : gR X vs t = none := by unfold gR; rw [if_pos hm, if_pos Dm]
   simp only [ak,ab,af,ag,List.length_map,Nat.le_refl,B8 vs,cT,go_sem]
   refine aV (fun vr => ?_) (fun vr => ?_)
   ·have Bn : sR X vs e t = oV e 11 := by unfold sR tE; rw [if_pos hm, if_pos Dm, if_pos (by have h_ := of_decide_eq_true vr; (try rw [ab] at h_); omega)]
    simp only [ak,ab,af,ag,List.length_map,Nat.le_refl,B8 vs,cT,go_sem]
    refine cW (vq X vs v e _ ⟨rfl, rfl, rfl, rfl, by decide⟩) ?_
    rintro _ _ ⟨rfl, rfl⟩
    simp only [ak,ab,af,ag,List.length_map,Nat.le_refl,B8 vs,cT,go_sem]
    exact hK _ _ ⟨by rw [iK]; rfl, by rw [Bn]⟩
   ·have Bn : sR X vs e t = e := by unfold sR tE; rw [if_pos hm, if_pos Dm, if_neg (by have h_ := of_decide_eq_false vr; (try rw [ab] at h_); omega), ra]
    simp only [ak,ab,af,ag,List.length_map,Nat.le_refl,B8 vs,cT,go_sem]
    exact hK _ _ ⟨by rw [iK]; rfl, by rw [Bn]⟩
  ·have iK : gR X vs t = some X.mp := by unfold gR; rw [if_pos hm, if_neg (by rw [Dm]; simp)]
   simp only [ak,ab,af,ag,List.length_map,Nat.le_refl,B8 vs,cT,go_sem]
   refine cS (Bm X vs v e ic t.name ⟨rfl, rfl, rfl, rfl, by decide⟩) ?_
   rintro _ rfl
   simp only [ak,ab,af,ag,List.length_map,Nat.le_refl,B8 vs,cT,go_sem]
   refine aV (fun jh => ?_) (fun jh => ?_)
   ·have Bn : sR X vs e t = oV e 6 := by unfold sR tE; rw [if_pos hm, if_neg (by rw [Dm]; simp), if_pos (of_decide_eq_true jh)]
    simp only [ak,ab,af,ag,List.length_map,Nat.le_refl,B8 vs,cT,go_sem]
    refine cW (vq X vs v e _ ⟨rfl, rfl, rfl, rfl, by decide⟩) ?_
    rintro _ _ ⟨rfl, rfl⟩
    simp only [ak,ab,af,ag,List.length_map,Nat.le_refl,B8 vs,cT,go_sem]
    exact hK _ _ ⟨by rw [iK]; rfl, by rw [Bn]⟩
   ·have Bn : sR X vs e t = e := by unfold sR tE; rw [if_pos hm, if_neg (by rw [Dm]; simp), if_neg (of_decide_eq_false jh), ra]
    simp only [ak,ab,af,ag,List.length_map,Nat.le_refl,B8 vs,cT,go_sem]
    exact hK _ _ ⟨by rw [iK]; rfl, by rw [Bn]⟩
theorem Jw (X : Rv) (vs : List ByteArray) (v : Nat) (e : Int) (ic : X.decls.length ≤ 1048576) (gy : vs.length ≤ 1048576) (t : Ty) : ∃ r_ m_, (fun r m => r = bg (Bk (gR X vs t) t) ∧ m = [.box [str X.mp, .slice (X.a8.map a7), .slice (X.decls.map aB), num X.idx, .ms 3 v 0 vs.length, num (sR X vs e t), .sc (.func (.func 85) #[] #[]), .sc (.func (.func 86) #[] #[]), .bp (.func 83) [] [.ptr 1 0]], .box [.mp 2], .map (eT strVal 0 (bI (bK X.a8))) (bI (bK X.a8)).length, .rows v 1 (vs.map str)]) r_ m_ ∧ aF Tryz.prog 85 [.ptr 0 0, bg t] ([.box [str X.mp, .slice (X.a8.map a7), .slice (X.decls.map aB), num X.idx, .ms 3 v 0 vs.length, num (e), .sc (.func (.func 85) #[] #[]), .sc (.func (.func 86) #[] #[]), .bp (.func 83) [] [.ptr 1 0]], .box [.mp 2], .map (eT strVal 0 (bI (bK X.a8))) (bI (bK X.a8)).length, .rows v 1 (vs.map str)]) r_ m_ := by
 obtain ⟨r, m, ⟨h1, rfl⟩, h⟩ := F9 X vs v e ic gy t
 exact ⟨_, _, ⟨h1, rfl⟩, h.row⟩
theorem Jx (X : Rv) (vs : List ByteArray) (v : Nat) (e : Int) (ic : X.decls.length ≤ 1048576) (gy : vs.length ≤ 1048576) (t : Ty) : aF Tryz.prog 85 [.ptr 0 0, bg t] (L4 X vs v e) (bg (Bk (gR X vs t) t)) (L4 X vs v (sR X vs e t)) := by
 obtain ⟨r, m, ⟨rfl, rfl⟩, h⟩ := Jw X vs v e ic gy t
 exact h
theorem Jy (X : Rv) (vs : List ByteArray) (v : Nat) (e : Int) (ic : X.decls.length ≤ 1048576) (gy : vs.length ≤ 1048576) (t : Ty) {M : List aC} {k0 k1 k2 k3 : Nat} (hM : y5 M X vs v e k0 k1 k2 k3) : aF Tryz.prog 85 [.ptr k0 0, bg t] M (bg (Bk (gR X vs t) t)) (M.set k0 (.box (EO X vs.length v (sR X vs e t) k1 k3))) := by
 have h := LF (Jx X vs v e ic gy t) (by simp [au, aD, ay, aj, aI, aq, ah]) (by simp [au, aD, ay, aj, aI, aq, ah]) hM
 simpa [fN, c7, j4, ay, aj, aI, aq, gK] using h
theorem Nd (X : Rv) (vs : List ByteArray) (v : Nat) (e : Int) (ic : X.decls.length ≤ 1048576) (gy : vs.length ≤ 1048576) (t : Ty) {M : List aC} (hM : y5 M X vs v e 0 1 2 3) : ∃ r_ B_, (fun r B => r = bg (Bk (gR X vs t) t) ∧ B = aC.box [str X.mp, .slice (X.a8.map a7), .slice (X.decls.map aB), num X.idx, .ms 3 v 0 vs.length, num (sR X vs e t), .sc (.func (.func 85) #[] #[]), .sc (.func (.func 86) #[] #[]), .bp (.func 83) [] [.ptr 1 0]]) r_ B_ ∧ B_.b7 = 0 ∧ aF Tryz.prog 85 [.ptr 0 0, bg t] M r_ (M.set 0 B_) := ⟨_, _, ⟨rfl, rfl⟩, rfl, Jy X vs v e ic gy t hM⟩
theorem Ga (X : Rv) (vs : List ByteArray) (v : Nat) (e : Int) (ic : X.decls.length ≤ 1048576) (gy : vs.length ≤ 1048576) (loc : List ByteArray) (x : Ex) : ∃ r_ m_, (fun r m => r = bT (Ye (hR X loc x) x) ∧ m = [.box [str X.mp, .slice (X.a8.map a7), .slice (X.decls.map aB), num X.idx, .ms 3 v 0 vs.length, num (vR X loc e x), .sc (.func (.func 85) #[] #[]), .sc (.func (.func 86) #[] #[]), .bp (.func 83) [] [.ptr 1 0]], .box [.mp 2], .map (eT strVal 0 (bI (bK X.a8))) (bI (bK X.a8)).length, .rows v 1 (vs.map str)]) r_ m_ ∧ aF Tryz.prog 86 [.ptr 0 0, dh loc, bT x] ([.box [str X.mp, .slice (X.a8.map a7), .slice (X.decls.map aB), num X.idx, .ms 3 v 0 vs.length, num (e), .sc (.func (.func 85) #[] #[]), .sc (.func (.func 86) #[] #[]), .bp (.func 83) [] [.ptr 1 0]], .box [.mp 2], .map (eT strVal 0 (bI (bK X.a8))) (bI (bK X.a8)).length, .rows v 1 (vs.map str)]) r_ m_ := by
 refine ED tt_ok [] 46 [.cell 6 45] (4) (by simp) (fn := Tryz.f86) Tryz.func86 rfl Tryz.call86 ⟨rfl, rfl, by simp⟩ fun K hK => ?_
 simp only [aI,aq]
 simp only [ak,ah,ab,ae,List.length_map,ag,↓aw,↓ax,cT,go_sem]
 refine aV (fun yr => ?_) (fun yr => ?_)
 ·have hm : ¬ x.mod = ⟨#[]⟩ := by simpa using yr
  have iK : hR X loc x = (x.kind, B6 X x.mod) := by unfold hR; rw [if_neg hm]
  have Bn : vR X loc e x = oV e (B7 X x.mod) := by unfold vR vE; rw [if_neg hm]
  simp only [ak,ah,ab,ae,List.length_map,ag,↓aw,↓ax,cT,go_sem]
  refine de tt_ok bj [⟨.n, 0, [], [], []⟩, ⟨.n, 0, [], [0], []⟩, ⟨.n, 0, [], [0,1], []⟩, ⟨.r, 0, [], [0,1,2], []⟩, ⟨.n, 0, [], [], []⟩, ⟨.n, 0, [], [], []⟩, ⟨.r, 0, [], [5], []⟩, ⟨.e, 0, [], [0,1,2,3,4,5,6], []⟩, ⟨.n, 0, [], [0,1,2,3,4,5,6,7], []⟩, ⟨.w, 0, [], [0,1,2,3,4,5,6,7,8], []⟩] 1 (by kernel_rfl) ?_
  simp only [ak,ah,ab,ae,List.length_map,ag,↓aw,↓ax,cT,go_sem]
  refine ry rfl rfl (OB X vs v e x.mod ⟨rfl, rfl, rfl, rfl, by decide⟩) ?_
  rintro _ _ ⟨rfl, rfl⟩
  simp only [ak,ah,ab,ae,List.length_map,ag,↓aw,↓ax,cT,go_sem]
  exact hK _ _ ⟨by rw [iK]; rfl, by rw [Bn]⟩
 ·have hm : x.mod = ⟨#[]⟩ := by simpa using yr
  simp only [ak,ah,ab,ae,List.length_map,ag,↓aw,↓ax,cT,go_sem]
  refine cF (M4 loc x.name) ?_
  rintro _ rfl
  simp only [ak,ah,ab,ae,List.length_map,ag,↓aw,↓ax,cT,go_sem]
  refine aV (fun Gb => ?_) (fun Gb => ?_)
  ·have iK : hR X loc x = (x.kind, x.mod) := by unfold hR; rw [if_pos hm, if_pos Gb]
   simp only [ak,ah,ab,ae,List.length_map,ag,↓aw,↓ax,cT,go_sem]
   refine aV (fun vt => ?_) (fun vt => ?_)
   ·have Bn : vR X loc e x = oV e 11 := by unfold vR vE; rw [if_pos hm, if_pos Gb, if_pos (of_decide_eq_true vt)]
    simp only [ak,ah,ab,ae,List.length_map,ag,↓aw,↓ax,cT,go_sem]
    refine cW (vq X vs v e _ ⟨rfl, rfl, rfl, rfl, by decide⟩) ?_
    rintro _ _ ⟨rfl, rfl⟩
    simp only [ak,ah,ab,ae,List.length_map,ag,↓aw,↓ax,cT,go_sem]
    exact hK _ _ ⟨by rw [iK]; rfl, by rw [Bn]⟩
   ·have Bn : vR X loc e x = e := by unfold vR vE; rw [if_pos hm, if_pos Gb, if_neg (of_decide_eq_false vt), ra]
    simp only [ak,ah,ab,ae,List.length_map,ag,↓aw,↓ax,cT,go_sem]
    exact hK _ _ ⟨by rw [iK]; rfl, by rw [Bn]⟩
  ·have iK : hR X loc x = (4, X.mp) := by unfold hR; rw [if_pos hm, if_neg (by rw [Gb]; simp)]
   have Bn : vR X loc e x = oV e (sf X x.name) := by unfold vR vE; rw [if_pos hm, if_neg (by rw [Gb]; simp)]
   simp only [ak,ah,ab,ae,List.length_map,ag,↓aw,↓ax,cT,go_sem]
   refine cS (Q1 X vs v e ic x.name ⟨rfl, rfl, rfl, rfl, by decide⟩) ?_
   rintro _ rfl
   simp only [ak,ah,ab,ae,List.length_map,ag,↓aw,↓ax,cT,go_sem]
   refine cW (vq X vs v e _ ⟨rfl, rfl, rfl, rfl, by decide⟩) ?_
   rintro _ _ ⟨rfl, rfl⟩
   simp only [ak,ah,ab,ae,List.length_map,ag,↓aw,↓ax,cT,go_sem]
   refine de tt_ok bj [⟨.n, 0, [], [], []⟩, ⟨.n, 0, [], [0], []⟩, ⟨.n, 0, [], [0,1], []⟩, ⟨.n, 0, [], [0,1,2], []⟩, ⟨.r, 0, [], [0,1,2,3], [4]⟩, ⟨.n, 0, [], [], []⟩, ⟨.e, 4, [], [5], []⟩, ⟨.n, 0, [], [0,1,2,3,4,5,6], []⟩, ⟨.e, 4, [], [0,1,2,3,4,5,6,7], []⟩] 0 (by kernel_rfl) ?_
   simp only [ak,ah,ab,ae,List.length_map,ag,↓aw,↓ax,cT,go_sem]
   exact hK _ _ ⟨by rw [iK]; rfl, by rw [Bn]⟩
theorem Gc (X : Rv) (vs : List ByteArray) (v : Nat) (e : Int) (ic : X.decls.length ≤ 1048576) (gy : vs.length ≤ 1048576) (loc : List ByteArray) (x : Ex) : aF Tryz.prog 86 [.ptr 0 0, dh loc, bT x] (L4 X vs v e) (bT (Ye (hR X loc x) x)) (L4 X vs v (vR X loc e x)) := by
 obtain ⟨r, m, ⟨rfl, rfl⟩, h⟩ := Ga X vs v e ic gy loc x
 exact h
theorem Gd (X : Rv) (vs : List ByteArray) (v : Nat) (e : Int) (ic : X.decls.length ≤ 1048576) (gy : vs.length ≤ 1048576) (loc : List ByteArray) (x : Ex) {M : List aC} {k0 k1 k2 k3 : Nat} (hM : y5 M X vs v e k0 k1 k2 k3) : aF Tryz.prog 86 [.ptr k0 0, dh loc, bT x] M (bT (Ye (hR X loc x) x)) (M.set k0 (.box (EO X vs.length v (vR X loc e x) k1 k3))) := by
 have h := LF (Gc X vs v e ic gy loc x) (by simp [au, aD, ay, aj, aI, aq, ah]) (by simp [au, aD, ay, aj, aI, aq, ah]) hM
 simpa [fN, c7, j4, ay, aj, aI, aq, gK] using h
theorem Jz (X : Rv) (vs : List ByteArray) (v : Nat) (e : Int) (ic : X.decls.length ≤ 1048576) (gy : vs.length ≤ 1048576) (loc : List ByteArray) (x : Ex) {M : List aC} (hM : y5 M X vs v e 0 1 2 3) : ∃ r_ B_, (fun r B => r = bT (Ye (hR X loc x) x) ∧ B = aC.box [str X.mp, .slice (X.a8.map a7), .slice (X.decls.map aB), num X.idx, .ms 3 v 0 vs.length, num (vR X loc e x), .sc (.func (.func 85) #[] #[]), .sc (.func (.func 86) #[] #[]), .bp (.func 83) [] [.ptr 1 0]]) r_ B_ ∧ B_.b7 = 0 ∧ aF Tryz.prog 86 [.ptr 0 0, dh loc, bT x] M r_ (M.set 0 B_) := ⟨_, _, ⟨rfl, rfl⟩, rfl, Gd X vs v e ic gy loc x hM⟩
end Go.Proofs.YtnboooapeopjoaaGreatDoor
end

section
namespace Go.Proofs.YtnboooapeopjoaaGreatDoor
open Go.Eng
open Nat renaming reduceAdd → zA, reduceLT → zB, reduceLeDiff → zC, reduceMul → zD, reduceEqDiff → zE, reduceSub → zF
variable [aA]
set_option maxHeartbeats 4000000
set_option maxRecDepth 100000
theorem Bo (l : List Fd) (n : Nat) : cf (a6 l) n 7 = true := by
 unfold cf; split
 ·rename_i h; simp [gX] at h; obtain ⟨t, -, rfl⟩ := h; simp [FQ]
 ·rfl
theorem Bp (l : List Lb) (n : Nat) : cf (l.map aX) n 8 = true := by
 unfold cf; split
 ·rename_i h; simp at h; obtain ⟨t, -, rfl⟩ := h; simp [aX, aj, V.cells]
 ·rfl
theorem Bq (l : List Ex) (n : Nat) : cf (bL l) n 8 = true := by
 unfold cf; split
 ·rename_i h; simp [kl] at h; obtain ⟨t, -, rfl⟩ := h; simp [FR]
 ·rfl
theorem JA (l : List Pm) (n : Nat) : cf (l.map cb) n 7 = true := by
 unfold cf; split
 ·rename_i h; simp at h; obtain ⟨t, -, rfl⟩ := h; simp [cb, aj, V.cells]
 ·rfl
theorem JB (l : List Im) (n : Nat) : cf (l.map a7) n 2 = true := by
 unfold cf; split
 ·rename_i h; simp at h; obtain ⟨t, -, rfl⟩ := h; simp [a7, V.cells]
 ·rfl
theorem vu (rows : List V) (h1 : cf rows 0 7 = true) (hl : rows.length ≤ 34359738368) : aF Tryz.prog 54 [.slice rows] [] (.ms 0 1 0 rows.length) [.rows 1 7 rows] := by
 refine gw tt_ok (fn := Tryz.f54) 1 (by simp) Tryz.func54 rfl Tryz.call54 ?_
 simp only [ck,bA,Tryz.ntmps54,List.length_cons,List.length_nil,zA,zF,List.replicate_succ,List.replicate_zero]
 refine ai tt_ok fun K hK => ?_
 simp only [go_sem]
 refine hK _ ?_
 refine aS ?_
 refine ai tt_ok fun K hK => ?_
 simp only [go_sem]
 intro b hb
 refine hK _ ?_
 cases b with
 | true =>
  have h0 : rows = [] := by
   cases rows with
   | nil => rfl
   | cons a r => have := hb (by simp); cases this
  subst h0
  refine aL rfl ?_
  refine ai tt_ok fun K hK => ?_
  simp only [go_sem]
  refine hK _ ?_
  refine j2 2 1 7 rfl ?_
  exact aY ⟨.inl rfl, rfl, rfl, rfl, rfl⟩
 | false =>
  refine aL rfl (bn ?_)
  show cD _ _ _ _ _ _
  refine ai tt_ok fun K hK => ?_
  simp only [h1,hl,go_sem]
  refine hK _ ?_
  refine aY ⟨.inl rfl, ?_⟩
  simp [gU, l4, oA, Tryz.f54, au, az, aD]
theorem vw (rows : List V) (h1 : cf rows 0 8 = true) (hl : rows.length ≤ 34359738368) : aF Tryz.prog 55 [.slice rows] [] (.ms 0 1 0 rows.length) [.rows 1 8 rows] := by
 refine gw tt_ok (fn := Tryz.f55) 1 (by simp) Tryz.func55 rfl Tryz.call55 ?_
 simp only [ck,bA,Tryz.ntmps55,List.length_cons,List.length_nil,zA,zF,List.replicate_succ,List.replicate_zero]
 refine ai tt_ok fun K hK => ?_
 simp only [go_sem]
 refine hK _ ?_
 refine aS ?_
 refine ai tt_ok fun K hK => ?_
 simp only [go_sem]
 intro b hb
 refine hK _ ?_
 cases b with
 | true =>
  have h0 : rows = [] := by
   cases rows with
   | nil => rfl
   | cons a r => have := hb (by simp); cases this
  subst h0
  refine aL rfl ?_
  refine ai tt_ok fun K hK => ?_
  simp only [go_sem]
  refine hK _ ?_
  refine j2 2 1 8 rfl ?_
  exact aY ⟨.inl rfl, rfl, rfl, rfl, rfl⟩
 | false =>
  refine aL rfl (bn ?_)
  show cD _ _ _ _ _ _
  refine ai tt_ok fun K hK => ?_
  simp only [h1,hl,go_sem]
  refine hK _ ?_
  refine aY ⟨.inl rfl, ?_⟩
  simp [gU, l4, oA, Tryz.f55, au, az, aD]
theorem vz (rows : List V) (h1 : cf rows 0 8 = true) (hl : rows.length ≤ 34359738368) : aF Tryz.prog 56 [.slice rows] [] (.ms 0 1 0 rows.length) [.rows 1 8 rows] := by
 refine gw tt_ok (fn := Tryz.f56) 1 (by simp) Tryz.func56 rfl Tryz.call56 ?_
 simp only [ck,bA,Tryz.ntmps56,List.length_cons,List.length_nil,zA,zF,List.replicate_succ,List.replicate_zero]
 refine ai tt_ok fun K hK => ?_
 simp only [go_sem]
 refine hK _ ?_
 refine aS ?_
 refine ai tt_ok fun K hK => ?_
 simp only [go_sem]
 intro b hb
 refine hK _ ?_
 cases b with
 | true =>
  have h0 : rows = [] := by
   cases rows with
   | nil => rfl
   | cons a r => have := hb (by simp); cases this
  subst h0
  refine aL rfl ?_
  refine ai tt_ok fun K hK => ?_
  simp only [go_sem]
  refine hK _ ?_
  refine j2 2 1 8 rfl ?_
  exact aY ⟨.inl rfl, rfl, rfl, rfl, rfl⟩
 | false =>
  refine aL rfl (bn ?_)
  show cD _ _ _ _ _ _
  refine ai tt_ok fun K hK => ?_
  simp only [h1,hl,go_sem]
  refine hK _ ?_
  refine aY ⟨.inl rfl, ?_⟩
  simp [gU, l4, oA, Tryz.f56, au, az, aD]
theorem Dn (rows : List V) (h1 : cf rows 0 7 = true) (hl : rows.length ≤ 34359738368) : aF Tryz.prog 21 [.slice rows] [] (.ms 0 1 0 rows.length) [.rows 1 7 rows] := by
 refine gw tt_ok (fn := Tryz.f21) 1 (by simp) Tryz.func21 rfl Tryz.call21 ?_
 simp only [ck,bA,Tryz.ntmps21,List.length_cons,List.length_nil,zA,zF,List.replicate_succ,List.replicate_zero]
 refine ai tt_ok fun K hK => ?_
 simp only [go_sem]
 refine hK _ ?_
 refine aS ?_
 refine ai tt_ok fun K hK => ?_
 simp only [go_sem]
 intro b hb
 refine hK _ ?_
 cases b with
 | true =>
  have h0 : rows = [] := by
   cases rows with
   | nil => rfl
   | cons a r => have := hb (by simp); cases this
  subst h0
  refine aL rfl ?_
  refine ai tt_ok fun K hK => ?_
  simp only [go_sem]
  refine hK _ ?_
  refine j2 2 1 7 rfl ?_
  exact aY ⟨.inl rfl, rfl, rfl, rfl, rfl⟩
 | false =>
  refine aL rfl (bn ?_)
  show cD _ _ _ _ _ _
  refine ai tt_ok fun K hK => ?_
  simp only [h1,hl,go_sem]
  refine hK _ ?_
  refine aY ⟨.inl rfl, ?_⟩
  simp [gU, l4, oA, Tryz.f21, au, az, aD]
theorem Dp (rows : List V) (h1 : cf rows 0 2 = true) (hl : rows.length ≤ 34359738368) : aF Tryz.prog 19 [.slice rows] [] (.ms 0 1 0 rows.length) [.rows 1 2 rows] := by
 refine gw tt_ok (fn := Tryz.f19) 1 (by simp) Tryz.func19 rfl Tryz.call19 ?_
 simp only [ck,bA,Tryz.ntmps19,List.length_cons,List.length_nil,zA,zF,List.replicate_succ,List.replicate_zero]
 refine ai tt_ok fun K hK => ?_
 simp only [go_sem]
 refine hK _ ?_
 refine aS ?_
 refine ai tt_ok fun K hK => ?_
 simp only [go_sem]
 intro b hb
 refine hK _ ?_
 cases b with
 | true =>
  have h0 : rows = [] := by
   cases rows with
   | nil => rfl
   | cons a r => have := hb (by simp); cases this
  subst h0
  refine aL rfl ?_
  refine ai tt_ok fun K hK => ?_
  simp only [go_sem]
  refine hK _ ?_
  refine j2 2 1 2 rfl ?_
  exact aY ⟨.inl rfl, rfl, rfl, rfl, rfl⟩
 | false =>
  refine aL rfl (bn ?_)
  show cD _ _ _ _ _ _
  refine ai tt_ok fun K hK => ?_
  simp only [h1,hl,go_sem]
  refine hK _ ?_
  refine aY ⟨.inl rfl, ?_⟩
  simp [gU, l4, oA, Tryz.f19, au, az, aD]
end Go.Proofs.YtnboooapeopjoaaGreatDoor
end

section
namespace Go.Proofs.YtnboooapeopjoaaGreatDoor
open Go.Eng
variable [aA]
theorem Ty.eta (t : Ty) : Ty.mk t.kind t.mod t.name t.args t.aJ = t := by obtain ⟨k, m, n, ts, fs⟩ := t; rfl
theorem Fd.eta (f : Fd) : Fd.mk f.name f.ty f.opt = f := by obtain ⟨n, t, o⟩ := f; rfl
theorem Ty.induct {p : Ty → Prop} (h : ∀ t : Ty, (∀ u ∈ t.parts, p u) → p t) : ∀ t, p t := by
 have key : ∀ (N : Nat) (t : Ty), t.size ≤ N → p t := by
  intro N
  induction N with
  | zero => intro t ht; have := t.size_pos; omega
  | succ N ih =>
   intro t ht
   refine h t fun u hu => ih u ?_
   obtain ⟨i, hi⟩ := List.mem_iff_getElem?.1 hu
   have e1 := bG Ty.size hi
   have e2 := t.cE
   omega
 exact fun t => key t.size t (Nat.le_refl _)
theorem Ty.Br {t u : Ty} (h : u ∈ t.args) : u ∈ t.parts := List.mem_append_left _ h
theorem Ty.Bs {t : Ty} {f : Fd} (h : f ∈ t.aJ) : f.ty ∈ t.parts := List.mem_append_right _ (List.mem_map.2 ⟨f, h, rfl⟩)
def Ty.vars (t : Ty) : List ByteArray := (t.nodes.filter fun u => decide (u.kind = 9)).map Ty.name
end Go.Proofs.YtnboooapeopjoaaGreatDoor
end

section
namespace Go.Proofs.YtnboooapeopjoaaGreatDoor
open Go.Eng
open Nat renaming reduceAdd → zA, reduceLT → zB, reduceLeDiff → zC, reduceMul → zD, reduceEqDiff → zE, reduceSub → zF
variable [aA]
set_option maxHeartbeats 4000000
set_option maxRecDepth 100000
theorem UJ {g : Ty → Option ByteArray} {t u : Ty} (hu : u = if t.kind = 10 ∨ t.kind = 9 then Bk (g t) t else t) : t.res g = .mk u.kind u.mod u.name (u.args.map (Ty.res g)) (u.aJ.map (Fd.res g)) := by
 rw [Ty.mu]
 unfold F5
 by_cases hk : t.kind = 10 ∨ t.kind = 9
 ·rw [if_pos hk] at hu ⊢
  cases hg : g t with
  | some m => rw [hg] at hu; subst hu; rfl
  | none => rw [hg] at hu; subst hu; rfl
 ·rw [if_neg hk] at hu ⊢
  subst hu; rfl
theorem OC {S : Type} {g : Ty → Option ByteArray} {s : S → Ty → S} {t u : Ty} (a : S) (hu : u = if t.kind = 10 ∨ t.kind = 9 then Bk (g t) t else t) :
  t.fold g s a = u.aJ.foldl (fun a f => f.ty.fold g s a) (u.args.foldl (fun a t => t.fold g s a) (if t.kind = 10 ∨ t.kind = 9 then s a t else a)) := by
 rw [Ty.fold_eq]
 unfold F5
 by_cases hk : t.kind = 10 ∨ t.kind = 9
 ·rw [if_pos hk] at hu
  simp only [if_pos hk]
  cases hg : g t with
  | some m => rw [hg] at hu; subst hu; rfl
  | none => rw [hg] at hu; subst hu; rfl
 ·rw [if_neg hk] at hu
  simp only [if_neg hk]
  subst hu; rfl
theorem Q3 {g : Ty → Option ByteArray} {t u : Ty} (hu : u = if t.kind = 10 ∨ t.kind = 9 then Bk (g t) t else t) : (u.args = t.args ∧ u.aJ = t.aJ) ∨ (u.args = [] ∧ u.aJ = []) := by
 by_cases hk : t.kind = 10 ∨ t.kind = 9
 ·rw [if_pos hk] at hu
  cases hg : g t with
  | some m => rw [hg] at hu; subst hu; exact .inl ⟨rfl, rfl⟩
  | none => rw [hg] at hu; subst hu; exact .inr ⟨rfl, rfl⟩
 ·rw [if_neg hk] at hu
  subst hu; exact .inl ⟨rfl, rfl⟩
theorem UK {g : Ty → Option ByteArray} {t u : Ty} (hu : u = if t.kind = 10 ∨ t.kind = 9 then Bk (g t) t else t) : u.args.length ≤ t.args.length ∧ u.aJ.length ≤ t.aJ.length ∧ (∀ x ∈ u.args, x ∈ t.parts) ∧ ∀ f ∈ u.aJ, f.ty ∈ t.parts := by
 rcases Q3 hu with ⟨h1, h2⟩ | ⟨h1, h2⟩
 ·rw [h1, h2]; exact ⟨Nat.le_refl _, Nat.le_refl _, fun x hx => Ty.Br hx, fun f hf => Ty.Bs hf⟩
 ·rw [h1, h2]; exact ⟨Nat.zero_le _, Nat.zero_le _, fun x hx => (by cases hx), fun f hf => (by cases hf)⟩
theorem fG {α : Type} {g : α → α} {l al : List α} {i : Nat} {x : α} (has : al = (l.take i).map g ++ l.drop i) (hx : l[i]? = some x) : al.set i (g x) = (l.take (i + 1)).map g ++ l.drop (i + 1) := by
 have aZ := (List.getElem?_eq_some_iff.1 hx).1
 have hg := (List.getElem?_eq_some_iff.1 hx).2
 have hl : ((l.take i).map g).length = i := by simp; omega
 rw [has, List.set_append_right _ _ (by omega), hl, Nat.sub_self, List.drop_eq_getElem_cons aZ, List.set_cons_zero, List.take_add_one, hx]
 simp
theorem jB {α : Type} {g : α → α} {l al : List α} {i : Nat} {x : α} (has : al = (l.take i).map g ++ l.drop i) (hx : l[i]? = some x) : al[i]? = some x ∧ al.length = l.length := by
 have aZ := (List.getElem?_eq_some_iff.1 hx).1
 have hl : ((l.take i).map g).length = i := by simp; omega
 constructor
 ·rw [has, List.getElem?_append_right (by omega), hl, Nat.sub_self, List.getElem?_drop]; simpa using hx
 ·rw [has]; simp; omega
theorem Yf {α β : Type} (h : α → β) (l : List α) (n : Nat) (hn : l.length = n) : (l.map h).take n = l.map h := List.take_of_length_le (by simp [hn])
theorem JC (X : Rv) (vs : List ByteArray) (v : Nat) (e : Int) (ic : X.decls.length ≤ 1048576) (gy : vs.length ≤ 1048576) (t u : Ty) (hu : u = Bk (gR X vs t) t) (e1 : Int) (he : e1 = sR X vs e t) {M : List aC} (hM : y5 M X vs v e 0 1 2 3) : ∃ r_ B_, (fun r B => r = .agg [num u.kind, str u.mod, str u.name, .slice (aE u.args), .slice (a6 u.aJ)] ∧ B = aC.box [str X.mp, .slice (X.a8.map a7), .slice (X.decls.map aB), num X.idx, .ms 3 v 0 vs.length, num (e1), .sc (.func (.func 85) #[] #[]), .sc (.func (.func 86) #[] #[]), .bp (.func 83) [] [.ptr 1 0]]) r_ B_ ∧ B_.b7 = 0 ∧ aF Tryz.prog 85 [.ptr 0 0, .agg [num t.kind, str t.mod, str t.name, .slice (aE t.args), .slice (a6 t.aJ)]] M r_ (M.set 0 B_) := by
 subst hu; subst he
 have h := Nd X vs v e ic gy t hM
 rw [ay, ay] at h
 exact h
theorem ot {X : Rv} {vs : List ByteArray} {v : Nat} {x y : Ty} {e1 e2 : Int} (h : aF Tryz.prog 87 [.ptr 0 0, bg x] (L4 X vs v e1) (bg y) (L4 X vs v e2)) {M : List aC} (hM : y5 M X vs v e1 0 1 2 3) : ∃ r_ B_, (fun r B => r = .agg [num y.kind, str y.mod, str y.name, .slice (aE y.args), .slice (a6 y.aJ)] ∧ B = aC.box [str X.mp, .slice (X.a8.map a7), .slice (X.decls.map aB), num X.idx, .ms 3 v 0 vs.length, num (e2), .sc (.func (.func 85) #[] #[]), .sc (.func (.func 86) #[] #[]), .bp (.func 83) [] [.ptr 1 0]]) r_ B_ ∧ B_.b7 = 0 ∧ aF Tryz.prog 87 [.ptr 0 0, .agg [num x.kind, str x.mod, str x.name, .slice (aE x.args), .slice (a6 x.aJ)]] M r_ (M.set 0 B_) := by
 have h2 := LF h (by simp [au, aD, ay, aj]) (by simp [au, aD, ay, aj]) hM
 refine ⟨_, _, ⟨rfl, rfl⟩, rfl, ?_⟩
 simpa [fN, c7, j4, ay, aj, EO] using h2
theorem Dq (X : Rv) (vs : List ByteArray) (v : Nat) (e : Int) (ic : X.decls.length ≤ 1048576) (gy : vs.length ≤ 1048576) (t : Ty) (Sp : t.args.length ≤ 1048576) (R5 : t.aJ.length ≤ 1048576) (jM : ∀ p ∈ t.parts, ∀ e, aF Tryz.prog 87 [.ptr 0 0, bg p] (L4 X vs v e) (bg (p.res (gR X vs))) (L4 X vs v (p.fold (gR X vs) (sR X vs) e))) : ∃ r_ m_, (fun r m => r = bg (t.res (gR X vs)) ∧ m = [.box [str X.mp, .slice (X.a8.map a7), .slice (X.decls.map aB), num X.idx, .ms 3 v 0 vs.length, num (t.fold (gR X vs) (sR X vs) e), .sc (.func (.func 85) #[] #[]), .sc (.func (.func 86) #[] #[]), .bp (.func 83) [] [.ptr 1 0]], .box [.mp 2], .map (eT strVal 0 (bI (bK X.a8))) (bI (bK X.a8)).length, .rows v 1 (vs.map str)]) r_ m_ ∧ aF Tryz.prog 87 [.ptr 0 0, bg t] ([.box [str X.mp, .slice (X.a8.map a7), .slice (X.decls.map aB), num X.idx, .ms 3 v 0 vs.length, num (e), .sc (.func (.func 85) #[] #[]), .sc (.func (.func 86) #[] #[]), .bp (.func 83) [] [.ptr 1 0]], .box [.mp 2], .map (eT strVal 0 (bI (bK X.a8))) (bI (bK X.a8)).length, .rows v 1 (vs.map str)]) r_ m_ := by
 refine ED tt_ok [1,14,30000] 67 [.cell 4 41] (4) (by simp) (fn := Tryz.f87) Tryz.func87 rfl Tryz.call87 ⟨rfl, rfl, by simp⟩ fun K hK => ?_
 obtain ⟨u, hu⟩ : ∃ u, u = (if t.kind = 10 ∨ t.kind = 9 then Bk ((gR X vs) t) t else t) := ⟨_, rfl⟩
 obtain ⟨e1, Dr⟩ : ∃ x, x = (if t.kind = 10 ∨ t.kind = 9 then (sR X vs) e t else e) := ⟨_, rfl⟩
 obtain ⟨hul, huf, S8, hpf⟩ := UK hu
 have JD := UJ hu
 have vA := OC (s := (sR X vs)) e hu
 rw [← Dr] at vA
 simp only [ay,aj]
 simp only [ak,ah,ab,af,go_sem]
 refine rV (n := 67) tt_ok [1,14,30000] (fun _ : Unit => [(0, .ptr 0 0), (3, .ptr 4 0), (4, .ptr 5 0)]) (fun _ : Unit => [.box [str X.mp, .slice (X.a8.map a7), .slice (X.decls.map aB), num X.idx, .ms 3 v 0 vs.length, num (e1), .sc (.func (.func 85) #[] #[]), .sc (.func (.func 86) #[] #[]), .bp (.func 83) [] [.ptr 1 0]], .box [.mp 2], .map (eT strVal 0 (bI (bK X.a8))) (bI (bK X.a8)).length, .rows v 1 (vs.map str), .box [num u.kind, str u.mod, str u.name, .slice (aE u.args), .slice (a6 u.aJ)], .box [num 0, str ⟨#[]⟩, str ⟨#[]⟩, .sc (.slice none 0 0), .sc (.slice none 0 0)]]) 6 (fun _ => True) (fun Z1 cJ => ?_) ?_
 ·simp only [ak,ah,ab,af,go_sem]
  refine fp tt_ok [1,14,30000] [16] 6 [0,1,3,4] (fun vs => vs = [bl (decide (t.kind = 10) || decide (t.kind = 9))]) (fun Z2 kT => ?_) ?_
  ·simp only [ak,ah,ab,af,go_sem]
   refine kA tt_ok ?_
   simp only [ak,ah,ab,af,go_sem]
   refine aV (fun dM => ?_) (fun dM => ?_)
   ·simp only [ak,ah,ab,af,go_sem]
    refine kT _ (ct (by omega) (by simp only [ak,ah,ab,af,go_sem]) ?_)
    simp only [dr,lk,reduceIte,zE]
    exact congrArg (fun b => [bl b]) (by rw [dM]; first | rfl | simp)
   ·simp only [ak,ah,ab,af,go_sem]
    refine kT _ (ct (by omega) (by simp only [ak,ah,ab,af,go_sem]) ?_)
    simp only [dr,lk,reduceIte,zE]
    exact congrArg (fun b => [bl b]) (by rw [dM]; first | rfl | simp)
  ·intro vs hJ
   obtain rfl := hJ
   simp only [ak,ah,ab,af,go_sem]
   refine aV (fun dG => ?_) (fun dG => ?_)
   ·have hk : t.kind = 10 ∨ t.kind = 9 := by simpa using dG
    have wz : u = Bk ((gR X vs) t) t := by rw [hu, if_pos hk]
    have yH : e1 = (sR X vs) e t := by rw [Dr, if_pos hk]
    simp only [ak,ah,ab,af,go_sem]
    refine de tt_ok bj [⟨.n, 0, [], [], []⟩, ⟨.n, 0, [], [0], []⟩, ⟨.n, 0, [], [0,1], []⟩, ⟨.r, 0, [], [0,1,2], []⟩, ⟨.n, 0, [], [], []⟩, ⟨.r, 0, [], [], []⟩, ⟨.e, 0, [], [0,1,2,3,4,5], []⟩, ⟨.w, 0, [], [0,1,2,3,4,5,6], []⟩] 1 (by kernel_rfl) ?_
    simp only [ak,ah,ab,af,go_sem]
    refine ry rfl rfl (JC X vs v e ic gy t u wz e1 yH ⟨rfl, rfl, rfl, rfl, by decide⟩) ?_
    rintro _ _ ⟨rfl, rfl⟩
    simp only [ak,ah,ab,af,go_sem]
    try rw [← wz, ← yH]
    refine cJ _ ⟨(), ?_, cV (by omega) (by simp only [ak,ah,ab,af,go_sem])⟩
    exact trivial
   ·have hk : ¬ (t.kind = 10 ∨ t.kind = 9) := by simpa using dG
    have wz : u = t := by rw [hu, if_neg hk]
    have yH : e1 = e := by rw [Dr, if_neg hk]
    simp only [ak,ah,ab,af,go_sem]
    try rw [← wz, ← yH]
    refine cJ _ ⟨(), ?_, cV (by omega) (by simp only [ak,ah,ab,af,go_sem])⟩
    exact trivial
 ·intro _ _
  simp only [ak,ah,ab,af,go_sem]
  refine de tt_ok bj [⟨.n, 0, [], [], []⟩, ⟨.r, 0, [], [0], []⟩, ⟨.a, 0, [], [0,1], []⟩, ⟨.n, 0, [], [], []⟩, ⟨.r, 0, [0], [3], []⟩, ⟨.a, 1, [], [0,1,2,3,4], []⟩, ⟨.n, 0, [], [0,1,2,3,4], []⟩, ⟨.w, 2, [], [0,1,2,3,4,5,6], []⟩, ⟨.n, 0, [], [0,1,2,3,4,5,6,7], []⟩, ⟨.w, 3, [], [0,1,2,3,4,5,6,7,8], []⟩] 4 (by kernel_rfl) ?_
  simp only [ak,ah,ab,af,go_sem]
  refine Iz ⟨_, ji (aE u.args) (km u.args 0) (by rw [ab]; omega)⟩ ?_
  simp only [ak,ah,ab,af,go_sem]
  refine Iz ⟨_, vu (a6 u.aJ) (Bo u.aJ 0) (by rw [af]; omega)⟩ ?_
  simp only [ak,ah,ab,af,go_sem]
  refine sq tt_ok [1,14,30000] ?_
  simp only [ak,ah,ab,af,go_sem]
  refine gF tt_ok [1,14,30000] (fun a : Nat × List Ty × Int => [(0, .ptr 0 0), (3, .ptr 4 0), (4, .ptr 5 0), (33, .ms 6 0 0 u.args.length), (34, num u.args.length), (35, num a.1)]) (fun a : Nat × List Ty × Int => [.box [str X.mp, .slice (X.a8.map a7), .slice (X.decls.map aB), num X.idx, .ms 3 v 0 vs.length, num (a.2.2), .sc (.func (.func 85) #[] #[]), .sc (.func (.func 86) #[] #[]), .bp (.func 83) [] [.ptr 1 0]], .box [.mp 2], .map (eT strVal 0 (bI (bK X.a8))) (bI (bK X.a8)).length, .rows v 1 (vs.map str), .box [num u.kind, str u.mod, str u.name, .ms 6 0 0 u.args.length, .ms 7 0 0 u.aJ.length], .box [num 0, str ⟨#[]⟩, str ⟨#[]⟩, .sc (.slice none 0 0), .sc (.slice none 0 0)], .rows 0 5 (aE a.2.1), .rows 0 7 (a6 u.aJ), .hole, .hole]) (fun a => u.args.length - a.1) (fun a => a.1 ≤ u.args.length ∧ a.2.1 = (u.args.take a.1).map (Ty.res (gR X vs)) ++ u.args.drop a.1 ∧ a.2.2 = (u.args.take a.1).foldl (fun a t => t.fold (gR X vs) (sR X vs) a) e1) ((0, u.args, e1)) 10 (cV (by omega) (by simp only [ak,ah,ab,af,Int.cast_ofNat_Int,go_sem] <;> rfl)) (⟨Nat.zero_le _, by simp, rfl⟩) ?_
  rintro ⟨i, al, ei⟩ ⟨hi, has, iQ⟩
  try dsimp only at hi has iQ
  try dsimp only
  intro Z3 wA
  simp only [ak,ah,ab,af,go_sem]
  refine aV (fun r7 => ?_) (fun r7 => ?_)
  ·have aZ : i < u.args.length := by simpa using r7
   rw [r7]
   obtain ⟨x, hx⟩ : ∃ x, u.args[i]? = some x := ⟨_, List.getElem?_eq_getElem aZ⟩
   obtain ⟨iG, c8⟩ := jB has hx
   have fI : ((i : Nat) : Int) < ((u.args.length : Nat) : Int) := by omega
   have hw := aU i (by omega)
   simp only [ak,ah,fI,bt,iG,ay,aj,hw,setRow,c8,ab,af,go_sem]
   refine de tt_ok bj [⟨.n, 0, [], [], []⟩, ⟨.r, 0, [], [0], [0]⟩, ⟨.n, 0, [], [], []⟩, ⟨.n, 0, [], [], []⟩, ⟨.r, 0, [], [], []⟩, ⟨.e, 0, [], [3,4], []⟩, ⟨.r, 0, [], [0,1,2,3,4,5], []⟩, ⟨.w, 0, [], [0,1,2,3,4,5,6], []⟩] 1 (by kernel_rfl) ?_
   simp only [ak,ah,fI,bt,iG,ay,aj,hw,setRow,c8,ab,af,go_sem]
   refine ry rfl rfl (ot (jM x (S8 x (List.mem_of_getElem? hx)) ei) ⟨rfl, rfl, rfl, rfl, by decide⟩) ?_
   rintro _ _ ⟨rfl, rfl⟩
   simp only [ak,ah,fI,bt,iG,ay,aj,hw,setRow,c8,ab,af,go_sem]
   refine wA _ ⟨(i + 1, al.set i (x.res (gR X vs)), x.fold (gR X vs) (sR X vs) ei), ?_, ?_, cV (by omega) (by (simp [rT, lk, dC, eL, au, az, aD, cg, List.map_set, ay, ay, aj]; exact fun a b c h => ko _ _ a b c h))⟩
   ·exact ⟨aZ, fG has hx, by rw [eB hx, ← iQ]⟩
   ·dsimp only; omega
  ·have gv : ¬ i < u.args.length := by simpa using r7
   have gB : i = u.args.length := by omega
   have kp : al = u.args.map (Ty.res (gR X vs)) := by rw [has, gB]; simp
   subst kp
   obtain ⟨ej, vB⟩ : ∃ y, y = ei := ⟨_, rfl⟩
   have vC : ej = u.args.foldl (fun a t => t.fold (gR X vs) (sR X vs) a) e1 := by rw [vB, iQ, gB, List.take_length]
   rw [← vB]
   clear vB iQ
   simp only [ak,ah,ab,af,go_sem]
   refine sq tt_ok [1,14,30000] ?_
   simp only [ak,ah,ab,af,go_sem]
   refine gF tt_ok [1,14,30000] (fun a : Nat × List Fd × Int => [(0, .ptr 0 0), (3, .ptr 4 0), (4, .ptr 5 0), (49, .ms 7 0 0 u.aJ.length), (50, num u.aJ.length), (51, num a.1)]) (fun a : Nat × List Fd × Int => [.box [str X.mp, .slice (X.a8.map a7), .slice (X.decls.map aB), num X.idx, .ms 3 v 0 vs.length, num (a.2.2), .sc (.func (.func 85) #[] #[]), .sc (.func (.func 86) #[] #[]), .bp (.func 83) [] [.ptr 1 0]], .box [.mp 2], .map (eT strVal 0 (bI (bK X.a8))) (bI (bK X.a8)).length, .rows v 1 (vs.map str), .box [num u.kind, str u.mod, str u.name, .ms 6 0 0 u.args.length, .ms 7 0 0 u.aJ.length], .box [num 0, str ⟨#[]⟩, str ⟨#[]⟩, .sc (.slice none 0 0), .sc (.slice none 0 0)], .rows 0 5 (aE (u.args.map (Ty.res (gR X vs)))), .rows 0 7 (a6 a.2.1), .hole, .hole]) (fun a => u.aJ.length - a.1) (fun a => a.1 ≤ u.aJ.length ∧ a.2.1 = (u.aJ.take a.1).map (Fd.res (gR X vs)) ++ u.aJ.drop a.1 ∧ a.2.2 = (u.aJ.take a.1).foldl (fun a f => f.ty.fold (gR X vs) (sR X vs) a) ej) ((0, u.aJ, ej)) 10 (cV (by omega) (by simp only [ak,ah,ab,af,Int.cast_ofNat_Int,go_sem] <;> rfl)) (⟨Nat.zero_le _, by simp, rfl⟩) ?_
   rintro ⟨i, al, ei⟩ ⟨hi, has, iQ⟩
   try dsimp only at hi has iQ
   try dsimp only
   intro Z4 yI
   simp only [ak,ah,ab,af,go_sem]
   refine aV (fun sg => ?_) (fun sg => ?_)
   ·have aZ : i < u.aJ.length := by simpa using sg
    rw [sg]
    obtain ⟨x, hx⟩ : ∃ x, u.aJ[i]? = some x := ⟨_, List.getElem?_eq_getElem aZ⟩
    obtain ⟨iG, c8⟩ := jB has hx
    have fI : ((i : Nat) : Int) < ((u.aJ.length : Nat) : Int) := by omega
    have hw := aU i (by omega)
    simp only [ak,ah,fI,bJ,iG,ay,aj,hw,setRow,c8,bE,ab,af,go_sem]
    refine de tt_ok bj [⟨.n, 0, [], [], []⟩, ⟨.r, 0, [], [0], [0]⟩, ⟨.n, 0, [], [], []⟩, ⟨.n, 0, [], [], []⟩, ⟨.n, 0, [], [], []⟩, ⟨.r, 0, [], [4], []⟩, ⟨.e, 0, [], [3,4,5], []⟩, ⟨.r, 0, [], [0,1,2,3,4,5,6], []⟩, ⟨.n, 0, [], [0,1,2,3,4,5,6,7], []⟩, ⟨.w, 0, [], [0,1,2,3,4,5,6,7,8], []⟩] 1 (by kernel_rfl) ?_
    simp only [ak,ah,fI,bJ,iG,ay,aj,hw,setRow,c8,bE,ab,af,go_sem]
    refine ry rfl rfl (ot (jM x.ty (hpf x (List.mem_of_getElem? hx)) ei) ⟨rfl, rfl, rfl, rfl, by decide⟩) ?_
    rintro _ _ ⟨rfl, rfl⟩
    simp only [ak,ah,fI,bJ,iG,ay,aj,hw,setRow,c8,bE,ab,af,go_sem]
    refine yI _ ⟨(i + 1, al.set i (x.res (gR X vs)), x.ty.fold (gR X vs) (sR X vs) ei), ?_, ?_, cV (by omega) (by (simp [rT, lk, dC, eL, au, az, aD, gX, List.map_set, bE, ay, aj, Fd.Be, Fd.Jo, Fd.EN]; exact fun a b c h => ko _ _ a b c h))⟩
    ·exact ⟨aZ, fG has hx, by rw [eB hx, ← iQ]⟩
    ·dsimp only; omega
   ·have Q4 : ¬ i < u.aJ.length := by simpa using sg
    have gB : i = u.aJ.length := by omega
    have kp : al = u.aJ.map (Fd.res (gR X vs)) := by rw [has, gB]; simp
    subst kp
    have Ds : ei = u.aJ.foldl (fun a f => f.ty.fold (gR X vs) (sR X vs) a) ej := by rw [iQ, gB, List.take_length]
    rw [vA, ← vC, ← Ds, JD] at hK
    simp only [ak,ah,ab,af,go_sem]
    refine j3 (k := 4) (vs' := [num u.kind, str u.mod, str u.name, .slice (aE (u.args.map (Ty.res (gR X vs)))), .slice (a6 (u.aJ.map (Fd.res (gR X vs))))]) rfl (by simp [dq, e8, cq, iN, cg, gX, Yf]) ?_
    refine Ly tt_ok [1,14,30000] ?_
    simp only [ak,ah,ab,af,go_sem]
    exact hK _ _ ⟨rfl, rfl⟩
theorem jk (X : Rv) (vs : List ByteArray) (v : Nat) (ic : X.decls.length ≤ 1048576) (gy : vs.length ≤ 1048576) : ∀ (N : Nat) (t : Ty), t.size ≤ N → N ≤ 1048576 → ∀ e, aF Tryz.prog 87 [.ptr 0 0, bg t] (L4 X vs v e) (bg (t.res (gR X vs))) (L4 X vs v (t.fold (gR X vs) (sR X vs) e)) := by
 intro N
 induction N with
 | zero => intro t h; have := t.size_pos; omega
 | succ N ih =>
  intro t hN hb e
  have AQ := t.ew
  obtain ⟨_, _, ⟨rfl, rfl⟩, h⟩ := Dq X vs v e ic gy t (by omega) (by omega) fun p hp => by
   obtain ⟨i, hi⟩ := List.mem_iff_getElem?.1 hp
   have e1 := bG Ty.size hi
   have e2 := t.cE
   exact ih p (by omega) (by omega)
  exact h
theorem bZ (mem : List aC) (ks : List (Nat × Nat)) (cs : List V) : bx mem ks (.cH cs) = aR mem ks := rfl
theorem JE (loc : List ByteArray) (n : ByteArray) : aT Tryz.prog 200 [dh loc, .slice [str n]] (.cH [str n, dh loc]) := by
 obtain ⟨_, rfl, h⟩ := vo loc [n] (by simp)
 exact h
theorem Q5 (loc : List ByteArray) (n t : ByteArray) : aT Tryz.prog 200 [dh loc, .slice [str n, str t]] (.cH [str t, .cH [str n, dh loc]]) := by
 obtain ⟨_, rfl, h⟩ := vo loc [n, t] (by simp)
 exact h
theorem UL {k : Int} {ls : List Lb} {n t : ByteArray} {nk : Nat} {loc : List ByteArray} {i : Nat} (h : (decide (k = 8) && decide ((i : Int) = (nk : Int) - 1)) = true) : lq k ls n t nk loc i = (ls.map Lb.name).reverse ++ loc := by
 simp only [Bool.and_eq_true,decide_eq_true_eq] at h
 unfold lq; rw [if_pos ⟨h.1, by omega⟩]
theorem Q6 {k : Int} {ls : List Lb} {n t : ByteArray} {nk : Nat} {loc : List ByteArray} {i : Nat} (h : (decide (k = 8) && decide ((i : Int) = (nk : Int) - 1)) = false) : lq k ls n t nk loc i =
  if k = 10 ∧ i = 1 then n :: loc else if k = 13 ∧ 0 < i then ((ls[i - 1]?).elim ⟨#[]⟩ Lb.var) :: loc else if k = 15 ∧ i = 2 then t :: n :: loc else loc := by
 have : ¬ (k = 8 ∧ i + 1 = nk) := fun ⟨h1, h2⟩ => by
  rw [decide_eq_true h1, decide_eq_true (by omega)] at h; cases h
 unfold lq; rw [if_neg this]
theorem JF {p q : Prop} [Decidable p] [Decidable q] (h : (decide p && decide q) = true) : p ∧ q := by simpa using h
theorem JG {p q : Prop} [Decidable p] [Decidable q] (h : (decide p && decide q) = false) : ¬ (p ∧ q) := by simpa using h
theorem aao (n : Nat) : ((n : Int) = 1) = (n = 1) := by rw [eq_iff_iff]; omega
theorem aap (n : Nat) : ((n : Int) = 2) = (n = 2) := by rw [eq_iff_iff]; omega
theorem aaq (n : Nat) : (0 < (n : Int)) = (0 < n) := by rw [eq_iff_iff]; omega
theorem Dt (ls : List Lb) (nl : Nat) (G6 : ls.length = nl) (hl : ls.length ≤ 1048576) : ∃ r_, (fun w => w = .slice ((ls.map Lb.name).map str)) r_ ∧ aF Tryz.prog 201 [.ms 0 0 0 nl] ([.rows 0 8 (ls.map aX)]) r_ ([.rows 0 8 (ls.map aX)]) := by
 refine wX tt_ok [2,7] 19 [.tmp 2] (fn := Tryz.f201) Tryz.func201 rfl Tryz.call201 ⟨rfl, rfl, by simp⟩ fun K hK => ?_
 subst G6
 simp only [List.length_map,jj,go_sem]
 refine ZS 3 0 1 (by decide) rfl ?_
 refine Ly tt_ok [2,7] ?_
 simp only [List.length_map,jj,go_sem]
 refine gF tt_ok [2,7] (fun a : Nat × Nat => [(3, .ms 1 a.2 0 (ls.take a.1).length), (6, .ms 0 0 0 ls.length), (7, num ls.length), (8, num a.1)]) (fun a : Nat × Nat => [.rows 0 8 (ls.map aX), .rows a.2 1 ((ls.take a.1).map fun x => str x.name)]) (fun a => ls.length - a.1) (fun a => a.1 ≤ ls.length) ((0, 0)) 2 (cV (by omega) (by simp only [List.length_map,jj,List.take_zero,List.map_nil,List.length_nil,Int.cast_ofNat_Int,go_sem] <;> rfl)) (Nat.zero_le _) ?_
 intro ⟨i, w⟩ hi
 try dsimp only at hi
 try dsimp only
 intro Z1 cJ
 simp only [List.length_map,jj,go_sem]
 refine aV (fun jh => ?_) (fun jh => ?_)
 ·have F7 : i < ls.length := by simpa using jh
  have jE := aU i (by omega)
  obtain ⟨x, hx⟩ : ∃ x, ls[i]? = some x := ⟨_, List.getElem?_eq_getElem F7⟩
  have vY : ls.take (i + 1) = ls.take i ++ [x] := by rw [List.take_add_one, hx]; rfl
  have oH : (ls.take i).length + 1 ≤ 34359738368 := by rw [List.length_take]; omega
  have fI : ((i : Nat) : Int) < ((ls.length : Nat) : Int) := by omega
  simp only [fI,jE,hx,List.getElem?_map,oH,aX,aj,List.cons_append,List.nil_append,List.length_map,jj,go_sem]
  refine cJ _ ⟨(i + 1, w + 1), ?_, ?_, cV (by omega) (by (simp only [List.length_map,jE,vY,aal,UH,go_sem]))⟩
  ·exact F7
  ·dsimp only; omega
 ·have QW : i = ls.length := by have h_ : ¬ i < ls.length := (by simpa using jh); omega
  rw [QW, List.take_length]
  simp only [List.length_map,jj,go_sem]
  refine ZR (v' := .slice ((ls.map Lb.name).map str)) 3 (by decide) rfl (by simp [lk, e8, cq, iN, List.take_of_length_le]) ?_
  refine Ly tt_ok [2,7] ?_
  simp only [List.length_map,jj,go_sem]
  exact hK _ _ ⟨rfl, rfl⟩
theorem Du (ls : List Lb) (nl : Nat) (G6 : ls.length = nl) (hl : ls.length ≤ 1048576) {M : List aC} {k : Nat} (hM : M[k]? = some (.rows 0 8 (ls.map aX))) : ∃ r_, (fun w => w = .slice ((ls.map Lb.name).map str)) r_ ∧ aF Tryz.prog 201 [.ms k 0 0 nl] M r_ M := by
 obtain ⟨_, rfl, h⟩ := Dt ls nl G6 hl
 have h2 := aF.keys (mem := [.rows 0 8 (ls.map aX)]) (B := .rows 0 8 (ls.map aX)) (j0 := 0) h M [k] rfl (by simp) (by simp) (by simp [au]) rfl rfl rfl (fun i B hi => by
  rcases i with _ | i
  ·cases hi; exact hM
  ·simp at hi)
 have e : M.set (j4 [k] M.length 0) (jJ (j4 [k] M.length) (.rows 0 8 (ls.map aX))) = M := mg hM
 rw [e] at h2
 exact ⟨_, rfl, h2⟩
theorem Dv (k : Int) (m n tx : ByteArray) (j : Int) (ts : List V) (ls : List Lb) (ks : List V) (loc : List ByteArray) (i nt nl nk : Nat) (G6 : ls.length = nl) (hl : nl ≤ 1048576) (hk : nk ≤ 1048576) (hi : i < nk) (y6 : k = 13 → nk ≤ nl + 1) : ∃ r_, (fun w => w = dh (lq k ls n tx nk loc i)) r_ ∧ aF Tryz.prog 145 [.agg [num k, str m, str n, str tx, num j, .ms 0 0 0 nt, .ms 1 0 0 nl, .ms 2 0 0 nk], dh loc, num i] ([.rows 0 5 ts, .rows 0 8 (ls.map aX), .rows 0 8 ks]) r_ ([.rows 0 5 ts, .rows 0 8 (ls.map aX), .rows 0 8 ks]) := by
 refine wX tt_ok [1,3,5,7] 71 [.tmp 6] (fn := Tryz.f145) Tryz.func145 rfl Tryz.call145 ⟨rfl, rfl, by simp⟩ fun K hK => ?_
 have eM : IntKind.i64.wrap ((nk : Int) - 1) = (nk : Int) - 1 := IntWalk.i64_in _ (by omega)
 have jE : IntKind.i64.wrap ((i : Int) - 1) = (i : Int) - 1 := IntWalk.i64_in _ (by omega)
 simp only [ah,List.length_map,eM,jE,↓aw,↓ax,aN,bZ,aR,cu,go_sem]
 refine fp tt_ok [1,3,5,7] [7] 4 [0,1,2,3,6] (fun vs => vs = [bl (decide (k = 8) && decide ((i : Int) = (nk : Int) - 1))]) (fun Z1 cJ => ?_) ?_
 ·simp only [ah,List.length_map,eM,jE,↓aw,↓ax,aN,bZ,aR,cu,go_sem]
  refine kA tt_ok ?_
  simp only [ah,List.length_map,eM,jE,↓aw,↓ax,aN,bZ,aR,cu,go_sem]
  refine aV (fun dM => ?_) (fun dM => ?_)
  ·simp only [ah,List.length_map,eM,jE,↓aw,↓ax,aN,bZ,aR,cu,go_sem]
   refine cJ _ (ct (by omega) (by simp only [ah,List.length_map,eM,jE,↓aw,↓ax,aN,bZ,aR,cu,go_sem]) ?_)
   simp only [dr,lk,reduceIte,zE]
   exact congrArg (fun b => [bl b]) (by clear hK cJ; simp_all)
  ·simp only [ah,List.length_map,eM,jE,↓aw,↓ax,aN,bZ,aR,cu,go_sem]
   refine cJ _ (ct (by omega) (by simp only [ah,List.length_map,eM,jE,↓aw,↓ax,aN,bZ,aR,cu,go_sem]) ?_)
   simp only [dr,lk,reduceIte,zE]
   exact congrArg (fun b => [bl b]) (by clear hK cJ; simp_all)
 ·intro vs hJ
  obtain rfl := hJ
  simp only [ah,List.length_map,eM,jE,↓aw,↓ax,aN,bZ,aR,cu,go_sem]
  refine aV (fun yr => ?_) (fun yr => ?_)
  ·have ba := UL (ls := ls) (n := n) (t := tx) (loc := loc) yr
   simp only [ah,List.length_map,eM,jE,↓aw,↓ax,aN,bZ,aR,cu,go_sem]
   refine cS (Du ls nl G6 (by omega) rfl) ?_
   rintro _ rfl
   simp only [ah,List.length_map,eM,jE,↓aw,↓ax,aN,bZ,aR,cu,go_sem]
   refine cF (vo loc (ls.map Lb.name) (by rw [List.length_map]; omega)) ?_
   rintro _ rfl
   simp only [ah,List.length_map,eM,jE,↓aw,↓ax,aN,bZ,aR,cu,go_sem]
   exact hK _ _ ⟨by rw [ba] <;> rfl, rfl⟩
  ·have h8 := Q6 (ls := ls) (n := n) (t := tx) (loc := loc) yr
   simp only [← aao,← aap,← aaq] at h8
   simp only [ah,List.length_map,eM,jE,↓aw,↓ax,aN,bZ,aR,cu,go_sem]
   refine fp tt_ok [1,3,5,7] [24] 4 [0,1,2,3,6,7,8,9,10,11,12,13,14,15,16,17,18,19,20,21,22,23] (fun vs => vs = [bl (decide (k = 10) && decide ((i : Int) = 1))]) (fun Z2 kT => ?_) ?_
   ·simp only [ah,List.length_map,eM,jE,↓aw,↓ax,aN,bZ,aR,cu,go_sem]
    refine kA tt_ok ?_
    simp only [ah,List.length_map,eM,jE,↓aw,↓ax,aN,bZ,aR,cu,go_sem]
    refine aV (fun vD => ?_) (fun vD => ?_)
    ·simp only [ah,List.length_map,eM,jE,↓aw,↓ax,aN,bZ,aR,cu,go_sem]
     refine kT _ (ct (by omega) (by simp only [ah,List.length_map,eM,jE,↓aw,↓ax,aN,bZ,aR,cu,go_sem]) ?_)
     simp only [dr,lk,reduceIte,zE]
     exact congrArg (fun b => [bl b]) (by clear hK kT; simp_all)
    ·simp only [ah,List.length_map,eM,jE,↓aw,↓ax,aN,bZ,aR,cu,go_sem]
     refine kT _ (ct (by omega) (by simp only [ah,List.length_map,eM,jE,↓aw,↓ax,aN,bZ,aR,cu,go_sem]) ?_)
     simp only [dr,lk,reduceIte,zE]
     exact congrArg (fun b => [bl b]) (by clear hK kT; simp_all)
   ·intro vs hJ
    obtain rfl := hJ
    simp only [ah,List.length_map,eM,jE,↓aw,↓ax,aN,bZ,aR,cu,go_sem]
    refine aV (fun Q7 => ?_) (fun Q7 => ?_)
    ·have ba := h8
     rw [if_pos (JF Q7)] at ba
     simp only [ah,List.length_map,eM,jE,↓aw,↓ax,aN,bZ,aR,cu,go_sem]
     refine cF (⟨_, rfl, JE loc n⟩) ?_
     rintro _ rfl
     simp only [ah,List.length_map,eM,jE,↓aw,↓ax,aN,bZ,aR,cu,go_sem]
     exact hK _ _ ⟨by rw [ba] <;> rfl, rfl⟩
    ·rw [if_neg (JG Q7)] at h8
     simp only [ah,List.length_map,eM,jE,↓aw,↓ax,aN,bZ,aR,cu,go_sem]
     refine fp tt_ok [1,3,5,7] [37] 4 [0,1,2,3,6,7,8,9,10,11,12,13,14,15,16,17,18,19,20,21,22,23,24,25,26,27,28,29,30,31,32,33,34,35,36] (fun vs => vs = [bl (decide (k = 13) && decide (0 < (i : Int)))]) (fun Z3 wA => ?_) ?_
     ·simp only [ah,List.length_map,eM,jE,↓aw,↓ax,aN,bZ,aR,cu,go_sem]
      refine kA tt_ok ?_
      simp only [ah,List.length_map,eM,jE,↓aw,↓ax,aN,bZ,aR,cu,go_sem]
      refine aV (fun Bt => ?_) (fun Bt => ?_)
      ·simp only [ah,List.length_map,eM,jE,↓aw,↓ax,aN,bZ,aR,cu,go_sem]
       refine wA _ (ct (by omega) (by simp only [ah,List.length_map,eM,jE,↓aw,↓ax,aN,bZ,aR,cu,go_sem]) ?_)
       simp only [dr,lk,reduceIte,zE]
       exact congrArg (fun b => [bl b]) (by clear hK wA; simp_all)
      ·simp only [ah,List.length_map,eM,jE,↓aw,↓ax,aN,bZ,aR,cu,go_sem]
       refine wA _ (ct (by omega) (by simp only [ah,List.length_map,eM,jE,↓aw,↓ax,aN,bZ,aR,cu,go_sem]) ?_)
       simp only [dr,lk,reduceIte,zE]
       exact congrArg (fun b => [bl b]) (by clear hK wA; simp_all)
     ·intro vs hJ
      obtain rfl := hJ
      simp only [ah,List.length_map,eM,jE,↓aw,↓ax,aN,bZ,aR,cu,go_sem]
      refine aV (fun C6 => ?_) (fun C6 => ?_)
      ·have h37 := JF C6
       have PH := y6 h37.1
       obtain ⟨y, hy⟩ : ∃ y, ls[i - 1]? = some y := ⟨_, List.getElem?_eq_getElem (by omega)⟩
       have ba := h8
       rw [if_pos h37, hy] at ba
       have YM : (i : Int) - 1 = ((i - 1 : Nat) : Int) := by omega
       have UM : ((i - 1 : Nat) : Int) < (nl : Int) := by omega
       have kg : IntKind.i64.wrap ((i - 1 : Nat) : Int) = ((i - 1 : Nat) : Int) := IntWalk.i64_in _ (by omega)
       simp only [ah,YM,UM,kg,hy,List.getElem?_map,aX,aj,List.cons_append,List.nil_append,List.length_map,eM,jE,↓aw,↓ax,aN,bZ,aR,cu,go_sem]
       refine cF (⟨_, rfl, JE loc y.var⟩) ?_
       rintro _ rfl
       simp only [ah,YM,UM,kg,hy,List.getElem?_map,aX,aj,List.cons_append,List.nil_append,List.length_map,eM,jE,↓aw,↓ax,aN,bZ,aR,cu,go_sem]
       exact hK _ _ ⟨by rw [ba] <;> rfl, rfl⟩
      ·rw [if_neg (JG C6)] at h8
       simp only [ah,List.length_map,eM,jE,↓aw,↓ax,aN,bZ,aR,cu,go_sem]
       refine fp tt_ok [1,3,5,7] [55] 4 [0,1,2,3,6,7,8,9,10,11,12,13,14,15,16,17,18,19,20,21,22,23,24,25,26,27,28,29,30,31,32,33,34,35,36,37,38,39,40,41,42,43,44,45,46,47,48,49,50,51,52,53,54] (fun vs => vs = [bl (decide (k = 15) && decide ((i : Int) = 2))]) (fun Z4 yI => ?_) ?_
       ·simp only [ah,List.length_map,eM,jE,↓aw,↓ax,aN,bZ,aR,cu,go_sem]
        refine kA tt_ok ?_
        simp only [ah,List.length_map,eM,jE,↓aw,↓ax,aN,bZ,aR,cu,go_sem]
        refine aV (fun UN => ?_) (fun UN => ?_)
        ·simp only [ah,List.length_map,eM,jE,↓aw,↓ax,aN,bZ,aR,cu,go_sem]
         refine yI _ (ct (by omega) (by simp only [ah,List.length_map,eM,jE,↓aw,↓ax,aN,bZ,aR,cu,go_sem]) ?_)
         simp only [dr,lk,reduceIte,zE]
         exact congrArg (fun b => [bl b]) (by clear hK yI; simp_all)
        ·simp only [ah,List.length_map,eM,jE,↓aw,↓ax,aN,bZ,aR,cu,go_sem]
         refine yI _ (ct (by omega) (by simp only [ah,List.length_map,eM,jE,↓aw,↓ax,aN,bZ,aR,cu,go_sem]) ?_)
         simp only [dr,lk,reduceIte,zE]
         exact congrArg (fun b => [bl b]) (by clear hK yI; simp_all)
       ·intro vs hJ
        obtain rfl := hJ
        simp only [ah,List.length_map,eM,jE,↓aw,↓ax,aN,bZ,aR,cu,go_sem]
        refine aV (fun Q8 => ?_) (fun Q8 => ?_)
        ·have ba := h8
         rw [if_pos (JF Q8)] at ba
         simp only [ah,List.length_map,eM,jE,↓aw,↓ax,aN,bZ,aR,cu,go_sem]
         refine cF (⟨_, rfl, Q5 loc n tx⟩) ?_
         rintro _ rfl
         simp only [ah,List.length_map,eM,jE,↓aw,↓ax,aN,bZ,aR,cu,go_sem]
         exact hK _ _ ⟨by rw [ba] <;> rfl, rfl⟩
        ·have ba := h8
         rw [if_neg (JG Q8)] at ba
         simp only [ah,List.length_map,eM,jE,↓aw,↓ax,aN,bZ,aR,cu,go_sem]
         exact hK _ _ ⟨by rw [ba] <;> rfl, rfl⟩
theorem vF (k : Int) (m n tx : ByteArray) (j : Int) (ts : List V) (ls : List Lb) (ks : List V) (loc : List ByteArray) (i nt nl nk : Nat) (G6 : ls.length = nl) (hl : nl ≤ 1048576) (hk : nk ≤ 1048576) (hi : i < nk) (y6 : k = 13 → nk ≤ nl + 1) {M : List aC} {B0 : aC} {k0 a b c : Nat}
  (h0 : M[k0]? = some B0) (hv : B0.b7 = 0) (ha : M[a]? = some (.rows 0 5 ts)) (hb : M[b]? = some (.rows 0 8 (ls.map aX))) (hc : M[c]? = some (.rows 0 8 ks)) (iK : [a, b, c].Nodup) :
  ∃ r_ B_, (fun r B => r = dh (lq k ls n tx nk loc i) ∧ B = B0) r_ B_ ∧ B_.b7 = 0 ∧ aF Tryz.prog 145 [.agg [num k, str m, str n, str tx, num j, .ms a 0 0 nt, .ms b 0 0 nl, .ms c 0 0 nk], dh loc, num i] M r_ (M.set k0 B_) := by
 obtain ⟨_, rfl, h⟩ := Dv k m n tx j ts ls ks loc i nt nl nk G6 hl hk hi y6
 have h2 := aF.keys (mem := [.rows 0 5 ts, .rows 0 8 (ls.map aX), .rows 0 8 ks]) (B := .rows 0 5 ts) (j0 := 0) h M [a, b, c] rfl iK (by simp) (by simp [au, aD, ah]) rfl rfl (ah _ _) (fun i B hi => by
  rcases i with _ | _ | _ | i
  ·cases hi; exact ha
  ·cases hi; exact hb
  ·cases hi; exact hc
  ·simp at hi)
 have e : M.set (j4 [a, b, c] M.length 0) (jJ (j4 [a, b, c] M.length) (.rows 0 5 ts)) = M := mg ha
 rw [e] at h2
 refine ⟨_, _, ⟨rfl, rfl⟩, hv, ?_⟩
 rw [mg h0]
 simpa [fN, c7, j4, gK] using h2
def tH (g : Ty → Option ByteArray) (k : Int) (l : Lb) : Lb := if k = 8 then l.res g else l
theorem Nf (g : Ty → Option ByteArray) (k : Int) (ls : List Lb) : lbG g k ls = ls.map (tH g k) := by
 unfold lbG
 split
 ·rename_i h; exact List.map_congr_left fun l _ => (if_pos h).symm
 ·rename_i h
  conv => lhs; rw [← List.map_id ls]
  exact List.map_congr_left fun l _ => (if_neg h).symm
theorem JH (g : Ty → Option ByteArray) (k : Int) (l : Lb) : (tH g k l).name = l.name := by unfold tH Lb.res; split <;> rfl
theorem Ng (g : Ty → Option ByteArray) (k : Int) (l : Lb) : (tH g k l).var = l.var := by unfold tH Lb.res; split <;> rfl
theorem EP (g : Ty → Option ByteArray) (k' k : Int) (ls : List Lb) (n t : ByteArray) (nk : Nat) (loc : List ByteArray) (i : Nat) : lq k (ls.map (tH g k')) n t nk loc i = lq k ls n t nk loc i := by
 unfold lq
 have h1 : (ls.map (tH g k')).map Lb.name = ls.map Lb.name := by rw [List.map_map]; exact List.map_congr_left fun l _ => JH g k' l
 have h2 : ((ls.map (tH g k'))[i - 1]?).elim ⟨#[]⟩ Lb.var = (ls[i - 1]?).elim ⟨#[]⟩ Lb.var := by
  rw [List.getElem?_map]
  cases ls[i - 1]? with
  | none => rfl
  | some l => exact Ng g k' l
 rw [h1, h2]
theorem JI {S α : Type} (k : Int) (f : S → α → S) (ls : List α) (a : S) : (if k = 8 then ls else []).foldl f a = ls.foldl (fun a l => if k = 8 then f a l else a) a := by
 by_cases h : k = 8
 ·have e : (fun (a : S) (l : α) => if k = 8 then f a l else a) = f := by funext a l; exact if_pos h
  rw [if_pos h, e]
 ·have e : (fun (a : S) (l : α) => if k = 8 then f a l else a) = fun a _ => a := by funext a l; exact if_neg h
  rw [if_neg h, e]
  induction ls with
  | nil => rfl
  | cons x r ih => exact ih
theorem Q9 {g : Ty → Option ByteArray} {h : y4} {loc : List ByteArray} {x : Ex} {uk : Int} {um : ByteArray} (hu : mv h loc x = (uk, um)) :
  x.res g h loc = .mk uk um x.name x.text x.num (x.types.map (Ty.res g)) (x.labels.map (tH g uk)) (cx g h (lq uk x.labels x.name x.text x.kids.length loc) 0 x.kids) := by
 rw [Ex.mu, Nf]; unfold Yd; rw [hu]
theorem OD {S : Type} {g : Ty → Option ByteArray} {h : y4} {s : S → Ty → S} {v : List ByteArray → S → Ex → S} {loc : List ByteArray} {x : Ex} {uk : Int} {um : ByteArray} (a : S) (hu : mv h loc x = (uk, um)) :
  x.fold g h s v loc a = cR g h s v (lq uk x.labels x.name x.text x.kids.length loc) 0 x.kids (x.labels.foldl (fun a l => if uk = 8 then l.ty.fold g s a else a) (x.types.foldl (fun a t => t.fold g s a) (if x.kind = 3 ∨ x.kind = 4 then v loc a x else a))) := by
 rw [Ex.fold_eq, JI]; unfold Yd; rw [hu]
theorem Bu {g : Ty → Option ByteArray} {h : y4} {lo : Nat → List ByteArray} {ks al : List Ex} {i : Nat} {x : Ex} (has : al = cx g h lo 0 (ks.take i) ++ ks.drop i) (hx : ks[i]? = some x) : al.set i (x.res g h (lo i)) = cx g h lo 0 (ks.take (i + 1)) ++ ks.drop (i + 1) := by
 have aZ := (List.getElem?_eq_some_iff.1 hx).1
 have hl : (cx g h lo 0 (ks.take i)).length = i := by rw [gI]; simp; omega
 rw [has, List.set_append_right _ _ (by omega), hl, Nat.sub_self, List.drop_eq_getElem_cons aZ, List.set_cons_zero, Bf hx]
 simp
theorem ER {g : Ty → Option ByteArray} {h : y4} {lo : Nat → List ByteArray} {ks al : List Ex} {i : Nat} {x : Ex} (has : al = cx g h lo 0 (ks.take i) ++ ks.drop i) (hx : ks[i]? = some x) : al[i]? = some x ∧ al.length = ks.length := by
 have aZ := (List.getElem?_eq_some_iff.1 hx).1
 have hl : (cx g h lo 0 (ks.take i)).length = i := by rw [gI]; simp; omega
 constructor
 ·rw [has, List.getElem?_append_right (by omega), hl, Nat.sub_self, List.getElem?_drop]; simpa using hx
 ·rw [has, List.length_append, hl]; simp; omega
theorem tke {l : List Ex} {n : Nat} (h : l.length = n) : (bL l).take n = bL l := List.take_of_length_le (by rw [ae]; omega)
theorem Ge (X : Rv) (vs : List ByteArray) (v : Nat) (e : Int) (ic : X.decls.length ≤ 1048576) (gy : vs.length ≤ 1048576) (loc : List ByteArray) (x : Ex) (uk : Int) (um : ByteArray) (hu : hR X loc x = (uk, um)) (e1 : Int) (he : e1 = vR X loc e x) {M : List aC} (hM : y5 M X vs v e 0 1 2 3) : ∃ r_ B_, (fun r B => r = .agg [num uk, str um, str x.name, str x.text, num x.num, .slice (aE x.types), .slice (x.labels.map aX), .slice (bL x.kids)] ∧ B = aC.box [str X.mp, .slice (X.a8.map a7), .slice (X.decls.map aB), num X.idx, .ms 3 v 0 vs.length, num (e1), .sc (.func (.func 85) #[] #[]), .sc (.func (.func 86) #[] #[]), .bp (.func 83) [] [.ptr 1 0]]) r_ B_ ∧ B_.b7 = 0 ∧ aF Tryz.prog 86 [.ptr 0 0, dh loc, .agg [num x.kind, str x.mod, str x.name, str x.text, num x.num, .slice (aE x.types), .slice (x.labels.map aX), .slice (bL x.kids)]] M r_ (M.set 0 B_) := by
 subst he
 have h := Jz X vs v e ic gy loc x hM
 rw [aI, aI, hu] at h
 exact h
theorem Gf {X : Rv} {vs : List ByteArray} {v : Nat} {x y : Ex} {loc : List ByteArray} {e1 e2 : Int} (h : aF Tryz.prog 88 [.ptr 0 0, dh loc, bT x] (L4 X vs v e1) (bT y) (L4 X vs v e2)) {M : List aC} (hM : y5 M X vs v e1 0 1 2 3) : ∃ r_ B_, (fun r B => r = .agg [num y.kind, str y.mod, str y.name, str y.text, num y.num, .slice (aE y.types), .slice (y.labels.map aX), .slice (bL y.kids)] ∧ B = aC.box [str X.mp, .slice (X.a8.map a7), .slice (X.decls.map aB), num X.idx, .ms 3 v 0 vs.length, num (e2), .sc (.func (.func 85) #[] #[]), .sc (.func (.func 86) #[] #[]), .bp (.func 83) [] [.ptr 1 0]]) r_ B_ ∧ B_.b7 = 0 ∧ aF Tryz.prog 88 [.ptr 0 0, dh loc, .agg [num x.kind, str x.mod, str x.name, str x.text, num x.num, .slice (aE x.types), .slice (x.labels.map aX), .slice (bL x.kids)]] M r_ (M.set 0 B_) := by
 have h2 := LF h (by simp [au, aD, aI, aq, ah]) (by simp [au, aD, aI, aq]) hM
 refine ⟨_, _, ⟨rfl, rfl⟩, rfl, ?_⟩
 simpa [fN, c7, j4, aI, aq, gK, EO] using h2
theorem Dw (X : Rv) (vs : List ByteArray) (v : Nat) (e : Int) (ic : X.decls.length ≤ 1048576) (gy : vs.length ≤ 1048576) (loc : List ByteArray) (x : Ex) (Sd : x.types.length ≤ 1048576) (hll : x.labels.length ≤ 1048576) (PH : x.kids.length ≤ 1048576) (y6 : (mv (hR X) loc x).1 = 13 → x.kids.length ≤ x.labels.length + 1)
  (hT : ∀ t ∈ x.types, ∀ e, aF Tryz.prog 87 [.ptr 0 0, bg t] (L4 X vs v e) (bg (t.res (gR X vs))) (L4 X vs v (t.fold (gR X vs) (sR X vs) e))) (hL : ∀ l ∈ x.labels, ∀ e, aF Tryz.prog 87 [.ptr 0 0, bg l.ty] (L4 X vs v e) (bg (l.ty.res (gR X vs))) (L4 X vs v (l.ty.fold (gR X vs) (sR X vs) e)))
  (jM : ∀ k ∈ x.kids, ∀ loc e, aF Tryz.prog 88 [.ptr 0 0, dh loc, bT k] (L4 X vs v e) (bT (k.res (gR X vs) (hR X) loc)) (L4 X vs v (k.fold (gR X vs) (hR X) (sR X vs) (vR X) loc e))) : ∃ r_ m_, (fun r m => r = bT (x.res (gR X vs) (hR X) loc) ∧ m = [.box [str X.mp, .slice (X.a8.map a7), .slice (X.decls.map aB), num X.idx, .ms 3 v 0 vs.length, num (x.fold (gR X vs) (hR X) (sR X vs) (vR X) loc e), .sc (.func (.func 85) #[] #[]), .sc (.func (.func 86) #[] #[]), .bp (.func 83) [] [.ptr 1 0]], .box [.mp 2], .map (eT strVal 0 (bI (bK X.a8))) (bI (bK X.a8)).length, .rows v 1 (vs.map str)]) r_ m_ ∧ aF Tryz.prog 88 [.ptr 0 0, dh loc, bT x] ([.box [str X.mp, .slice (X.a8.map a7), .slice (X.decls.map aB), num X.idx, .ms 3 v 0 vs.length, num (e), .sc (.func (.func 85) #[] #[]), .sc (.func (.func 86) #[] #[]), .bp (.func 83) [] [.ptr 1 0]], .box [.mp 2], .map (eT strVal 0 (bI (bK X.a8))) (bI (bK X.a8)).length, .rows v 1 (vs.map str)]) r_ m_ := by
 refine ED tt_ok [1,20,30000] 100 [.cell 6 45] (4) (by simp) (fn := Tryz.f88) Tryz.func88 rfl Tryz.call88 ⟨rfl, rfl, by simp⟩ fun K hK => ?_
 obtain ⟨uk, um, hu⟩ : ∃ uk um, mv (hR X) loc x = (uk, um) := ⟨_, _, rfl⟩
 obtain ⟨e1, Dr⟩ : ∃ y, y = (if x.kind = 3 ∨ x.kind = 4 then (vR X) loc e x else e) := ⟨_, rfl⟩
 rw [hu] at y6
 dsimp only at y6
 have JJ := Q9 (g := (gR X vs)) hu
 have vG := OD (g := (gR X vs)) (s := (sR X vs)) (v := (vR X)) e hu
 rw [← Dr] at vG
 simp only [aI,aq]
 simp only [ak,ah,ab,ae,List.length_map,↓aw,↓ax,go_sem]
 refine rV (n := 100) tt_ok [1,20,30000] (fun _ : Unit => [(0, .ptr 0 0), (1, dh loc), (5, .ptr 4 0), (6, .ptr 5 0)]) (fun _ : Unit => [.box [str X.mp, .slice (X.a8.map a7), .slice (X.decls.map aB), num X.idx, .ms 3 v 0 vs.length, num (e1), .sc (.func (.func 85) #[] #[]), .sc (.func (.func 86) #[] #[]), .bp (.func 83) [] [.ptr 1 0]], .box [.mp 2], .map (eT strVal 0 (bI (bK X.a8))) (bI (bK X.a8)).length, .rows v 1 (vs.map str), .box [num uk, str um, str x.name, str x.text, num x.num, .slice (aE x.types), .slice (x.labels.map aX), .slice (bL x.kids)], .box [num 0, str ⟨#[]⟩, str ⟨#[]⟩, str ⟨#[]⟩, num 0, .sc (.slice none 0 0), .sc (.slice none 0 0), .sc (.slice none 0 0)]]) 6 (fun _ => True) (fun Z1 cJ => ?_) ?_
 ·simp only [ak,ah,ab,ae,List.length_map,↓aw,↓ax,go_sem]
  refine fp tt_ok [1,20,30000] [19] 6 [0,1,2,5,6] (fun vs => vs = [bl (decide (x.kind = 3) || decide (x.kind = 4))]) (fun Z2 kT => ?_) ?_
  ·simp only [ak,ah,ab,ae,List.length_map,↓aw,↓ax,go_sem]
   refine kA tt_ok ?_
   simp only [ak,ah,ab,ae,List.length_map,↓aw,↓ax,go_sem]
   refine aV (fun dM => ?_) (fun dM => ?_)
   ·simp only [ak,ah,ab,ae,List.length_map,↓aw,↓ax,go_sem]
    refine kT _ (ct (by omega) (by simp only [ak,ah,ab,ae,List.length_map,↓aw,↓ax,go_sem]) ?_)
    simp only [dr,lk,reduceIte,zE]
    exact congrArg (fun b => [bl b]) (by rw [dM]; first | rfl | simp)
   ·simp only [ak,ah,ab,ae,List.length_map,↓aw,↓ax,go_sem]
    refine kT _ (ct (by omega) (by simp only [ak,ah,ab,ae,List.length_map,↓aw,↓ax,go_sem]) ?_)
    simp only [dr,lk,reduceIte,zE]
    exact congrArg (fun b => [bl b]) (by rw [dM]; first | rfl | simp)
  ·intro vs hJ
   obtain rfl := hJ
   simp only [ak,ah,ab,ae,List.length_map,↓aw,↓ax,go_sem]
   refine aV (fun pD => ?_) (fun pD => ?_)
   ·have hk : x.kind = 3 ∨ x.kind = 4 := by simpa using pD
    have wz : (hR X) loc x = (uk, um) := by rw [← hu]; unfold mv; rw [if_pos hk]
    have yH : e1 = (vR X) loc e x := by rw [Dr, if_pos hk]
    simp only [ak,ah,ab,ae,List.length_map,↓aw,↓ax,go_sem]
    refine de tt_ok bj [⟨.n, 0, [], [], []⟩, ⟨.n, 0, [], [0], []⟩, ⟨.n, 0, [], [0,1], []⟩, ⟨.r, 0, [], [0,1,2], []⟩, ⟨.n, 0, [], [], []⟩, ⟨.n, 0, [], [], []⟩, ⟨.r, 0, [], [], []⟩, ⟨.e, 0, [], [0,1,2,3,4,5,6], []⟩, ⟨.w, 0, [], [0,1,2,3,4,5,6,7], []⟩] 1 (by kernel_rfl) ?_
    simp only [ak,ah,ab,ae,List.length_map,↓aw,↓ax,go_sem]
    refine ry rfl rfl (Ge X vs v e ic gy loc x uk um wz e1 yH ⟨rfl, rfl, rfl, rfl, by decide⟩) ?_
    rintro _ _ ⟨rfl, rfl⟩
    simp only [ak,ah,ab,ae,List.length_map,↓aw,↓ax,go_sem]
    try rw [ff, iU, ← yH]
    refine cJ _ ⟨(), ?_, cV (by omega) (by simp only [ak,ah,ab,ae,List.length_map,↓aw,↓ax,go_sem])⟩
    exact trivial
   ·have hk : ¬ (x.kind = 3 ∨ x.kind = 4) := by simpa using pD
    have wz : (x.kind, x.mod) = (uk, um) := by rw [← hu]; unfold mv; rw [if_neg hk]
    have ff : x.kind = uk := (Prod.mk.inj wz).1
    have iU : x.mod = um := (Prod.mk.inj wz).2
    have yH : e1 = e := by rw [Dr, if_neg hk]
    simp only [ak,ah,ab,ae,List.length_map,↓aw,↓ax,go_sem]
    try rw [ff, iU, ← yH]
    refine cJ _ ⟨(), ?_, cV (by omega) (by simp only [ak,ah,ab,ae,List.length_map,↓aw,↓ax,go_sem])⟩
    exact trivial
 ·intro _ _
  simp only [ak,ah,ab,ae,List.length_map,↓aw,↓ax,go_sem]
  refine de tt_ok bj [⟨.n, 0, [], [], []⟩, ⟨.r, 0, [], [0], []⟩, ⟨.a, 0, [], [0,1], []⟩, ⟨.n, 0, [], [], []⟩, ⟨.r, 0, [0], [3], []⟩, ⟨.a, 1, [], [0,1,2,3,4], []⟩, ⟨.n, 0, [], [], []⟩, ⟨.r, 0, [0,1], [6], []⟩, ⟨.a, 2, [], [0,1,2,3,4,5,6,7], []⟩, ⟨.n, 0, [], [0,1,2,3,4,6,7], []⟩, ⟨.w, 3, [], [0,1,2,3,4,5,6,7,8,9], []⟩, ⟨.n, 0, [], [0,1,2,3,4,5,6,7,8,9,10], []⟩, ⟨.w, 4, [], [0,1,2,3,4,5,6,7,8,9,10,11], []⟩, ⟨.n, 0, [], [0,1,2,3,4,5,6,7,8,9,10,11,12], []⟩, ⟨.w, 5, [], [0,1,2,3,4,5,6,7,8,9,10,11,12,13], []⟩] 6 (by kernel_rfl) ?_
  simp only [ak,ah,ab,ae,List.length_map,↓aw,↓ax,go_sem]
  refine Iz ⟨_, ji (aE x.types) (km x.types 0) (by rw [ab]; omega)⟩ ?_
  simp only [ak,ah,ab,ae,List.length_map,↓aw,↓ax,go_sem]
  refine Iz ⟨_, vw (x.labels.map aX) (Bp x.labels 0) (by rw [List.length_map]; omega)⟩ ?_
  simp only [ak,ah,ab,ae,List.length_map,↓aw,↓ax,go_sem]
  refine Iz ⟨_, vz (bL x.kids) (Bq x.kids 0) (by rw [ae]; omega)⟩ ?_
  simp only [ak,ah,ab,ae,List.length_map,↓aw,↓ax,go_sem]
  refine sq tt_ok [1,20,30000] ?_
  simp only [ak,ah,ab,ae,List.length_map,↓aw,↓ax,go_sem]
  refine gF tt_ok [1,20,30000] (fun a : Nat × List Ty × Int => [(0, .ptr 0 0), (1, dh loc), (5, .ptr 4 0), (6, .ptr 5 0), (41, .ms 6 0 0 x.types.length), (42, num x.types.length), (43, num a.1)]) (fun a : Nat × List Ty × Int => [.box [str X.mp, .slice (X.a8.map a7), .slice (X.decls.map aB), num X.idx, .ms 3 v 0 vs.length, num (a.2.2), .sc (.func (.func 85) #[] #[]), .sc (.func (.func 86) #[] #[]), .bp (.func 83) [] [.ptr 1 0]], .box [.mp 2], .map (eT strVal 0 (bI (bK X.a8))) (bI (bK X.a8)).length, .rows v 1 (vs.map str), .box [num uk, str um, str x.name, str x.text, num x.num, .ms 6 0 0 x.types.length, .ms 7 0 0 x.labels.length, .ms 8 0 0 x.kids.length], .box [num 0, str ⟨#[]⟩, str ⟨#[]⟩, str ⟨#[]⟩, num 0, .sc (.slice none 0 0), .sc (.slice none 0 0), .sc (.slice none 0 0)], .rows 0 5 (aE a.2.1), .rows 0 8 ((x.labels).map aX), .rows 0 8 (bL x.kids), .hole, .hole, .hole]) (fun a => x.types.length - a.1) (fun a => a.1 ≤ x.types.length ∧ a.2.1 = (x.types.take a.1).map (Ty.res (gR X vs)) ++ x.types.drop a.1 ∧ a.2.2 = (x.types.take a.1).foldl (fun a t => t.fold (gR X vs) (sR X vs) a) e1) ((0, x.types, e1)) 12 (cV (by omega) (by simp only [ak,ah,ab,ae,List.length_map,↓aw,↓ax,Int.cast_ofNat_Int,go_sem] <;> rfl)) (⟨Nat.zero_le _, by simp [cx], by first | rfl | simp [cR]⟩) ?_
  rintro ⟨i, al, ei⟩ ⟨hi, has, iQ⟩
  try dsimp only at hi has iQ
  try dsimp only
  intro Z3 wA
  simp only [ak,ah,ab,ae,List.length_map,↓aw,↓ax,go_sem]
  refine aV (fun nR => ?_) (fun nR => ?_)
  ·have aZ : i < x.types.length := by simpa using nR
   rw [nR]
   obtain ⟨y, hy⟩ : ∃ y, x.types[i]? = some y := ⟨_, List.getElem?_eq_getElem aZ⟩
   obtain ⟨iG, c8⟩ := jB has hy
   have fI : ((i : Nat) : Int) < ((x.types.length : Nat) : Int) := by omega
   have hw := aU i (by omega)
   simp only [ak,ah,fI,bt,iG,ay,aj,hw,setRow,c8,ab,ae,List.length_map,↓aw,↓ax,go_sem]
   refine de tt_ok bj [⟨.n, 0, [], [], []⟩, ⟨.r, 0, [], [0], [0]⟩, ⟨.n, 0, [], [], []⟩, ⟨.n, 0, [], [], []⟩, ⟨.r, 0, [], [], []⟩, ⟨.e, 0, [], [3,4], []⟩, ⟨.r, 0, [], [0,1,2,3,4,5], []⟩, ⟨.w, 0, [], [0,1,2,3,4,5,6], []⟩] 1 (by kernel_rfl) ?_
   simp only [ak,ah,fI,bt,iG,ay,aj,hw,setRow,c8,ab,ae,List.length_map,↓aw,↓ax,go_sem]
   refine ry rfl rfl (ot (hT y (List.mem_of_getElem? hy) ei) ⟨rfl, rfl, rfl, rfl, by decide⟩) ?_
   rintro _ _ ⟨rfl, rfl⟩
   simp only [ak,ah,fI,bt,iG,ay,aj,hw,setRow,c8,ab,ae,List.length_map,↓aw,↓ax,go_sem]
   refine wA _ ⟨(i + 1, al.set i (y.res (gR X vs)), y.fold (gR X vs) (sR X vs) ei), ?_, ?_, cV (by omega) (by (simp [rT, lk, dC, eL, au, az, aD, ah, cg, List.map_set, ay, ay, aj]; exact fun a b c h => ko _ _ a b c h))⟩
   ·exact ⟨aZ, fG has hy, by rw [eB hy, ← iQ]⟩
   ·dsimp only; omega
  ·have gv : ¬ i < x.types.length := by simpa using nR
   have gB : i = x.types.length := by omega
   have kp : al = x.types.map (Ty.res (gR X vs)) := by rw [has, gB]; simp
   subst kp
   obtain ⟨ej, vB⟩ : ∃ y, y = ei := ⟨_, rfl⟩
   have vC : ej = x.types.foldl (fun a t => t.fold (gR X vs) (sR X vs) a) e1 := by rw [vB, iQ, gB, List.take_length]
   rw [← vB]
   clear vB iQ
   simp only [ak,ah,ab,ae,List.length_map,↓aw,↓ax,go_sem]
   refine sq tt_ok [1,20,30000] ?_
   simp only [ak,ah,ab,ae,List.length_map,↓aw,↓ax,go_sem]
   refine gF tt_ok [1,20,30000] (fun a : Nat × List Lb × Int => [(0, .ptr 0 0), (1, dh loc), (5, .ptr 4 0), (6, .ptr 5 0), (57, .ms 7 0 0 x.labels.length), (58, num x.labels.length), (59, num a.1)]) (fun a : Nat × List Lb × Int => [.box [str X.mp, .slice (X.a8.map a7), .slice (X.decls.map aB), num X.idx, .ms 3 v 0 vs.length, num (a.2.2), .sc (.func (.func 85) #[] #[]), .sc (.func (.func 86) #[] #[]), .bp (.func 83) [] [.ptr 1 0]], .box [.mp 2], .map (eT strVal 0 (bI (bK X.a8))) (bI (bK X.a8)).length, .rows v 1 (vs.map str), .box [num uk, str um, str x.name, str x.text, num x.num, .ms 6 0 0 x.types.length, .ms 7 0 0 x.labels.length, .ms 8 0 0 x.kids.length], .box [num 0, str ⟨#[]⟩, str ⟨#[]⟩, str ⟨#[]⟩, num 0, .sc (.slice none 0 0), .sc (.slice none 0 0), .sc (.slice none 0 0)], .rows 0 5 (aE (x.types.map (Ty.res (gR X vs)))), .rows 0 8 ((a.2.1).map aX), .rows 0 8 (bL x.kids), .hole, .hole, .hole]) (fun a => x.labels.length - a.1) (fun a => a.1 ≤ x.labels.length ∧ a.2.1 = (x.labels.take a.1).map (tH (gR X vs) uk) ++ x.labels.drop a.1 ∧ a.2.2 = (x.labels.take a.1).foldl (fun a l => if uk = 8 then l.ty.fold (gR X vs) (sR X vs) a else a) ej) ((0, x.labels, ej)) 12 (cV (by omega) (by simp only [ak,ah,ab,ae,List.length_map,↓aw,↓ax,Int.cast_ofNat_Int,go_sem] <;> rfl)) (⟨Nat.zero_le _, by simp [cx], by first | rfl | simp [cR]⟩) ?_
   rintro ⟨i, al, ei⟩ ⟨hi, has, iQ⟩
   try dsimp only at hi has iQ
   try dsimp only
   intro Z4 yI
   simp only [ak,ah,ab,ae,List.length_map,↓aw,↓ax,go_sem]
   refine aV (fun yJ => ?_) (fun yJ => ?_)
   ·have aZ : i < x.labels.length := by simpa using yJ
    rw [yJ]
    obtain ⟨y, hy⟩ : ∃ y, x.labels[i]? = some y := ⟨_, List.getElem?_eq_getElem aZ⟩
    obtain ⟨iG, c8⟩ := jB has hy
    have fI : ((i : Nat) : Int) < ((x.labels.length : Nat) : Int) := by omega
    have hw := aU i (by omega)
    rcases Decidable.em (uk = 8) with h8 | h8
    ·simp only [ak,ah,fI,List.getElem?_map,iG,hw,setRow,c8,aX,aj,List.cons_append,List.nil_append,ab,ae,List.length_map,↓aw,↓ax,go_sem]
     refine aV (fun pE => ?_) (fun pE => ?_)
     ·simp only [ak,ah,fI,List.getElem?_map,iG,hw,setRow,c8,aX,aj,List.cons_append,List.nil_append,ab,ae,List.length_map,↓aw,↓ax,go_sem]
      refine de tt_ok bj [⟨.n, 0, [], [], []⟩, ⟨.r, 0, [], [0], [0]⟩, ⟨.n, 0, [], [], []⟩, ⟨.n, 0, [], [], []⟩, ⟨.n, 0, [], [], []⟩, ⟨.r, 0, [], [4], []⟩, ⟨.n, 0, [], [], []⟩, ⟨.r, 0, [], [4,5,6], []⟩, ⟨.n, 0, [], [4,5,6,7], []⟩, ⟨.r, 0, [], [4,5,6,7,8], []⟩, ⟨.e, 0, [], [3,4,5,6,7,8,9], []⟩, ⟨.r, 0, [], [0,1,2,3,4,5,6,7,8,9,10], []⟩, ⟨.n, 0, [], [0,1,2,3,4,5,6,7,8,9,10,11], []⟩, ⟨.w, 0, [], [0,1,2,3,4,5,6,7,8,9,10,11,12], []⟩] 1 (by kernel_rfl) ?_
      simp only [ak,ah,fI,List.getElem?_map,iG,hw,setRow,c8,aX,aj,List.cons_append,List.nil_append,ab,ae,List.length_map,↓aw,↓ax,go_sem]
      refine ry rfl rfl (ot (hL y (List.mem_of_getElem? hy) ei) ⟨rfl, rfl, rfl, rfl, by decide⟩) ?_
      rintro _ _ ⟨rfl, rfl⟩
      simp only [ak,ah,fI,List.getElem?_map,iG,hw,setRow,c8,aX,aj,List.cons_append,List.nil_append,ab,ae,List.length_map,↓aw,↓ax,go_sem]
      refine yI _ ⟨(i + 1, al.set i (y.res (gR X vs)), y.ty.fold (gR X vs) (sR X vs) ei), ?_, ?_, cV (by omega) (by (simp [rT, lk, dC, eL, au, az, aD, ah, cg, List.map_set, aX, ay, aj, Lb.res]; exact fun a b c h => ko _ _ a b c h))⟩
      ·exact ⟨aZ, by have h_ := fG has hy; rwa [show tH (gR X vs) uk y = y.res (gR X vs) from if_pos h8] at h_, by rw [eB hy, ← iQ, if_pos h8]⟩
      ·dsimp only; omega
     ·(rw [decide_eq_true h8] at pE; cases pE)
    ·simp only [ak,ah,fI,List.getElem?_map,iG,hw,setRow,c8,aX,aj,List.cons_append,List.nil_append,ab,ae,List.length_map,↓aw,↓ax,go_sem]
     refine aV (fun pE => ?_) (fun pE => ?_)
     ·(rw [decide_eq_false h8] at pE; cases pE)
     ·simp only [ak,ah,fI,List.getElem?_map,iG,hw,setRow,c8,aX,aj,List.cons_append,List.nil_append,ab,ae,List.length_map,↓aw,↓ax,go_sem]
      refine yI _ ⟨(i + 1, al, ei), ?_, ?_, cV (by omega) (by (simp [rT, lk, dC, eL, au, az, aD, ah, cg, List.map_set, aX, ay, aj]; exact fun a b c h => ko _ _ a b c h))⟩
      ·exact ⟨aZ, by have h_ := fG has hy; rwa [show tH (gR X vs) uk y = y from if_neg h8, ki iG] at h_, by rw [eB hy, ← iQ, if_neg h8]⟩
      ·dsimp only; omega
   ·have Q4 : ¬ i < x.labels.length := by simpa using yJ
    have gB : i = x.labels.length := by omega
    have kp : al = x.labels.map (tH (gR X vs) uk) := by rw [has, gB]; simp
    subst kp
    obtain ⟨ek, Ra⟩ : ∃ y, y = ei := ⟨_, rfl⟩
    have Ds : ek = x.labels.foldl (fun a l => if uk = 8 then l.ty.fold (gR X vs) (sR X vs) a else a) ej := by rw [Ra, iQ, gB, List.take_length]
    rw [← Ra]
    clear Ra iQ
    simp only [ak,ah,ab,ae,List.length_map,↓aw,↓ax,go_sem]
    refine sq tt_ok [1,20,30000] ?_
    simp only [ak,ah,ab,ae,List.length_map,↓aw,↓ax,go_sem]
    refine gF tt_ok [1,20,30000] (fun a : Nat × List Ex × Int => [(0, .ptr 0 0), (1, dh loc), (5, .ptr 4 0), (6, .ptr 5 0), (80, .ms 8 0 0 x.kids.length), (81, num x.kids.length), (82, num a.1)]) (fun a : Nat × List Ex × Int => [.box [str X.mp, .slice (X.a8.map a7), .slice (X.decls.map aB), num X.idx, .ms 3 v 0 vs.length, num (a.2.2), .sc (.func (.func 85) #[] #[]), .sc (.func (.func 86) #[] #[]), .bp (.func 83) [] [.ptr 1 0]], .box [.mp 2], .map (eT strVal 0 (bI (bK X.a8))) (bI (bK X.a8)).length, .rows v 1 (vs.map str), .box [num uk, str um, str x.name, str x.text, num x.num, .ms 6 0 0 x.types.length, .ms 7 0 0 x.labels.length, .ms 8 0 0 x.kids.length], .box [num 0, str ⟨#[]⟩, str ⟨#[]⟩, str ⟨#[]⟩, num 0, .sc (.slice none 0 0), .sc (.slice none 0 0), .sc (.slice none 0 0)], .rows 0 5 (aE (x.types.map (Ty.res (gR X vs)))), .rows 0 8 ((x.labels.map (tH (gR X vs) uk)).map aX), .rows 0 8 (bL a.2.1), .hole, .hole, .hole]) (fun a => x.kids.length - a.1) (fun a => a.1 ≤ x.kids.length ∧ a.2.1 = cx (gR X vs) (hR X) (lq uk x.labels x.name x.text x.kids.length loc) 0 (x.kids.take a.1) ++ x.kids.drop a.1 ∧ a.2.2 = cR (gR X vs) (hR X) (sR X vs) (vR X) (lq uk x.labels x.name x.text x.kids.length loc) 0 (x.kids.take a.1) ek) ((0, x.kids, ek)) 12 (cV (by omega) (by simp only [ak,ah,ab,ae,List.length_map,↓aw,↓ax,Int.cast_ofNat_Int,go_sem] <;> rfl)) (⟨Nat.zero_le _, by simp [cx], by first | rfl | simp [cR]⟩) ?_
    rintro ⟨i, al, ei⟩ ⟨hi, has, iQ⟩
    try dsimp only at hi has iQ
    try dsimp only
    intro Z5 Gg
    simp only [ak,ah,ab,ae,List.length_map,↓aw,↓ax,go_sem]
    refine aV (fun yK => ?_) (fun yK => ?_)
    ·have aZ : i < x.kids.length := by simpa using yK
     rw [yK]
     obtain ⟨y, hy⟩ : ∃ y, x.kids[i]? = some y := ⟨_, List.getElem?_eq_getElem aZ⟩
     obtain ⟨iG, c8⟩ := ER has hy
     have fI : ((i : Nat) : Int) < ((x.kids.length : Nat) : Int) := by omega
     have hw := aU i (by omega)
     simp only [ak,ah,fI,cX,iG,aI,aq,hw,setRow,c8,ab,ae,List.length_map,↓aw,↓ax,go_sem]
     refine de tt_ok bj [⟨.n, 0, [], [], []⟩, ⟨.r, 0, [], [0], [0]⟩, ⟨.n, 0, [], [], []⟩, ⟨.n, 0, [], [], []⟩, ⟨.r, 0, [], [], []⟩, ⟨.n, 0, [], [], []⟩, ⟨.n, 0, [], [], []⟩, ⟨.e, 0, [], [4,5,6], []⟩, ⟨.r, 0, [], [], [0]⟩, ⟨.e, 0, [], [3,4,5,6,7,8], []⟩, ⟨.r, 0, [], [0,1,2,3,4,5,6,7,8,9], []⟩, ⟨.w, 0, [], [0,1,2,3,4,5,6,7,8,9,10], []⟩] 1 (by kernel_rfl) ?_
     simp only [ak,ah,fI,cX,iG,aI,aq,hw,setRow,c8,ab,ae,List.length_map,↓aw,↓ax,go_sem]
     refine ry rfl rfl (vF uk um x.name x.text x.num (aE (x.types.map (Ty.res (gR X vs)))) (x.labels.map (tH (gR X vs) uk)) (bL al) loc i x.types.length x.labels.length x.kids.length (by simp) hll PH aZ y6 (k0 := 0) (a := 6) (b := 7) (c := 8) rfl rfl rfl rfl rfl (by decide)) ?_
     rintro _ _ ⟨rfl, rfl⟩
     rw [EP]
     simp only [ak,ah,fI,cX,iG,aI,aq,hw,setRow,c8,ab,ae,List.length_map,↓aw,↓ax,go_sem]
     refine ry rfl rfl (Gf (jM y (List.mem_of_getElem? hy) ((lq uk x.labels x.name x.text x.kids.length loc) i) ei) ⟨rfl, rfl, rfl, rfl, by decide⟩) ?_
     rintro _ _ ⟨rfl, rfl⟩
     simp only [ak,ah,fI,cX,iG,aI,aq,hw,setRow,c8,ab,ae,List.length_map,↓aw,↓ax,go_sem]
     refine Gg _ ⟨(i + 1, al.set i (y.res (gR X vs) (hR X) ((lq uk x.labels x.name x.text x.kids.length loc) i)), y.fold (gR X vs) (hR X) (sR X vs) (vR X) ((lq uk x.labels x.name x.text x.kids.length loc) i) ei), ?_, ?_, cV (by omega) (by (simp [rT, lk, dC, eL, au, az, aD, ah, kl, List.map_set, aI, ay, aj, aq]; exact fun a b c h => ko _ _ a b c h))⟩
     ·exact ⟨aZ, Bu has hy, by rw [qW hy, ← iQ]⟩
     ·dsimp only; omega
    ·have aas : ¬ i < x.kids.length := by simpa using yK
     have gB : i = x.kids.length := by omega
     have kp : al = cx (gR X vs) (hR X) (lq uk x.labels x.name x.text x.kids.length loc) 0 x.kids := by rw [has, gB]; simp
     subst kp
     have Rb : ei = cR (gR X vs) (hR X) (sR X vs) (vR X) (lq uk x.labels x.name x.text x.kids.length loc) 0 x.kids ek := by rw [iQ, gB, List.take_length]
     rw [vG, ← vC, ← Ds, ← Rb, JJ] at hK
     simp only [ak,ah,ab,ae,List.length_map,↓aw,↓ax,go_sem]
     refine j3 (k := 4) (vs' := [num uk, str um, str x.name, str x.text, num x.num, .slice (aE (x.types.map (Ty.res (gR X vs)))), .slice ((x.labels.map (tH (gR X vs) uk)).map aX), .slice (bL (cx (gR X vs) (hR X) (lq uk x.labels x.name x.text x.kids.length loc) 0 x.kids))]) rfl (by simp [dq, e8, cq, iN, cg, Yf, List.take_of_length_le, tke, gI, ae]) ?_
     refine Ly tt_ok [1,20,30000] ?_
     simp only [ak,ah,ab,ae,List.length_map,↓aw,↓ax,go_sem]
     exact hK _ _ ⟨rfl, rfl⟩
end Go.Proofs.YtnboooapeopjoaaGreatDoor
end

section
namespace Go.Proofs.YtnboooapeopjoaaGreatDoor
open Go.Eng
variable [aA]
set_option maxHeartbeats 4000000
set_option maxRecDepth 100000
theorem Gh (t : Ty) : 1 ≤ t.wt := by rw [t.jT]; omega
theorem ou (t : Ex) : 1 ≤ t.wt := by rw [t.jT]; omega
theorem ES (x : Ex) : x.types.length + x.labels.length + x.kids.length ≤ x.wt := by
 have h1 := bm Ty.wt (fun t => Gh t) x.types
 have h2 := bm Lb.wt (fun l => by unfold Lb.wt; omega) x.labels
 have h3 := bm Ex.wt (fun t => ou t) x.kids
 rw [x.jT]; omega
theorem vH {x : Ex} {t : Ty} (h : t ∈ x.types) : t.wt < x.wt := by
 obtain ⟨i, hi⟩ := List.mem_iff_getElem?.1 h
 have := bG Ty.wt hi
 rw [x.jT]; omega
theorem yL {x : Ex} {l : Lb} (h : l ∈ x.labels) : l.ty.wt < x.wt := by
 have h1 := Lb.Jk h
 unfold Lb.wt at h1; omega
theorem Dx {x k : Ex} (h : k ∈ x.kids) : k.wt < x.wt := by
 obtain ⟨i, hi⟩ := List.mem_iff_getElem?.1 h
 have := bG Ex.wt hi
 rw [x.jT]; omega
theorem JK {h : y4} {loc : List ByteArray} {x : Ex} (hh : (x.kind = 3 ∨ x.kind = 4) → (h loc x).1 ≠ 13) (y6 : (mv h loc x).1 = 13) : x.kind = 13 := by
 unfold mv at y6
 split at y6
 ·rename_i hk; exact absurd y6 (hh hk)
 ·exact y6
theorem aat (X : Rv) (loc : List ByteArray) (x : Ex) (hk : x.kind = 3 ∨ x.kind = 4) : (hR X loc x).1 ≠ 13 := by
 unfold hR
 split
 ·split
  ·dsimp only; omega
  ·dsimp only; omega
 ·dsimp only; omega
def re (x : Ex) : Prop := ∀ y ∈ x.nodes, y.kind = 13 → y.kids.length ≤ y.labels.length + 1
theorem xi {x : Ex} (h : re x) : x.kind = 13 → x.kids.length ≤ x.labels.length + 1 := h x (by rw [x.fq]; exact List.mem_cons_self ..)
theorem Bv {x k : Ex} (h : re x) (hk : k ∈ x.kids) : re k := fun y hy => h y (by rw [x.fq]; exact List.mem_cons_of_mem _ (List.mem_flatMap.2 ⟨k, hk, hy⟩))
theorem Dy (X : Rv) (vs : List ByteArray) (v : Nat) (ic : X.decls.length ≤ 1048576) (gy : vs.length ≤ 1048576) : ∀ (N : Nat) (x : Ex), x.wt ≤ N → N ≤ 1048576 → re x → ∀ loc e, aF Tryz.prog 88 [.ptr 0 0, dh loc, bT x] (L4 X vs v e) (bT (x.res (gR X vs) (hR X) loc)) (L4 X vs v (x.fold (gR X vs) (hR X) (sR X vs) (vR X) loc e)) := by
 intro N
 induction N with
 | zero => intro x h; have := ou x; omega
 | succ N ih =>
  intro x hN hb dx loc e
  have hlen := ES x
  obtain ⟨_, _, ⟨rfl, rfl⟩, h⟩ := Dw X vs v e ic gy loc x (by omega) (by omega) (by omega) (fun h => xi dx (JK (aat X loc x) h))
   (fun t ht e => jk X vs v ic gy t.size t (Nat.le_refl _) (by have := t.ca; have := vH ht; omega) e) (fun l hl e => jk X vs v ic gy l.ty.size l.ty (Nat.le_refl _) (by have := l.ty.ca; have := yL hl; omega) e)
   (fun k hk loc e => ih k (by have := Dx hk; omega) (by omega) (Bv dx hk) loc e)
  exact h
end Go.Proofs.YtnboooapeopjoaaGreatDoor
end

section
namespace Go.Proofs.YtnboooapeopjoaaGreatDoor
open Go.Eng
variable [aA]
def qT (t : Ty) : Bool := !decide (t.kind = 9) && !fM t.mod
def qX (x : Ex) : Bool := decide (x.kind = 3) || (!fM x.mod && (!decide (x.mod = ⟨#[]⟩) || decide (0 < x.types.length)))
def gQ (_ : List ByteArray) (t : Ty) : Option ByteArray := some t.mod
def sQ (_ : List ByteArray) (ok : Bool) (t : Ty) : Bool := ok && qT t
def hQ (_ : List ByteArray) (x : Ex) : Int × ByteArray := (x.kind, x.mod)
def vQ (_ : List ByteArray) (ok : Bool) (x : Ex) : Bool := ok && qX x
theorem rf {α : Type} {f : α → α} {l : List α} (h : ∀ x ∈ l, f x = x) : l.map f = l := by
 conv => rhs; rw [← List.map_id l]
 exact List.map_congr_left fun x hx => h x hx
theorem yM (vs : List ByteArray) : ∀ t : Ty, t.res (gQ vs) = t := by
 refine Ty.induct fun t ih => ?_
 rw [t.mu]
 have e : F5 (gQ vs) t = some t.mod := by unfold F5 gQ; split <;> rfl
 rw [e]
 dsimp only
 rw [rf fun u hu => ih u (Ty.Br hu), rf fun f hf => by rw [f.mu, ih f.ty (Ty.Bs hf), f.eta], t.eta]
theorem Ex.eta (x : Ex) : Ex.mk x.kind x.mod x.name x.text x.num x.types x.labels x.kids = x := by obtain ⟨k, m, n, t, i, ts, ls, ks⟩ := x; rfl
theorem Bw (vs : List ByteArray) (lo : Nat → List ByteArray) : ∀ (ks : List Ex) (i : Nat), (∀ k ∈ ks, ∀ loc, k.res (gQ vs) hQ loc = k) → cx (gQ vs) hQ lo i ks = ks
 | [], _, _ => by rw [cx]
 | k :: r, i, h => by
  rw [cx, h k (List.mem_cons_self ..), Bw vs lo r (i + 1) fun k hk => h k (List.mem_cons_of_mem _ hk)]
theorem Rc (vs : List ByteArray) : ∀ (N : Nat) (x : Ex), x.wt ≤ N → ∀ loc, x.res (gQ vs) hQ loc = x := by
 intro N
 induction N with
 | zero => intro x h; have := ou x; omega
 | succ N ih =>
  intro x hN loc
  have e : mv hQ loc x = (x.kind, x.mod) := by unfold mv hQ; split <;> rfl
  rw [Q9 e, rf fun t _ => yM vs t, rf (l := x.labels) fun l _ => ?_, Bw vs _ _ _ fun k hk loc => ih k (by have := Dx hk; omega) loc, x.eta]
  unfold tH
  split
  ·show { l with ty := l.ty.res (gQ vs) } = l
   rw [yM]
  ·rfl
theorem Bx : ∀ (l : List Pm) (vs : List ByteArray), dv gQ vs l = l
 | [], _ => rfl
 | p :: r, vs => by rw [dv, yM, Bx r]
theorem aau (loc : List ByteArray) (x : Ex) (hk : x.kind = 3 ∨ x.kind = 4) : (hQ loc x).1 ≠ 13 := by
 unfold hQ; dsimp only; omega
noncomputable def Su (d : Dc) (ok : Bool) : Bool :=
 d.expr.fold (gQ (dp d)) hQ (sQ (dp d)) vQ [] (d.type.fold (gQ (dp d)) (sQ (dp d)) (d.upper.fold (gQ (dp d)) (sQ (dp d)) (d.lower.fold (gQ (dp d)) (sQ (dp d)) (dU gQ sQ [] d.params ok))))
noncomputable def nS (d : Dc) : Bool := !fM d.mod && Su d true
def xj (p : Dc → Bool) : List Dc → Int
 | [] => -1
 | d :: r => if p d = true then 0 else if xj p r < 0 then -1 else xj p r + 1
def Xm (m : Md) (i : Nat) : Rv := ⟨m.path, m.imports, m.decls, i⟩
noncomputable def cY (m : Md) : Nat → List Dc → Option (Nat × Int)
 | _, [] => none
 | i, d :: r => if jZ (Xm m i) d = 0 then cY m (i + 1) r else some (i, jZ (Xm m i) d)
noncomputable def eC (m : Md) : Nat → List Dc → List Dc
 | _, [] => []
 | i, d :: r => cy (Xm m i) d :: eC m (i + 1) r
def dY : Md := ⟨⟨#[]⟩, [], []⟩
noncomputable def mP (m : Md) : Md × Int × Int :=
 if (oG m).2 ≠ 0 then (dY, (oG m).1, (oG m).2)
 else if 0 ≤ xj (fun d => !nS d) m.decls then (dY, xj (fun d => !nS d) m.decls, 1)
 else match cY m 0 m.decls with
  | some p => (dY, ((p.1 : Nat) : Int), p.2)
  | none => (⟨m.path, m.imports, eC m 0 m.decls⟩, 0, 0)
theorem JL {p : Dc → Bool} : ∀ {l : List Dc} {i : Nat} {x : Dc}, l[i]? = some x → p x = true → (∀ j < i, ∀ y, l[j]? = some y → p y = false) → (i : Int) = xj p l
 | [], _, _, h, _, _ => by simp at h
 | d :: r, 0, x, h, hn, _ => by
  simp only [List.getElem?_cons_zero,Option.some.injEq] at h
  subst h
  unfold xj; rw [if_pos hn]; rfl
 | d :: r, i + 1, x, h, hn, cK => by
  have h1 := cK 0 (by omega) d rfl
  have h2 := JL (l := r) (i := i) (x := x) (by simpa using h) hn fun j hj y hy => cK (j + 1) (by omega) y (by simpa using hy)
  unfold xj; rw [if_neg (by rw [h1]; simp), ← h2, if_neg (by omega)]; rfl
theorem By {p : Dc → Bool} : ∀ {l : List Dc}, (∀ j < l.length, ∀ y, l[j]? = some y → p y = false) → (-1 : Int) = xj p l
 | [], _ => rfl
 | d :: r, cK => by
  have h1 := cK 0 (by simp) d rfl
  have h2 := By (l := r) fun j hj y hy => cK (j + 1) (by simpa using hj) y (by simpa using hy)
  unfold xj; rw [if_neg (by rw [h1]; simp), ← h2, if_pos (by decide)]
theorem mw (m : Md) : ∀ (l l' : List Dc) (i : Nat), cY m i l = none → cY m i (l ++ l') = cY m (i + l.length) l'
 | [], l', i, _ => by simp
 | d :: r, l', i, h => by
  unfold cY at h
  split at h
  ·rename_i h0
   rw [List.cons_append, cY, if_pos h0, mw m r l' (i + 1) h, List.length_cons, show i + 1 + r.length = i + (r.length + 1) by omega]
  ·cases h
theorem oW {m : Md} {i : Nat} {d : Dc} (hd : m.decls[i]? = some d) (h : cY m 0 (m.decls.take i) = none) : (jZ (Xm m i) d = 0 → cY m 0 (m.decls.take (i + 1)) = none) ∧ (jZ (Xm m i) d ≠ 0 → cY m 0 m.decls = some (i, jZ (Xm m i) d)) := by
 have aZ := (List.getElem?_eq_some_iff.1 hd).1
 have hl : (m.decls.take i).length = i := by rw [List.length_take]; omega
 constructor
 ·intro he
  rw [List.take_add_one, hd, Option.toList_some, mw m _ _ _ h, hl, Nat.zero_add, cY, if_pos he]; rfl
 ·intro he
  have e : m.decls = m.decls.take i ++ (d :: m.decls.drop (i + 1)) := by
   conv => lhs; rw [← List.take_append_drop i m.decls, List.drop_eq_getElem_cons aZ, (List.getElem?_eq_some_iff.1 hd).2]
  rw [e, mw m _ _ _ h, hl, Nat.zero_add, cY, if_neg he]
theorem vI (m : Md) : ∀ (l l' : List Dc) (i : Nat), eC m i (l ++ l') = eC m i l ++ eC m (i + l.length) l'
 | [], l', i => by simp [eC]
 | d :: r, l', i => by
  rw [List.cons_append, eC, vI m r l' (i + 1), eC, List.length_cons, show i + 1 + r.length = i + (r.length + 1) by omega]; rfl
theorem Bz {m : Md} {i : Nat} {d : Dc} (hd : m.decls[i]? = some d) : eC m 0 (m.decls.take (i + 1)) = eC m 0 (m.decls.take i) ++ [cy (Xm m i) d] := by
 have aZ := (List.getElem?_eq_some_iff.1 hd).1
 have hl : (m.decls.take i).length = i := by rw [List.length_take]; omega
 rw [List.take_add_one, hd, Option.toList_some, vI, hl, Nat.zero_add]; rfl
theorem lj (m : Md) : ∀ (l : List Dc) (i : Nat), (eC m i l).length = l.length
 | [], i => by rw [eC]
 | d :: r, i => by rw [eC, List.length_cons, lj m r, List.length_cons]
theorem Gi {m : Md} (h : (oG m).2 ≠ 0) : mP m = (dY, (oG m).1, (oG m).2) := by unfold mP; rw [if_pos h]
theorem JM {m : Md} (h : ¬ (oG m).2 ≠ 0) (h2 : 0 ≤ xj (fun d => !nS d) m.decls) : mP m = (dY, xj (fun d => !nS d) m.decls, 1) := by unfold mP; rw [if_neg h, if_pos h2]
theorem BA {m : Md} (h : ¬ (oG m).2 ≠ 0) (h2 : ¬ 0 ≤ xj (fun d => !nS d) m.decls) {p : Nat × Int} (h3 : cY m 0 m.decls = some p) : mP m = (dY, ((p.1 : Nat) : Int), p.2) := by unfold mP; rw [if_neg h, if_neg h2, h3]
theorem xk {m : Md} (h : ¬ (oG m).2 ≠ 0) (h2 : ¬ 0 ≤ xj (fun d => !nS d) m.decls) (h3 : cY m 0 m.decls = none) : mP m = (⟨m.path, m.imports, eC m 0 m.decls⟩, 0, 0) := by unfold mP; rw [if_neg h, if_neg h2, h3]
def zz (s : ByteArray) : ByteArray := ⟨#[122]⟩ ++ s
def zM (k k0 : Int) (m : ByteArray) : ByteArray := if k = k0 ∧ m ≠ ⟨#[]⟩ then zz m else m
def gZ (t : Ty) : Option ByteArray := some (zM t.kind 10 t.mod)
def Ty.qC (t : Ty) : Ty := t.res gZ
structure Twin (X Y : Rv) : Prop where
 mp : Y.mp = X.mp
 idx : Y.idx = X.idx
 ids : ∀ s, oq Y.decls s = oq X.decls s
 al : ∀ s, Bh (zz s) (bK Y.a8) = Bh s (bK X.a8)
mutual
def Ex.qC : Ex → Ex
 | .mk k m n t i ts ls ks => .mk k (zM k 4 m) n t i (ts.map Ty.qC) (ls.map (Lb.res gZ)) (JN ks)
def JN : List Ex → List Ex
 | [] => []
 | x :: r => x.qC :: JN r
end
def Pm.qC (p : Pm) : Pm := { p with bound := p.bound.qC }
def Dc.qC (d : Dc) : Dc := { d with params := d.params.map Pm.qC, lower := d.lower.qC, upper := d.upper.qC, type := d.type.qC, expr := d.expr.qC, mod := zM d.kind 2 d.mod }
end Go.Proofs.YtnboooapeopjoaaGreatDoor
end
