/-
  WHAT A TREE'S NODES NAME, gathered in order: the plain law.
  CONTRACTS: Insert, Free of the reference.
  CONTRACTS: Free of the reference.
  CONTRACTS: InsertUse, Mentions of the reference.
  CONTRACTS: slices.Index, Contains, Clone.
  CONTRACTS: Substitute.
  CONTRACTS: Substitute of the reference.
-/
import Derived.Test.YtpjdfcigadnhcaaGreatDoorF4
import Derived.Sort.Walk0
set_option linter.all false
section
namespace Go.Proofs.YtpjdfcigadnhcaaGreatDoor
open Go.Eng
variable [Glob]
structure Lin {α : Type} (lt : α → α → Bool) : Prop where
 irrefl : ∀ x, lt x x = false
 trans : ∀ x y z, lt x y = true → lt y z = true → lt x z = true
 tri : ∀ x y, lt x y = false → lt y x = false → x = y
section
variable {α : Type} [DecidableEq α] {lt : α → α → Bool}
theorem Lin.asymm (h : Lin lt) {x y : α} (hx : lt x y = true) : lt y x = false := by
 cases hy : lt y x with
 | false => rfl
 | true => have := h.trans x y x hx hy; rw [h.irrefl] at this; cases this
def insL (lt : α → α → Bool) : List α → α → List α
 | [], s => [s]
 | a :: r, s => if lt a s = true then a :: insL lt r s else if a = s then a :: r else s :: a :: r
def Asc (lt : α → α → Bool) (l : List α) : Prop := l.Pairwise fun a b => lt a b = true
theorem insL_mem {s : α} : ∀ {l : List α} {x : α}, x ∈ insL lt l s ↔ x = s ∨ x ∈ l
 | [], x => by simp [insL]
 | a :: r, x => by
  unfold insL
  split
  ·rw [List.mem_cons, insL_mem, List.mem_cons]
   constructor
   ·rintro (h | h | h)
    ·exact .inr (.inl h)
    ·exact .inl h
    ·exact .inr (.inr h)
   ·rintro (h | h | h)
    ·exact .inr (.inl h)
    ·exact .inl h
    ·exact .inr (.inr h)
  ·split
   ·rename_i h; subst h
    constructor
    ·exact .inr
    ·rintro (rfl | h)
     ·exact List.mem_cons_self ..
     ·exact h
   ·simp
theorem insL_asc (h : Lin lt) {s : α} : ∀ {l : List α}, Asc lt l → Asc lt (insL lt l s)
 | [], _ => by simp [insL, Asc]
 | a :: r, hl => by
  have h1 := List.pairwise_cons.1 hl
  unfold insL
  split
  ·rename_i ha
   refine List.pairwise_cons.2 ⟨fun b hb => ?_, insL_asc h h1.2⟩
   rcases insL_mem.1 hb with rfl | hb
   ·exact ha
   ·exact h1.1 b hb
  ·rename_i ha
   split
   ·exact hl
   ·rename_i he
    have hs : lt s a = true := by
     cases hsa : lt s a with
     | true => rfl
     | false => exact absurd (h.tri a s (by simpa using ha) hsa) he
    refine List.pairwise_cons.2 ⟨fun b hb => ?_, hl⟩
    rcases List.mem_cons.1 hb with rfl | hb
    ·exact hs
    ·exact h.trans _ _ _ hs (h1.1 b hb)
theorem Asc.ext (h : Lin lt) : ∀ {l m : List α}, Asc lt l → Asc lt m → (∀ x, x ∈ l ↔ x ∈ m) → l = m
 | [], [], _, _, _ => rfl
 | [], b :: r, _, _, he => by have := (he b).2 (List.mem_cons_self ..); simp at this
 | a :: r, [], _, _, he => by have := (he a).1 (List.mem_cons_self ..); simp at this
 | a :: r, b :: t, hl, hm, he => by
  have h1 := List.pairwise_cons.1 hl
  have h2 := List.pairwise_cons.1 hm
  have hab : a = b := by
   rcases List.mem_cons.1 ((he a).1 (List.mem_cons_self ..)) with e | ha
   ·exact e
   ·rcases List.mem_cons.1 ((he b).2 (List.mem_cons_self ..)) with e | hb
    ·exact e.symm
    ·have q1 := h2.1 a ha
     have q2 := h.asymm (h1.1 b hb)
     rw [q1] at q2; cases q2
  subst hab
  rw [Asc.ext h h1.2 h2.2 fun x => ?_]
  constructor
  ·intro hx
   rcases List.mem_cons.1 ((he x).1 (List.mem_cons_of_mem _ hx)) with rfl | hx'
   ·have := h1.1 x hx; rw [h.irrefl] at this; cases this
   ·exact hx'
  ·intro hx
   rcases List.mem_cons.1 ((he x).2 (List.mem_cons_of_mem _ hx)) with rfl | hx'
   ·have := h2.1 x hx; rw [h.irrefl] at this; cases this
   ·exact hx'
def insAll (lt : α → α → Bool) (l m : List α) : List α := m.foldl (insL lt) l
theorem insAll_mem : ∀ {m l : List α} {x : α}, x ∈ insAll lt l m ↔ x ∈ l ∨ x ∈ m
 | [], l, x => by simp [insAll]
 | s :: m, l, x => by
  show x ∈ insAll lt (insL lt l s) m ↔ _
  rw [insAll_mem, insL_mem, List.mem_cons]
  constructor
  ·rintro ((h | h) | h)
   ·exact .inr (.inl h)
   ·exact .inl h
   ·exact .inr (.inr h)
  ·rintro (h | h | h)
   ·exact .inl (.inr h)
   ·exact .inl (.inl h)
   ·exact .inr h
theorem insAll_asc (h : Lin lt) : ∀ {m l : List α}, Asc lt l → Asc lt (insAll lt l m)
 | [], _, hl => hl
 | s :: m, l, hl => insAll_asc (m := m) (l := insL lt l s) h (insL_asc h hl)
mutual
def gathT (lt : α → α → Bool) (f : Ty → List α) : Ty → List α
 | .mk k m n ts fs => gathF lt f (gathL lt f (f (.mk k m n ts fs)) ts) fs
def gathL (lt : α → α → Bool) (f : Ty → List α) (out : List α) : List Ty → List α
 | [] => out
 | t :: r => gathL lt f (insAll lt out (gathT lt f t)) r
def gathF (lt : α → α → Bool) (f : Ty → List α) (out : List α) : List Fd → List α
 | [] => out
 | .mk _ t _ :: r => gathF lt f (insAll lt out (gathT lt f t)) r
end
theorem gathL_fold (f : Ty → List α) : ∀ (ts : List Ty) (out : List α), gathL lt f out ts = ts.foldl (fun o p => insAll lt o (gathT lt f p)) out
 | [], out => by simp [gathL]
 | t :: r, out => by simp [gathL, gathL_fold f r]
theorem gathF_fold (f : Ty → List α) : ∀ (fs : List Fd) (out : List α), gathF lt f out fs = (fs.map Fd.ty).foldl (fun o p => insAll lt o (gathT lt f p)) out
 | [], out => by simp [gathF]
 | .mk n t o :: r, out => by simp [gathF, gathF_fold f r, Fd.ty]
theorem gathT_eq (f : Ty → List α) (t : Ty) : gathT lt f t = t.parts.foldl (fun o p => insAll lt o (gathT lt f p)) (f t) := by
 obtain ⟨k, m, n, ts, fs⟩ := t
 rw [gathT, gathF_fold, gathL_fold]
 simp only [Ty.parts,Ty.args,Ty.flds,List.foldl_append]
theorem foldl_gath_mem {f : Ty → List α} : ∀ {ps : List Ty} {out : List α} {x : α}, x ∈ ps.foldl (fun o p => insAll lt o (gathT lt f p)) out ↔ x ∈ out ∨ ∃ p ∈ ps, x ∈ gathT lt f p
 | [], out, x => by simp
 | p :: r, out, x => by
  rw [List.foldl_cons, foldl_gath_mem, insAll_mem]
  simp only [List.mem_cons,exists_eq_or_imp,or_assoc]
theorem foldl_gath_asc (h : Lin lt) {f : Ty → List α} : ∀ {ps : List Ty} {out : List α}, Asc lt out → Asc lt (ps.foldl (fun o p => insAll lt o (gathT lt f p)) out)
 | [], _, ho => ho
 | p :: r, out, ho => foldl_gath_asc (ps := r) (out := insAll lt out (gathT lt f p)) h (insAll_asc h ho)
theorem gathT_mem {f : Ty → List α} {x : α} : ∀ t : Ty, x ∈ gathT lt f t ↔ ∃ u ∈ t.nodes, x ∈ f u := by
 refine Ty.induct fun t ih => ?_
 rw [gathT_eq, foldl_gath_mem, t.nodes_eq]
 constructor
 ·rintro (h | ⟨p, hp, h⟩)
  ·exact ⟨t, List.mem_cons_self .., h⟩
  ·obtain ⟨u, hu, hx⟩ := (ih p hp).1 h
   exact ⟨u, List.mem_cons_of_mem _ (List.mem_flatMap.2 ⟨p, hp, hu⟩), hx⟩
 ·rintro ⟨u, hu, hx⟩
  rcases List.mem_cons.1 hu with rfl | hu
  ·exact .inl hx
  ·obtain ⟨p, hp, hu⟩ := List.mem_flatMap.1 hu
   exact .inr ⟨p, hp, (ih p hp).2 ⟨u, hu, hx⟩⟩
theorem gathT_asc (h : Lin lt) {f : Ty → List α} (hf : ∀ t, (f t).length ≤ 1) (t : Ty) : Asc lt (gathT lt f t) := by
 rw [gathT_eq]
 refine foldl_gath_asc h ?_
 have := hf t
 match f t, this with
 | [], _ => exact List.Pairwise.nil
 | [a], _ => exact List.pairwise_singleton _ _
 | _ :: _ :: _, h => simp at h
theorem insL_length {s : α} : ∀ {l : List α}, (insL lt l s).length ≤ l.length + 1
 | [] => by simp [insL]
 | a :: r => by
  unfold insL
  split
  ·have := insL_length (s := s) (l := r); simp only [List.length_cons]; omega
  ·split <;> simp
theorem insAll_length : ∀ {m l : List α}, (insAll lt l m).length ≤ l.length + m.length
 | [], l => by simp [insAll]
 | s :: m, l => by
  have h1 := insAll_length (m := m) (l := insL lt l s)
  have h2 := insL_length (lt := lt) (s := s) (l := l)
  show (insAll lt (insL lt l s) m).length ≤ _
  rw [List.length_cons]; omega
theorem foldl_gath_length {f : Ty → List α} : ∀ {ps : List Ty} {out : List α} , (∀ p ∈ ps, (gathT lt f p).length ≤ p.size) → (ps.foldl (fun o p => insAll lt o (gathT lt f p)) out).length ≤ out.length + sumBy Ty.size ps
 | [], out, _ => by simp [sumBy]
 | p :: r, out, h => by
  have h1 := foldl_gath_length (ps := r) (out := insAll lt out (gathT lt f p)) fun q hq => h q (List.mem_cons_of_mem _ hq)
  have h2 := insAll_length (lt := lt) (m := gathT lt f p) (l := out)
  have h3 := h p (List.mem_cons_self ..)
  rw [List.foldl_cons]
  simp only [sumBy]
  omega
theorem gathT_length {f : Ty → List α} (hf : ∀ t, (f t).length ≤ 1) : ∀ t : Ty, (gathT lt f t).length ≤ t.size := by
 refine Ty.induct fun t ih => ?_
 rw [gathT_eq, t.size_parts]
 have := foldl_gath_length (lt := lt) (out := f t) ih
 have := hf t
 omega
end
end Go.Proofs.YtpjdfcigadnhcaaGreatDoor
end

section
namespace Go.Proofs.YtpjdfcigadnhcaaGreatDoor
open Go.Eng
variable [Glob]
set_option maxHeartbeats 4000000
set_option maxRecDepth 100000
attribute [local irreducible] runM stepM valD stepOp stepD callF callS
theorem firstMap {α : Type} (l : List α) (f : α → V) (size : Nat) (hs : ∀ a, (f a).cells.length = size) : firstOk (l.map f) 0 size = true := by
 unfold firstOk; split
 ·rename_i h; rw [List.getElem?_map, Option.map_eq_some_iff] at h; obtain ⟨t, -, rfl⟩ := h; simp [hs]
 ·rfl
theorem ltS_eq (a b : ByteArray) : ltS a b = decide (a.data.toList < b.data.toList) := by
 unfold ltS
 rw [Proofs.bytesLess_eq, ByteArray.toList_eq, ByteArray.toList_eq]
theorem lin_str : Lin ltS := by
 refine ⟨fun x => ?_, fun x y z h1 h2 => ?_, fun x y h1 h2 => ?_⟩
 ·rw [ltS_eq]; exact decide_eq_false (List.lt_irrefl _)
 ·rw [ltS_eq] at *
  exact decide_eq_true (List.lt_trans (of_decide_eq_true h1) (of_decide_eq_true h2))
 ·rw [ltS_eq] at h1 h2
  have h1 := of_decide_eq_false h1
  have h2 := of_decide_eq_false h2
  have := List.le_antisymm (List.not_lt.1 h2) (List.not_lt.1 h1)
  exact ByteArray.ext (Array.toList_inj.1 this)
end Go.Proofs.YtpjdfcigadnhcaaGreatDoor
end

section
namespace Go.Proofs.YtpjdfcigadnhcaaGreatDoor
open Go.Eng
variable [Glob]
set_option maxHeartbeats 4000000
set_option maxRecDepth 100000
attribute [local irreducible] runM stepM valD stepOp stepD callF callS
def nmOf (k : Int) (t : Ty) : List ByteArray := if t.kind = k then [t.name] else []
theorem nmOf_len (k : Int) (t : Ty) : (nmOf k t).length ≤ 1 := by unfold nmOf; split <;> simp
section
variable {α : Type} [DecidableEq α] (lt : α → α → Bool) (f : Ty → List α)
end
end Go.Proofs.YtpjdfcigadnhcaaGreatDoor
end

section
namespace Go.Proofs.YtpjdfcigadnhcaaGreatDoor
open Go.Eng
variable [Glob]
set_option maxHeartbeats 4000000
set_option maxRecDepth 100000
attribute [local irreducible] runM stepM valD stepOp stepD callF callS
def usOf (t : Ty) : List Us := if t.kind = 10 then [(t.mod, t.name)] else []
theorem usOf_len (t : Ty) : (usOf t).length ≤ 1 := by unfold usOf; split <;> simp
theorem lin_us : Lin ltU := by
 have hl := lin_str
 refine ⟨fun x => ?_, fun x y z h1 h2 => ?_, fun x y h1 h2 => ?_⟩
 ·simp [ltU, hl.irrefl]
 ·unfold ltU at *
  rw [Bool.or_eq_true, Bool.and_eq_true, decide_eq_true_eq] at *
  rcases h1 with h1 | ⟨h1, h1'⟩
  ·rcases h2 with h2 | ⟨h2, h2'⟩
   ·exact .inl (hl.trans _ _ _ h1 h2)
   ·rw [← h2]; exact .inl h1
  ·rcases h2 with h2 | ⟨h2, h2'⟩
   ·rw [h1]; exact .inl h2
   ·exact .inr ⟨h1.trans h2, hl.trans _ _ _ h1' h2'⟩
 ·unfold ltU at h1 h2
  rw [Bool.or_eq_false_iff, Bool.and_eq_false_iff] at h1 h2
  have e1 : x.1 = y.1 := hl.tri _ _ h1.1 h2.1
  have a1 : ltS x.2 y.2 = false := h1.2.elim (fun h => absurd e1 (of_decide_eq_false h)) id
  have a2 : ltS y.2 x.2 = false := h2.2.elim (fun h => absurd e1.symm (of_decide_eq_false h)) id
  exact Prod.ext e1 (hl.tri _ _ a1 a2)
end Go.Proofs.YtpjdfcigadnhcaaGreatDoor
end

section
namespace Go.Proofs.YtpjdfcigadnhcaaGreatDoor
open Go.Eng
open Nat (reduceAdd reduceLT reduceLeDiff reduceMul reduceEqDiff reduceSub)
variable [Glob]
set_option maxHeartbeats 4000000
set_option maxRecDepth 100000
attribute [local irreducible] runM stepM valD stepOp stepD callF callS
def idxN (ns : List ByteArray) (s : ByteArray) : Int := match ns.findIdx? (fun m => s.toList == m.toList) with
 | some i => i
 | none => -1
theorem findIdx_some {α : Type} {p : α → Bool} : ∀ {l : List α} {i : Nat} {a : α}, l[i]? = some a → p a = true → (∀ j < i, ∀ b, l[j]? = some b → p b = false) → l.findIdx? p = some i
 | [], i, a, h, _, _ => by simp at h
 | b :: r, 0, a, h, hp, _ => by
  simp at h; subst h
  simp [List.findIdx?_cons, hp]
 | b :: r, i + 1, a, h, hp, hn => by
  have h0 := hn 0 (by omega) b rfl
  have ih := findIdx_some (l := r) (i := i) (a := a) (p := p) (by simpa using h) hp fun j hj c hc => hn (j + 1) (by omega) c (by simpa using hc)
  simp [List.findIdx?_cons, h0, ih]
theorem findIdx_none {α : Type} {p : α → Bool} : ∀ {l : List α}, (∀ (j : Nat) (b : α), l[j]? = some b → p b = false) → l.findIdx? p = none
 | [], _ => rfl
 | b :: r, hn => by
  have h0 := hn 0 b rfl
  have ih := findIdx_none (l := r) (p := p) fun j c hc => hn (j + 1) c (by simpa using hc)
  simp [List.findIdx?_cons, h0, ih]
theorem idxN_some {ns : List ByteArray} {s m : ByteArray} {i : Nat} (h : ns[i]? = some m) (hp : (s.toList == m.toList) = true) (hn : ∀ j < i, ∀ b, ns[j]? = some b → (s.toList == b.toList) = false) : idxN ns s = i := by
 unfold idxN; rw [findIdx_some h hp hn]
theorem idxN_none {ns : List ByteArray} {s : ByteArray} (hn : ∀ (j : Nat) (b : ByteArray), ns[j]? = some b → (s.toList == b.toList) = false) : idxN ns s = -1 := by
 unfold idxN; rw [findIdx_none hn]
theorem idxN_get {ns : List ByteArray} {s : ByteArray} : (idxN ns s = -1 ∧ ns.findIdx? (fun m => s.toList == m.toList) = none) ∨ ∃ i : Nat, idxN ns s = i ∧ i < ns.length ∧ ns.findIdx? (fun m => s.toList == m.toList) = some i := by
 unfold idxN
 cases h : ns.findIdx? (fun m => s.toList == m.toList) with
 | none => exact .inl ⟨rfl, rfl⟩
 | some i => exact .inr ⟨i, rfl, (List.findIdx?_eq_some_iff_findIdx_eq.1 h).1, rfl⟩
theorem first_fd (fs : List Fd) (n : Nat) : firstOk (encFds fs) n 7 = true := by
 rw [encFds_map]; unfold firstOk; split
 ·rename_i h; simp at h; obtain ⟨t, -, rfl⟩ := h; simp [len_encFd]
 ·rfl
theorem sidx_tot (ns : List ByteArray) (s : ByteArray) (hl : ns.length ≤ 1048576) : ∃ r, (fun v => v = num (idxN ns s)) r ∧ FnOk Tryz.prog 60 [.slice (ns.map str), str s] r := by
 refine fn_ex tt_ok (fn := Tryz.f60) Tryz.func60 rfl Tryz.call60 ?_
 simp only [ltb,startSt,Tryz.ntmps60,List.length_cons,List.length_nil,reduceAdd,reduceSub,List.replicate_succ,List.replicate_zero]
 refine ex_region_w tt_ok 19 [0,0,0,0,2] [] rfl rfl fun K hK => ?_
 try simp only [ltb]
 try simp only [ltb]
 simp only [List.length_map,go_sem,reduceIte,reduceAdd,reduceLT,reduceLeDiff,reduceMul,reduceEqDiff,reduceSub,reduceCtorEq,List.take_length]
 refine hK _ _ rfl ?_
 simp only [mwb,reduceAdd,reduceEqDiff]
 refine ex_seq ?_
 refine ex_region_w tt_ok 19 [0,0,0,0,0,0,1,2,2] [] rfl rfl fun K hK => ?_
 try simp only [ltb]
 try simp only [ltb]
 simp only [List.length_map,go_sem,reduceIte,reduceAdd,reduceLT,reduceLeDiff,reduceMul,reduceEqDiff,reduceSub,reduceCtorEq,List.take_length]
 refine hK _ _ rfl ?_
 simp only [mwb,reduceAdd,reduceEqDiff]
 refine ex_block ?_
 refine ex_loopK [8] [num 0] 0 [true,true,false,false,true,false,false,true,true] (fun vs => ((ns.length : Int) - intOf (vs.headD .undef)).toNat) (fun vs => ∃ i : Nat, vs = [num i] ∧ i ≤ ns.length ∧ ∀ j < i, ∀ b, ns[j]? = some b → (s.toList == b.toList) = false) (by omega) (by simp only [maskFr,belowV,belowL,belowB,reduceLT,mkb]) (by simp only [maskFr,belowV,belowL,belowB,reduceLT,mkb]) (by rfl) (⟨0, rfl, Nat.zero_le _, fun j hj => absurd hj (Nat.not_lt_zero j)⟩) fun vs hI => ?_
 obtain ⟨i, rfl, hi, hno⟩ := hI
 simp only [maskFr,belowV,belowL,belowB,reduceLT,putAll,List.set_cons_zero,List.set_cons_succ,mkb]
 refine ex_region_w tt_ok 19 (rp 9 0 [2]) [] rfl rfl fun K hK => ?_
 try simp only [ltb]
 try simp only [ltb]
 simp only [List.length_map,go_sem,reduceIte,reduceAdd,reduceLT,reduceLeDiff,reduceMul,reduceEqDiff,reduceSub,reduceCtorEq,List.take_length]
 refine hK _ _ rfl ?_
 simp only [mwb,reduceAdd,reduceEqDiff]
 refine ex_seq ?_
 refine ex_if rfl (fun hc9 => ?_) (fun hc9 => ?_)
 ·have hlt : i < ns.length := by simpa using hc9
  obtain ⟨m, hx⟩ : ∃ m, ns[i]? = some m := ⟨_, List.getElem?_eq_getElem hlt⟩
  have hw := i64_succ i (by omega)
  refine ex_skip ?_
  show Go.Eng.Ex _ _ _ _ _ _
  refine ex_seq ?_
  refine ex_block ?_
  refine ex_region_w tt_ok 19 [0,0,0,0,0,2,0,0,0,0,1] [] rfl rfl fun K hK => ?_
  try simp only [ltb]
  try simp only [ltb]
  simp only [List.getElem?_map,hx,hw,List.length_map,go_sem,reduceIte,reduceAdd,reduceLT,reduceLeDiff,reduceMul,reduceEqDiff,reduceSub,reduceCtorEq,List.take_length]
  refine hK _ _ rfl ?_
  simp only [mwb,reduceAdd,reduceEqDiff]
  refine ex_region_w tt_ok 19 (rp 11 0 [1,1,1,1,1,2]) [] rfl rfl fun K hK => ?_
  try simp only [ltb]
  try simp only [ltb]
  simp only [List.getElem?_map,hx,hw,List.length_map,go_sem,reduceIte,reduceAdd,reduceLT,reduceLeDiff,reduceMul,reduceEqDiff,reduceSub,reduceCtorEq,List.take_length]
  refine hK _ _ rfl ?_
  simp only [mwb,reduceAdd,reduceEqDiff]
  refine ex_if rfl (fun hc16 => ?_) (fun hc16 => ?_)
  ·have hres : (num (i : Int) : V) = num (idxN ns s) := by rw [idxN_some hx hc16 hno]
   refine ex_region_w tt_ok 19 (0::0::0::0::2::(rp 12 0 [1])) [] rfl rfl fun K hK => ?_
   try simp only [ltb]
   try simp only [ltb]
   simp only [List.getElem?_map,hx,hw,List.length_map,go_sem,reduceIte,reduceAdd,reduceLT,reduceLeDiff,reduceMul,reduceEqDiff,reduceSub,reduceCtorEq,List.take_length]
   refine hK _ _ rfl ?_
   simp only [mwb,reduceAdd,reduceEqDiff]
   exact ex_ret ⟨.inl rfl, _, hres, rfl⟩
  ·refine ex_skip ?_
   show Go.Eng.Ex _ _ _ _ _ _
   refine ex_last_region_w tt_ok 19 (rp 8 0 (2::(rp 9 0 [2]))) [] (by kernel_rfl) rfl rfl fun K hK => ?_
   try simp only [ltb]
   try simp only [ltb]
   simp only [List.getElem?_map,hx,hw,List.length_map,go_sem,reduceIte,reduceAdd,reduceLT,reduceLeDiff,reduceMul,reduceEqDiff,reduceSub,reduceCtorEq,List.take_length]
   refine hK _ _ rfl ?_
   simp only [mwb,reduceAdd,reduceEqDiff]
   refine ⟨[_], ?_, ?_, 0, [true,true,false,false,true,false,false,true,true], by omega, by simp only [maskFr,belowV,belowL,belowB,reduceLT,mkb], by simp only [maskFr,belowV,belowL,belowB,reduceLT,mkb], by simp only [maskFr,belowV,belowL,belowB,reduceLT,putAll,List.set_cons_zero,List.set_cons_succ,mkb]; rfl⟩
   ·refine ⟨i + 1, rfl, hlt, fun j hj b hb => ?_⟩
    rcases Nat.lt_or_ge j i with h | h
    ·exact hno j h b hb
    ·obtain rfl : j = i := by omega
     rw [hx] at hb; cases hb; exact hc16
   ·simp only [intOf,List.headD_cons]; omega
 ·have hge : ¬ i < ns.length := by simpa using hc9
  have hres : (num (-1) : V) = num (idxN ns s) := by rw [idxN_none fun j b hb => hno j (by have := (List.getElem?_eq_some_iff.1 hb).1; omega) b hb]
  refine ex_exit ?_
  show Go.Eng.Ex _ _ _ _ _ _
  refine ex_region_w tt_ok 19 [0,0,0,0,2] [] rfl rfl fun K hK => ?_
  try simp only [ltb]
  try simp only [ltb]
  simp only [List.length_map,go_sem,reduceIte,reduceAdd,reduceLT,reduceLeDiff,reduceMul,reduceEqDiff,reduceSub,reduceCtorEq,List.take_length]
  refine hK _ _ rfl ?_
  simp only [mwb,reduceAdd,reduceEqDiff]
  exact ex_ret ⟨.inl rfl, _, hres, rfl⟩
theorem cloneFd_ok (rows : List V) (h1 : firstOk rows 0 7 = true) (hl : rows.length ≤ 34359738368) : FnOkS Tryz.prog 62 [.slice rows] [] (.ms 0 1 0 rows.length) [.rows 1 7 rows] := by
 refine fns_ok tt_ok (fn := Tryz.f62) 1 (by simp) Tryz.func62 rfl Tryz.call62 ?_
 simp only [ltb,startSt,Tryz.ntmps62,List.length_cons,List.length_nil,reduceAdd,reduceSub,List.replicate_succ,List.replicate_zero]
 refine tri_seq_region tt_ok fun K hK => ?_
 simp only [go_sem,reduceIte,reduceAdd,reduceLT,reduceLeDiff,reduceMul,reduceEqDiff,reduceSub,reduceCtorEq]
 refine hK _ ?_
 refine tri_seq ?_
 refine tri_seq_region tt_ok fun K hK => ?_
 simp only [go_sem,reduceIte,reduceAdd,reduceLT,reduceLeDiff,reduceMul,reduceEqDiff,reduceSub,reduceCtorEq]
 intro b hb
 refine hK _ ?_
 cases b with
 | true =>
  have h0 : rows = [] := by
   cases rows with
   | nil => rfl
   | cons a r => have := hb (by simp); cases this
  subst h0
  refine tri_cond rfl ?_
  refine tri_seq_region tt_ok fun K hK => ?_
  simp only [go_sem,reduceIte,reduceAdd,reduceLT,reduceLeDiff,reduceMul,reduceEqDiff,reduceSub,reduceCtorEq]
  refine hK _ ?_
  refine tri_nilMs 2 1 7 rfl ?_
  exact tri_ret ⟨.inl rfl, rfl, rfl, rfl, rfl⟩
 | false =>
  refine tri_cond rfl (tri_skip ?_)
  show Tri _ _ _ _ _ _
  refine tri_seq_region tt_ok fun K hK => ?_
  simp only [h1,hl,go_sem,reduceIte,reduceAdd,reduceLT,reduceLeDiff,reduceMul,reduceEqDiff,reduceSub,reduceCtorEq]
  refine hK _ ?_
  refine tri_ret ⟨.inl rfl, ?_⟩
  simp [resOne, resL, resV, Tryz.f62, belowV, belowB, belowL]
end Go.Proofs.YtpjdfcigadnhcaaGreatDoor
end

section
namespace Go.Proofs.YtpjdfcigadnhcaaGreatDoor
open Go.Eng
open Nat (reduceAdd reduceLT reduceLeDiff reduceMul reduceEqDiff reduceSub)
variable [Glob]
set_option maxHeartbeats 4000000
set_option maxRecDepth 100000
attribute [local irreducible] runM stepM valD stepOp stepD callF callS
theorem pick_true {ns : List ByteArray} {us : List Ty} {t : Ty} (h1 : decide (t.kind = 9) = true) (h2 : decide (0 ≤ idxN ns t.name) = true) (h3 : decide (idxN ns t.name < (us.length : Int)) = true) : ∃ (i : Nat) (u : Ty), idxN ns t.name = i ∧ us[i]? = some u ∧ t.subst ns us = u := by
 have h1 := of_decide_eq_true h1
 have h2 := of_decide_eq_true h2
 have h3 := of_decide_eq_true h3
 rcases idxN_get (ns := ns) (s := t.name) with ⟨e, -⟩ | ⟨i, e, hi, hf⟩
 ·omega
 ·rw [e] at h3
  obtain ⟨u, hu⟩ : ∃ u, us[i]? = some u := ⟨_, List.getElem?_eq_getElem (by omega)⟩
  refine ⟨i, u, e, hu, ?_⟩
  rw [t.subst_eq, if_pos h1]
  unfold pickT
  rw [hf]
  dsimp only
  rw [hu]
theorem pick_false {ns : List ByteArray} {us : List Ty} {t : Ty} (h : decide (t.kind = 9) = false ∨ decide (0 ≤ idxN ns t.name) = false ∨ decide (idxN ns t.name < (us.length : Int)) = false) : t.subst ns us = .mk t.kind t.mod t.name (t.args.map (Ty.subst ns us)) (t.flds.map (Fd.subst ns us)) := by
 rw [t.subst_eq]
 by_cases h9 : t.kind = 9
 ·rw [if_pos h9]
  have : pickT ns us t.name = none := by
   unfold pickT
   rcases idxN_get (ns := ns) (s := t.name) with ⟨e, hf⟩ | ⟨i, e, hi, hf⟩
   ·rw [hf]
   ·rw [hf]
    dsimp only
    rw [List.getElem?_eq_none]
    rcases h with h | h | h
    ·exact absurd h9 (of_decide_eq_false h)
    ·have := of_decide_eq_false h; omega
    ·have := of_decide_eq_false h; omega
  rw [this]
 ·rw [if_neg h9]
theorem step_list {α : Type} {g : α → α} {l al : List α} {i : Nat} {x : α} (has : al = (l.take i).map g ++ l.drop i) (hx : l[i]? = some x) : al.set i (g x) = (l.take (i + 1)).map g ++ l.drop (i + 1) := by
 have hlt := (List.getElem?_eq_some_iff.1 hx).1
 have hg := (List.getElem?_eq_some_iff.1 hx).2
 have hl : ((l.take i).map g).length = i := by simp; omega
 rw [has, List.set_append_right _ _ (by omega), hl, Nat.sub_self, List.drop_eq_getElem_cons hlt, List.set_cons_zero, List.take_add_one, hx]
 simp
theorem get_list {α : Type} {g : α → α} {l al : List α} {i : Nat} {x : α} (has : al = (l.take i).map g ++ l.drop i) (hx : l[i]? = some x) : al[i]? = some x ∧ al.length = l.length := by
 have hlt := (List.getElem?_eq_some_iff.1 hx).1
 have hl : ((l.take i).map g).length = i := by simp; omega
 constructor
 ·rw [has, List.getElem?_append_right (by omega), hl, Nat.sub_self, List.getElem?_drop]; simpa using hx
 ·rw [has]; simp; omega
theorem take_len_map {α β : Type} (f : α → β) (l : List α) : (l.map f).take l.length = l.map f := List.take_of_length_le (by simp)
theorem Fd.subst_name (ns : List ByteArray) (us : List Ty) (f : Fd) : (f.subst ns us).name = f.name := by rw [Fd.subst_eq]; rfl
theorem Fd.subst_ty (ns : List ByteArray) (us : List Ty) (f : Fd) : (f.subst ns us).ty = f.ty.subst ns us := by rw [Fd.subst_eq]; rfl
theorem Fd.subst_opt (ns : List ByteArray) (us : List Ty) (f : Fd) : (f.subst ns us).opt = f.opt := by rw [Fd.subst_eq]; rfl
theorem subst_tot (ns : List ByteArray) (us : List Ty) (t : Ty) (T : V) (hTT : T = encTy (t.subst ns us)) (hnl : ns.length ≤ 1048576) (hul : us.length ≤ 1048576) (hal : t.args.length ≤ 1048576) (hfl : t.flds.length ≤ 1048576) (hvar : ∀ (i : Nat) (u : Ty), us[i]? = some u → FnOk Tryz.prog 23 [encTy u, .slice [], .slice []] (encTy u)) (hrec : ∀ p ∈ t.parts, FnOk Tryz.prog 23 [encTy p, .slice (ns.map str), .slice (encTys us)] (encTy (p.subst ns us))) : ∃ r, (fun v => v = T) r ∧ FnOk Tryz.prog 23 [encTy t, .slice (ns.map str), .slice (encTys us)] r := by
 refine fn_ex tt_ok (fn := Tryz.f23) Tryz.func23 rfl Tryz.call23 ?_
 simp only [ltb,startSt,Tryz.ntmps23,List.length_cons,List.length_nil,reduceAdd,reduceSub,List.replicate_succ,List.replicate_zero]
 simp only [encTy_eq,tyCells]
 refine ex_region_w tt_ok 79 [0,0,0,2,0,0,2] [] rfl rfl fun K hK => ?_
 try simp only [ltb]
 try simp only [ltb]
 simp only [length_encTys,length_encFds,List.length_map,go_sem,reduceIte,reduceAdd,reduceLT,reduceLeDiff,reduceMul,reduceEqDiff,reduceSub,reduceCtorEq,List.take_length]
 refine hK _ _ rfl ?_
 simp only [mwb,reduceAdd,reduceEqDiff]
 refine ex_seq ?_
 refine ex_region_w tt_ok 79 [0,0,0,0,0,0,0,2,0,0,0,0,1,1,1,1] [] rfl rfl fun K hK => ?_
 try simp only [ltb]
 refine runX_cut 4 fun K1 hK1 => ?_
 simp only [ltb]
 simp only [length_encTys,length_encFds,List.length_map,go_sem,reduceIte,reduceAdd,reduceLT,reduceLeDiff,reduceMul,reduceEqDiff,reduceSub,reduceCtorEq,List.take_length]
 refine callF_ex (sidx_tot ns t.name hnl) ?_
 rintro _ rfl
 try simp only [length_encTys,length_encFds,List.length_map,go_sem,reduceIte,reduceAdd,reduceLT,reduceLeDiff,reduceMul,reduceEqDiff,reduceSub,reduceCtorEq,List.take_length]
 refine hK1 _ ?_
 try simp only [ltb]
 simp only [length_encTys,length_encFds,List.length_map,go_sem,reduceIte,reduceAdd,reduceLT,reduceLeDiff,reduceMul,reduceEqDiff,reduceSub,reduceCtorEq,List.take_length]
 refine hK _ _ rfl ?_
 simp only [mwb,reduceAdd,reduceEqDiff]
 refine ex_seq_joinK [28] 2 (true::true::true::true::false::false::true::true::false::false::false::false::true::true::true::true::(rp 12 false [true])) (fun vs => ∃ b : Bool, vs = [bl b] ∧ (b = true → ∃ (i : Nat) (u : Ty), idxN ns t.name = i ∧ us[i]? = some u ∧ t.subst ns us = u) ∧ (b = false → t.subst ns us = .mk t.kind t.mod t.name (t.args.map (Ty.subst ns us)) (t.flds.map (Fd.subst ns us)))) ?_ ?_
 ·refine ex_last_region_w tt_ok 79 (rp 16 0 (rp 13 2 [])) [(3, 19), (7, 23)] (by kernel_rfl) rfl rfl fun K hK => ?_
  try simp only [ltb]
  refine runX_cut 4 fun K1 hK1 => ?_
  simp only [ltb]
  simp only [length_encTys,length_encFds,List.length_map,go_sem,reduceIte,reduceAdd,reduceLT,reduceLeDiff,reduceMul,reduceEqDiff,reduceSub,reduceCtorEq,List.take_length]
  refine hK1 _ ?_
  refine runX_case 19 (by rfl) fun b hb2_3 => ?_
  cases b
  ·refine runX_cut 8 fun K1 hK1 => ?_
   simp only [ltb]
   simp only [length_encTys,length_encFds,List.length_map,go_sem,reduceIte,reduceAdd,reduceLT,reduceLeDiff,reduceMul,reduceEqDiff,reduceSub,reduceCtorEq,List.take_length]
   refine hK1 _ ?_
   try simp only [ltb]
   simp only [length_encTys,length_encFds,List.length_map,go_sem,reduceIte,reduceAdd,reduceLT,reduceLeDiff,reduceMul,reduceEqDiff,reduceSub,reduceCtorEq,List.take_length]
   refine hK _ _ rfl ?_
   simp only [mwb,reduceAdd,reduceEqDiff]
   refine ⟨[_], ?_, 2, (true::true::true::true::false::false::true::true::false::false::false::false::true::true::true::true::(rp 12 false [true])), by omega, by simp only [maskFr,belowV,belowL,belowB,reduceLT,mkb], by simp only [maskFr,belowV,belowL,belowB,reduceLT,mkb], by simp only [maskFr,belowV,belowL,belowB,reduceLT,putAll,List.set_cons_zero,List.set_cons_succ,mkb]; rfl⟩
   first | exact ⟨false, rfl, (fun h => by cases h), fun _ => pick_false (.inl hb2_3)⟩ | exact ⟨false, rfl, (fun h => by cases h), fun _ => pick_false (.inr (.inl hb2_7))⟩ | exact ⟨_, rfl, fun h => pick_true hb2_3 hb2_7 h, fun h => pick_false (.inr (.inr h))⟩
  ·refine runX_cut 4 fun K1 hK1 => ?_
   simp only [ltb]
   simp only [length_encTys,length_encFds,List.length_map,go_sem,reduceIte,reduceAdd,reduceLT,reduceLeDiff,reduceMul,reduceEqDiff,reduceSub,reduceCtorEq,List.take_length]
   refine hK1 _ ?_
   refine runX_case 23 (by rfl) fun b hb2_7 => ?_
   cases b
   ·try simp only [ltb]
    simp only [length_encTys,length_encFds,List.length_map,go_sem,reduceIte,reduceAdd,reduceLT,reduceLeDiff,reduceMul,reduceEqDiff,reduceSub,reduceCtorEq,List.take_length]
    refine hK _ _ rfl ?_
    simp only [mwb,reduceAdd,reduceEqDiff]
    refine ⟨[_], ?_, 2, (true::true::true::true::false::false::true::true::false::false::false::false::true::true::true::true::(rp 12 false [true])), by omega, by simp only [maskFr,belowV,belowL,belowB,reduceLT,mkb], by simp only [maskFr,belowV,belowL,belowB,reduceLT,mkb], by simp only [maskFr,belowV,belowL,belowB,reduceLT,putAll,List.set_cons_zero,List.set_cons_succ,mkb]; rfl⟩
    first | exact ⟨false, rfl, (fun h => by cases h), fun _ => pick_false (.inl hb2_3)⟩ | exact ⟨false, rfl, (fun h => by cases h), fun _ => pick_false (.inr (.inl hb2_7))⟩ | exact ⟨_, rfl, fun h => pick_true hb2_3 hb2_7 h, fun h => pick_false (.inr (.inr h))⟩
   ·try simp only [ltb]
    simp only [length_encTys,length_encFds,List.length_map,go_sem,reduceIte,reduceAdd,reduceLT,reduceLeDiff,reduceMul,reduceEqDiff,reduceSub,reduceCtorEq,List.take_length]
    refine hK _ _ rfl ?_
    simp only [mwb,reduceAdd,reduceEqDiff]
    refine ⟨[_], ?_, 2, (true::true::true::true::false::false::true::true::false::false::false::false::true::true::true::true::(rp 12 false [true])), by omega, by simp only [maskFr,belowV,belowL,belowB,reduceLT,mkb], by simp only [maskFr,belowV,belowL,belowB,reduceLT,mkb], by simp only [maskFr,belowV,belowL,belowB,reduceLT,putAll,List.set_cons_zero,List.set_cons_succ,mkb]; rfl⟩
    first | exact ⟨false, rfl, (fun h => by cases h), fun _ => pick_false (.inl hb2_3)⟩ | exact ⟨false, rfl, (fun h => by cases h), fun _ => pick_false (.inr (.inl hb2_7))⟩ | exact ⟨_, rfl, fun h => pick_true hb2_3 hb2_7 h, fun h => pick_false (.inr (.inr h))⟩
 ·intro vs hJ
  obtain ⟨b28, rfl, hpt, hpf⟩ := hJ
  simp only [maskFr,belowV,belowL,belowB,reduceLT,putAll,List.set_cons_zero,List.set_cons_succ,mkb]
  refine ex_if rfl (fun hc28 => ?_) (fun hc28 => ?_)
  ·obtain ⟨j, u, hj, hu, hsu⟩ := hpt hc28
   rw [hj]
   refine ex_region_w tt_ok 79 (rp 29 0 [1,1,1,1,1]) [] rfl rfl fun K hK => ?_
   try simp only [ltb]
   refine runX_cut 5 fun K1 hK1 => ?_
   simp only [ltb]
   simp only [get_encTys,hu,encTy_eq,tyCells,length_encTys,length_encFds,List.length_map,go_sem,reduceIte,reduceAdd,reduceLT,reduceLeDiff,reduceMul,reduceEqDiff,reduceSub,reduceCtorEq,List.take_length]
   refine callF_ex (by have h := hvar j u hu; rw [encTy_eq] at h; simp only [tyCells] at h; exact ⟨_, rfl, h⟩) ?_
   rintro _ rfl
   try simp only [get_encTys,hu,encTy_eq,tyCells,length_encTys,length_encFds,List.length_map,go_sem,reduceIte,reduceAdd,reduceLT,reduceLeDiff,reduceMul,reduceEqDiff,reduceSub,reduceCtorEq,List.take_length]
   refine hK1 _ ?_
   try simp only [ltb]
   simp only [get_encTys,hu,encTy_eq,tyCells,length_encTys,length_encFds,List.length_map,go_sem,reduceIte,reduceAdd,reduceLT,reduceLeDiff,reduceMul,reduceEqDiff,reduceSub,reduceCtorEq,List.take_length]
   refine hK _ _ rfl ?_
   simp only [mwb,reduceAdd,reduceEqDiff]
   refine ex_ret ?_
   first
    | (refine ⟨.inl rfl, _, ?_, rfl⟩; rw [hTT, hsu, encTy_eq]; rfl)
    | (refine ⟨.inl rfl, .agg [num t.kind, str t.mod, str t.name, .slice (encTys (t.args.map (Ty.subst ns us))), .slice (encFds (t.flds.map (Fd.subst ns us)))], by rw [hTT, hsub]; rfl, ?_⟩; simp [retV, resL, resV, Tryz.f23, loadV, pickCells, tt25, pur, pur1, purCells, purCell, nilS, encTys_map, encFds_map, take_len_map])
  ·refine ex_skip ?_
   show Go.Eng.Ex _ _ _ _ _ _
   have hsub := hpf hc28
   refine ex_mixed_w tt_ok mixed_ok 79 [0,0,0,0,0,0,0,0,0,0,0,0,0,0,0,0,0,0,0,0,0,0,0,0,0,0,0,0,0,0,0,0,0,0,1,1,1,1,1,1,1,1] (by kernel_rfl) [⟨.n, 0, [], []⟩, ⟨.r, 0, [], [0]⟩, ⟨.a, 0, [], [0,1]⟩, ⟨.n, 0, [], []⟩, ⟨.r, 0, [0], [3]⟩, ⟨.a, 1, [], [0,1,2,3,4]⟩, ⟨.n, 0, [], [0,1,2,3,4]⟩, ⟨.w, 2, [], [0,1,2,3,4,5,6]⟩, ⟨.n, 0, [], [0,1,2,3,4,5,6,7]⟩, ⟨.w, 3, [], [0,1,2,3,4,5,6,7,8]⟩] 4 (by kernel_rfl) fun K hK => ?_
   try simp only [ltb,List.replicate_zero,List.replicate_succ]
   refine runM_cut 3 (by simp) (by simp) fun K1 hK1 => ?_
   try simp only [ltb]
   simp only [length_encTys,length_encFds,List.length_map,go_sem,reduceIte,reduceAdd,reduceLT,reduceLeDiff,reduceMul,reduceEqDiff,reduceSub,reduceCtorEq,List.take_length,List.replicate]
   refine ⟨_, _, _, by simp only [length_encTys,length_encFds,List.length_map,go_sem,reduceIte,reduceAdd,reduceLT,reduceLeDiff,reduceMul,reduceEqDiff,reduceSub,reduceCtorEq,List.take_length], ⟨_, cloneTy_ok (encTys t.args) (first_ty t.args 0) (by rw [length_encTys]; omega)⟩, ?_⟩
   try simp only [holeSt,length_encTys,length_encFds,List.length_map,go_sem,reduceIte,reduceAdd,reduceLT,reduceLeDiff,reduceMul,reduceEqDiff,reduceSub,reduceCtorEq,List.take_length,List.replicate]
   refine hK1 _ ?_
   refine runM_cut 3 (by simp) (by simp) fun K1 hK1 => ?_
   try simp only [ltb]
   simp only [length_encTys,length_encFds,List.length_map,go_sem,reduceIte,reduceAdd,reduceLT,reduceLeDiff,reduceMul,reduceEqDiff,reduceSub,reduceCtorEq,List.take_length,List.replicate]
   refine ⟨_, _, _, by simp only [length_encTys,length_encFds,List.length_map,go_sem,reduceIte,reduceAdd,reduceLT,reduceLeDiff,reduceMul,reduceEqDiff,reduceSub,reduceCtorEq,List.take_length], ⟨_, cloneFd_ok (encFds t.flds) (first_fd t.flds 0) (by rw [length_encFds]; omega)⟩, ?_⟩
   try simp only [holeSt,length_encTys,length_encFds,List.length_map,go_sem,reduceIte,reduceAdd,reduceLT,reduceLeDiff,reduceMul,reduceEqDiff,reduceSub,reduceCtorEq,List.take_length,List.replicate]
   refine hK1 _ ?_
   try simp only [ltb]
   simp only [length_encTys,length_encFds,List.length_map,go_sem,reduceIte,reduceAdd,reduceLT,reduceLeDiff,reduceMul,reduceEqDiff,reduceSub,reduceCtorEq,List.take_length,List.replicate]
   refine hK _ _ rfl ?_
   simp only [mwb,reduceAdd,reduceEqDiff]
   refine ex_seq ?_
   refine ex_region_w tt_ok 79 (rp 42 0 [1,2,2,2]) [] rfl rfl fun K hK => ?_
   try simp only [ltb]
   try simp only [ltb]
   simp only [length_encTys,length_encFds,List.length_map,go_sem,reduceIte,reduceAdd,reduceLT,reduceLeDiff,reduceMul,reduceEqDiff,reduceSub,reduceCtorEq,List.take_length]
   refine hK _ _ rfl ?_
   simp only [mwb,reduceAdd,reduceEqDiff]
   refine ex_block ?_
   refine ex_loopF (fun a : Nat × List Ty => { fr := [.undef, .slice (ns.map str), .slice (encTys us), .ptr 0 0, .undef, .undef, .ptr 1 0, .undef, .undef, .undef, .undef, .undef, .undef, .undef, .undef, .undef, .undef, .undef, .undef, .undef, .undef, .undef, .undef, .undef, .undef, .undef, .undef, .undef, .undef, .undef, .undef, .undef, .undef, .undef, .undef, .undef, .undef, .undef, .undef, .undef, .undef, .undef, .undef, .ms 2 0 0 t.args.length, num t.args.length, num a.1, .undef, .undef, .undef, .undef, .undef, .undef, .undef, .undef, .undef, .undef, .undef, .undef, .undef, .undef, .undef, .undef, .undef, .undef, .undef, .undef, .undef, .undef, .undef, .undef, .undef, .undef, .undef, .undef, .undef, .undef, .undef, .undef, .undef], mem := [.box [num t.kind, str t.mod, str t.name, .ms 2 0 0 t.args.length, .ms 3 0 0 t.flds.length], .box [num 0, str ⟨#[]⟩, str ⟨#[]⟩, .sc (.slice none 0 0), .sc (.slice none 0 0)], .rows 0 5 (encTys a.2), .rows 0 7 (encFds t.flds), .hole, .hole] }) (fun a => t.args.length - a.1) (fun a => a.1 ≤ t.args.length ∧ a.2 = (t.args.take a.1).map (Ty.subst ns us) ++ t.args.drop a.1) ((0, t.args)) 6 (false::true::true::true::false::false::true::(rp 36 false [true,true,true])) (by omega) (by simp only [maskFr,belowV,belowL,belowB,reduceLT,mkb]) (by simp only [maskFr,belowV,belowL,belowB,reduceLT,mkb]) (by simp only [maskFr,belowV,belowL,belowB,reduceLT,mkb]; rfl) (⟨Nat.zero_le _, by simp⟩) ?_
   rintro ⟨i, al⟩ ⟨hi, has⟩
   dsimp only at hi has
   dsimp only
   refine ex_region_w tt_ok 79 (rp 46 0 [2]) [] rfl rfl fun K hK => ?_
   try simp only [ltb]
   try simp only [ltb]
   simp only [length_encTys,length_encFds,List.length_map,go_sem,reduceIte,reduceAdd,reduceLT,reduceLeDiff,reduceMul,reduceEqDiff,reduceSub,reduceCtorEq,List.take_length]
   refine hK _ _ rfl ?_
   simp only [mwb,reduceAdd,reduceEqDiff]
   refine ex_seq ?_
   refine ex_if rfl (fun hc46 => ?_) (fun hc46 => ?_)
   ·have hlt : i < t.args.length := by simpa using hc46
    rw [hc46]
    obtain ⟨x, hx⟩ : ∃ x, t.args[i]? = some x := ⟨_, List.getElem?_eq_getElem hlt⟩
    obtain ⟨hxa, hasl⟩ := get_list has hx
    have hil : ((i : Nat) : Int) < ((t.args.length : Nat) : Int) := by omega
    have hw := i64_succ i (by omega)
    refine ex_skip ?_
    show Go.Eng.Ex _ _ _ _ _ _
    refine ex_seq ?_
    refine ex_block ?_
    refine ex_region_w tt_ok 79 (rp 8 0 (2::2::(rp 37 0 [1,1,1]))) [] rfl rfl fun K hK => ?_
    try simp only [ltb]
    try simp only [ltb]
    simp only [hil,get_encTys,hxa,encTy_eq,tyCells,hw,setRow,hasl,length_encTys,length_encFds,List.length_map,go_sem,reduceIte,reduceAdd,reduceLT,reduceLeDiff,reduceMul,reduceEqDiff,reduceSub,reduceCtorEq,List.take_length]
    refine hK _ _ rfl ?_
    simp only [mwb,reduceAdd,reduceEqDiff]
    refine ex_last_mixed_w tt_ok mixed_ok 79 [0,0,0,0,0,0,0,0,0,0,0,0,0,0,0,0,0,0,0,0,0,0,0,0,0,0,0,0,0,0,0,0,0,0,0,0,0,0,0,0,0,0,0,0,0,0,0,0,0,0,2,2,2,2,2,2,2,2] (by kernel_rfl) (by kernel_rfl) [⟨.n, 0, [], []⟩, ⟨.r, 0, [], []⟩, ⟨.n, 0, [], []⟩, ⟨.r, 0, [], []⟩, ⟨.n, 0, [], []⟩, ⟨.n, 0, [], []⟩, ⟨.n, 0, [], []⟩, ⟨.r, 0, [], []⟩, ⟨.w, 0, [], []⟩] 1 (by kernel_rfl) fun K hK => ?_
    try simp only [ltb,List.replicate_zero,List.replicate_succ]
    refine runM_cut 6 (by simp) (by simp) fun K1 hK1 => ?_
    try simp only [ltb]
    simp only [hil,get_encTys,hxa,encTy_eq,tyCells,hw,setRow,hasl,length_encTys,length_encFds,List.length_map,go_sem,reduceIte,reduceAdd,reduceLT,reduceLeDiff,reduceMul,reduceEqDiff,reduceSub,reduceCtorEq,List.take_length,List.replicate]
    refine hK1 _ ?_
    refine runM_cut 1 (by simp) (by simp) fun K1 hK1 => ?_
    try simp only [ltb]
    simp only [hil,get_encTys,hxa,encTy_eq,tyCells,hw,setRow,hasl,length_encTys,length_encFds,List.length_map,go_sem,reduceIte,reduceAdd,reduceLT,reduceLeDiff,reduceMul,reduceEqDiff,reduceSub,reduceCtorEq,List.take_length,List.replicate]
    refine callD_ex rfl (by have h := hrec x (Ty.arg_part (List.mem_of_getElem? hx)); rw [encTy_eq, encTy_eq] at h; simp only [tyCells] at h; exact ⟨_, rfl, h⟩) ?_
    rintro _ rfl
    try simp only [hil,get_encTys,hxa,encTy_eq,tyCells,hw,setRow,hasl,length_encTys,length_encFds,List.length_map,go_sem,reduceIte,reduceAdd,reduceLT,reduceLeDiff,reduceMul,reduceEqDiff,reduceSub,reduceCtorEq,List.take_length,List.replicate]
    refine hK1 _ ?_
    try simp only [ltb]
    simp only [hil,get_encTys,hxa,encTy_eq,tyCells,hw,setRow,hasl,length_encTys,length_encFds,List.length_map,go_sem,reduceIte,reduceAdd,reduceLT,reduceLeDiff,reduceMul,reduceEqDiff,reduceSub,reduceCtorEq,List.take_length,List.replicate]
    refine hK _ _ rfl ?_
    simp only [mwb,reduceAdd,reduceEqDiff]
    show Go.Eng.Ex _ _ _ _ _ _
    refine ex_last_region_w tt_ok 79 (rp 45 0 (2::(rp 12 0 [2]))) [] (by kernel_rfl) rfl rfl fun K hK => ?_
    try simp only [ltb]
    try simp only [ltb]
    simp only [hil,get_encTys,hxa,encTy_eq,tyCells,hw,setRow,hasl,length_encTys,length_encFds,List.length_map,go_sem,reduceIte,reduceAdd,reduceLT,reduceLeDiff,reduceMul,reduceEqDiff,reduceSub,reduceCtorEq,List.take_length]
    refine hK _ _ rfl ?_
    simp only [mwb,reduceAdd,reduceEqDiff]
    refine ⟨(i + 1, al.set i (x.subst ns us)), ?_, ?_, 6, (false::true::true::true::false::false::true::(rp 36 false [true,true,true])), by omega, by simp only [maskFr,belowV,belowL,belowB,reduceLT,mkb], by simp only [maskFr,belowV,belowL,belowB,reduceLT,mkb], by simp [rp,maskFr, encTys_map, List.map_set, encTy_eq, tyCells]⟩
    ·exact ⟨hlt, step_list has hx⟩
    ·dsimp only; omega
   ·have hge : ¬ i < t.args.length := by simpa using hc46
    have hie : i = t.args.length := by omega
    have has2 : al = t.args.map (Ty.subst ns us) := by rw [has, hie]; simp
    subst has2
    refine ex_exit ?_
    show Go.Eng.Ex _ _ _ _ _ _
    refine ex_seq ?_
    refine ex_region_w tt_ok 79 (rp 59 0 [1,2,2,2]) [] rfl rfl fun K hK => ?_
    try simp only [ltb]
    try simp only [ltb]
    simp only [length_encTys,length_encFds,List.length_map,go_sem,reduceIte,reduceAdd,reduceLT,reduceLeDiff,reduceMul,reduceEqDiff,reduceSub,reduceCtorEq,List.take_length]
    refine hK _ _ rfl ?_
    simp only [mwb,reduceAdd,reduceEqDiff]
    refine ex_block ?_
    refine ex_loopF (fun a : Nat × List Fd => { fr := [.undef, .slice (ns.map str), .slice (encTys us), .ptr 0 0, .undef, .undef, .ptr 1 0, .undef, .undef, .undef, .undef, .undef, .undef, .undef, .undef, .undef, .undef, .undef, .undef, .undef, .undef, .undef, .undef, .undef, .undef, .undef, .undef, .undef, .undef, .undef, .undef, .undef, .undef, .undef, .undef, .undef, .undef, .undef, .undef, .undef, .undef, .undef, .undef, .undef, .undef, .undef, .undef, .undef, .undef, .undef, .undef, .undef, .undef, .undef, .undef, .undef, .undef, .undef, .undef, .undef, .ms 3 0 0 t.flds.length, num t.flds.length, num a.1, .undef, .undef, .undef, .undef, .undef, .undef, .undef, .undef, .undef, .undef, .undef, .undef, .undef, .undef, .undef, .undef], mem := [.box [num t.kind, str t.mod, str t.name, .ms 2 0 0 t.args.length, .ms 3 0 0 t.flds.length], .box [num 0, str ⟨#[]⟩, str ⟨#[]⟩, .sc (.slice none 0 0), .sc (.slice none 0 0)], .rows 0 5 (encTys (t.args.map (Ty.subst ns us))), .rows 0 7 (encFds a.2), .hole, .hole] }) (fun a => t.flds.length - a.1) (fun a => a.1 ≤ t.flds.length ∧ a.2 = (t.flds.take a.1).map (Fd.subst ns us) ++ t.flds.drop a.1) ((0, t.flds)) 6 (false::true::true::true::false::false::true::(rp 53 false [true,true,true])) (by omega) (by simp only [maskFr,belowV,belowL,belowB,reduceLT,mkb]) (by simp only [maskFr,belowV,belowL,belowB,reduceLT,mkb]) (by simp only [maskFr,belowV,belowL,belowB,reduceLT,mkb]; rfl) (⟨Nat.zero_le _, by simp⟩) ?_
    rintro ⟨i, fs⟩ ⟨hi, has⟩
    dsimp only at hi has
    dsimp only
    refine ex_region_w tt_ok 79 (rp 63 0 [2]) [] rfl rfl fun K hK => ?_
    try simp only [ltb]
    try simp only [ltb]
    simp only [length_encTys,length_encFds,List.length_map,go_sem,reduceIte,reduceAdd,reduceLT,reduceLeDiff,reduceMul,reduceEqDiff,reduceSub,reduceCtorEq,List.take_length]
    refine hK _ _ rfl ?_
    simp only [mwb,reduceAdd,reduceEqDiff]
    refine ex_seq ?_
    refine ex_if rfl (fun hc63 => ?_) (fun hc63 => ?_)
    ·have hlt : i < t.flds.length := by simpa using hc63
     rw [hc63]
     obtain ⟨f, hx⟩ : ∃ f, t.flds[i]? = some f := ⟨_, List.getElem?_eq_getElem hlt⟩
     obtain ⟨hxa, hasl⟩ := get_list has hx
     have hil : ((i : Nat) : Int) < ((t.flds.length : Nat) : Int) := by omega
     have hw := i64_succ i (by omega)
     refine ex_skip ?_
     show Go.Eng.Ex _ _ _ _ _ _
     refine ex_seq ?_
     refine ex_block ?_
     refine ex_region_w tt_ok 79 (rp 10 0 (2::2::(rp 52 0 [1,1,1]))) [] rfl rfl fun K hK => ?_
     try simp only [ltb]
     try simp only [ltb]
     simp only [hil,get_encFds,hxa,encFd_eq,encTy_eq,tyCells,hw,setRow,hasl,length_encTys,length_encFds,List.length_map,go_sem,reduceIte,reduceAdd,reduceLT,reduceLeDiff,reduceMul,reduceEqDiff,reduceSub,reduceCtorEq,List.take_length]
     refine hK _ _ rfl ?_
     simp only [mwb,reduceAdd,reduceEqDiff]
     refine ex_last_mixed_w tt_ok mixed_ok 79 [0,0,0,0,0,0,0,0,0,0,0,0,0,0,0,0,0,0,0,0,0,0,0,0,0,0,0,0,0,0,0,0,0,0,0,0,0,0,0,0,0,0,0,0,0,0,0,0,0,0,0,0,0,0,0,0,0,0,0,0,0,0,0,0,0,0,0,2,2,2,2,2,2,2,2,2,2] (by kernel_rfl) (by kernel_rfl) [⟨.n, 0, [], []⟩, ⟨.r, 0, [], [0]⟩, ⟨.n, 0, [], []⟩, ⟨.n, 0, [], []⟩, ⟨.r, 0, [], [3]⟩, ⟨.n, 0, [], []⟩, ⟨.n, 0, [], []⟩, ⟨.n, 0, [], [3,4,5,6]⟩, ⟨.r, 0, [], [0,1,2,3,4,5,6,7]⟩, ⟨.n, 0, [], [0,1,2,3,4,5,6,7,8]⟩, ⟨.w, 0, [], [0,1,2,3,4,5,6,7,8,9]⟩] 1 (by kernel_rfl) fun K hK => ?_
     try simp only [ltb,List.replicate_zero,List.replicate_succ]
     refine runM_cut 6 (by simp) (by simp) fun K1 hK1 => ?_
     try simp only [ltb]
     simp only [hil,get_encFds,hxa,encFd_eq,encTy_eq,tyCells,hw,setRow,hasl,length_encTys,length_encFds,List.length_map,go_sem,reduceIte,reduceAdd,reduceLT,reduceLeDiff,reduceMul,reduceEqDiff,reduceSub,reduceCtorEq,List.take_length,List.replicate]
     refine hK1 _ ?_
     refine runM_cut 2 (by simp) (by simp) fun K1 hK1 => ?_
     try simp only [ltb]
     simp only [hil,get_encFds,hxa,encFd_eq,encTy_eq,tyCells,hw,setRow,hasl,length_encTys,length_encFds,List.length_map,go_sem,reduceIte,reduceAdd,reduceLT,reduceLeDiff,reduceMul,reduceEqDiff,reduceSub,reduceCtorEq,List.take_length,List.replicate]
     refine callD_ex rfl (by have h := hrec f.ty (Ty.fld_part (List.mem_of_getElem? hx)); rw [encTy_eq, encTy_eq] at h; simp only [tyCells] at h; exact ⟨_, rfl, h⟩) ?_
     rintro _ rfl
     try simp only [hil,get_encFds,hxa,encFd_eq,encTy_eq,tyCells,hw,setRow,hasl,length_encTys,length_encFds,List.length_map,go_sem,reduceIte,reduceAdd,reduceLT,reduceLeDiff,reduceMul,reduceEqDiff,reduceSub,reduceCtorEq,List.take_length,List.replicate]
     refine hK1 _ ?_
     try simp only [ltb]
     simp only [hil,get_encFds,hxa,encFd_eq,encTy_eq,tyCells,hw,setRow,hasl,length_encTys,length_encFds,List.length_map,go_sem,reduceIte,reduceAdd,reduceLT,reduceLeDiff,reduceMul,reduceEqDiff,reduceSub,reduceCtorEq,List.take_length,List.replicate]
     refine hK _ _ rfl ?_
     simp only [mwb,reduceAdd,reduceEqDiff]
     show Go.Eng.Ex _ _ _ _ _ _
     refine ex_last_region_w tt_ok 79 (rp 62 0 (2::(rp 14 0 [2]))) [] (by kernel_rfl) rfl rfl fun K hK => ?_
     try simp only [ltb]
     try simp only [ltb]
     simp only [hil,get_encFds,hxa,encFd_eq,encTy_eq,tyCells,hw,setRow,hasl,length_encTys,length_encFds,List.length_map,go_sem,reduceIte,reduceAdd,reduceLT,reduceLeDiff,reduceMul,reduceEqDiff,reduceSub,reduceCtorEq,List.take_length]
     refine hK _ _ rfl ?_
     simp only [mwb,reduceAdd,reduceEqDiff]
     refine ⟨(i + 1, fs.set i (f.subst ns us)), ?_, ?_, 6, (false::true::true::true::false::false::true::(rp 53 false [true,true,true])), by omega, by simp only [maskFr,belowV,belowL,belowB,reduceLT,mkb], by simp only [maskFr,belowV,belowL,belowB,reduceLT,mkb], by simp [rp,maskFr, encFds_map, List.map_set, encFd_eq, tyCells, Fd.subst_name, Fd.subst_ty, Fd.subst_opt]⟩
     ·exact ⟨hlt, step_list has hx⟩
     ·dsimp only; omega
    ·have hge : ¬ i < t.flds.length := by simpa using hc63
     have hie : i = t.flds.length := by omega
     have has2 : fs = t.flds.map (Fd.subst ns us) := by rw [has, hie]; simp
     subst has2
     refine ex_exit ?_
     show Go.Eng.Ex _ _ _ _ _ _
     refine ex_region_w tt_ok 79 (rp 78 0 [1]) [] rfl rfl fun K hK => ?_
     try simp only [ltb]
     try simp only [ltb]
     simp only [length_encTys,length_encFds,List.length_map,go_sem,reduceIte,reduceAdd,reduceLT,reduceLeDiff,reduceMul,reduceEqDiff,reduceSub,reduceCtorEq,List.take_length]
     refine hK _ _ rfl ?_
     simp only [mwb,reduceAdd,reduceEqDiff]
     refine ex_ret ?_
     first
      | (refine ⟨.inl rfl, _, ?_, rfl⟩; rw [hTT, hsu, encTy_eq]; rfl)
      | (refine ⟨.inl rfl, .agg [num t.kind, str t.mod, str t.name, .slice (encTys (t.args.map (Ty.subst ns us))), .slice (encFds (t.flds.map (Fd.subst ns us)))], by rw [hTT, hsub]; rfl, ?_⟩; simp [retV, resL, resV, Tryz.f23, loadV, pickCells, tt25, pur, pur1, purCells, purCell, nilS, encTys_map, encFds_map, take_len_map])
theorem substNil_ok : ∀ (N : Nat) (t : Ty), t.size ≤ N → N ≤ 1048576 → FnOk Tryz.prog 23 [encTy t, .slice [], .slice []] (encTy t) := by
 intro N
 induction N with
 | zero => intro t h; have := t.size_pos; omega
 | succ N ih =>
  intro t hN hb
  have hpl := t.parts_length
  obtain ⟨_, rfl, h⟩ := subst_tot [] [] t _ rfl (by simp) (by simp) (by omega) (by omega) (fun i u h => by simp at h) fun p hp => by
   obtain ⟨i, hi⟩ := List.mem_iff_getElem?.1 hp
   have e1 := sumBy_mem Ty.size hi
   have e2 := t.size_parts
   rw [Ty.subst_nil]
   exact ih p (by omega) (by omega)
  rw [Ty.subst_nil] at h
  exact h
theorem subst_ok (ns : List ByteArray) (us : List Ty) (hnl : ns.length ≤ 1048576) (hul : us.length ≤ 1048576) (hus : ∀ u ∈ us, u.size ≤ 1048576) : ∀ (N : Nat) (t : Ty), t.size ≤ N → N ≤ 1048576 → FnOk Tryz.prog 23 [encTy t, .slice (ns.map str), .slice (encTys us)] (encTy (t.subst ns us)) := by
 intro N
 induction N with
 | zero => intro t h; have := t.size_pos; omega
 | succ N ih =>
  intro t hN hb
  have hpl := t.parts_length
  obtain ⟨_, rfl, h⟩ := subst_tot ns us t _ rfl hnl hul (by omega) (by omega) (fun i u h => substNil_ok u.size u (Nat.le_refl _) (hus u (List.mem_of_getElem? h))) fun p hp => by
   obtain ⟨i, hi⟩ := List.mem_iff_getElem?.1 hp
   have e1 := sumBy_mem Ty.size hi
   have e2 := t.size_parts
   exact ih p (by omega) (by omega)
  exact h
end Go.Proofs.YtpjdfcigadnhcaaGreatDoor
end

section
namespace Go.Proofs.YtpjdfcigadnhcaaGreatDoor
open Go.Eng
variable [Glob]
set_option maxHeartbeats 4000000
set_option maxRecDepth 100000
attribute [local irreducible] runM stepM valD stepOp stepD callF callS
theorem subst_keep {ns : List ByteArray} {us : List Ty} {t : Ty} (h : t.kind = 9 → pickT ns us t.name = none) : t.subst ns us = .mk t.kind t.mod t.name (t.args.map (Ty.subst ns us)) (t.flds.map (Fd.subst ns us)) := by
 rw [t.subst_eq]
 split
 ·rename_i u hu
  split at hu
  ·rename_i h9; rw [h h9] at hu; cases hu
  ·cases hu
 ·rfl
end Go.Proofs.YtpjdfcigadnhcaaGreatDoor
end
