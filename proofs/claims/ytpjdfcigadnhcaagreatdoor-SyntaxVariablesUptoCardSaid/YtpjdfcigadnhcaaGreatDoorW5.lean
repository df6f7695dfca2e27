/-
  WHAT A TREE'S NODES NAME, gathered in order: the plain law.
  CONTRACTS: Insert, Free of the reference.
  CONTRACTS: Free of the reference.
  CONTRACTS: InsertUse, Mentions of the reference.
  CONTRACTS: slices.Index, Contains, Clone.
  CONTRACTS: Substitute.
  CONTRACTS: Substitute of the reference.
  CONTRACTS: the range over the nodes of a type, with what is known of each node.
  MAPS OF USES: what the set of a type's references comes to.
  CONTRACTS: a range over the keys of a map of uses.
-/
import Derived.Test.YtpjdfcigadnhcaaGreatDoorW4
import Derived.Sort.Walk0
set_option linter.all false
section
namespace Go.Proofs.YtpjdfcigadnhcaaGreatDoor
open Go.Eng
variable [Glob]
structure Lin {α : Type} (lt : α → α → Bool) : Prop where
 irrefl : ∀ x, lt x x = false
 trans : ∀ x y z, lt x y = true → lt y z = true → lt x z = true
 tri : ∀ x y, lt x y = false → lt y x = false → x = y
section
variable {α : Type} [DecidableEq α] {lt : α → α → Bool}
theorem Lin.asymm (h : Lin lt) {x y : α} (hx : lt x y = true) : lt y x = false := by
 cases hy : lt y x with
 | false => rfl
 | true => have := h.trans x y x hx hy; rw [h.irrefl] at this; cases this
def insL (lt : α → α → Bool) : List α → α → List α
 | [], s => [s]
 | a :: r, s => if lt a s = true then a :: insL lt r s else if a = s then a :: r else s :: a :: r
def Asc (lt : α → α → Bool) (l : List α) : Prop := l.Pairwise fun a b => lt a b = true
theorem insL_mem {s : α} : ∀ {l : List α} {x : α}, x ∈ insL lt l s ↔ x = s ∨ x ∈ l
 | [], x => by simp [insL]
 | a :: r, x => by
  unfold insL
  split
  ·rw [List.mem_cons, insL_mem, List.mem_cons]
   constructor
   ·rintro (h | h | h)
    ·exact .inr (.inl h)
    ·exact .inl h
    ·exact .inr (.inr h)
   ·rintro (h | h | h)
    ·exact .inr (.inl h)
    ·exact .inl h
    ·exact .inr (.inr h)
  ·split
   ·rename_i h; subst h
    constructor
    ·exact .inr
    ·rintro (rfl | h)
     ·exact List.mem_cons_self ..
     ·exact h
   ·simp
theorem insL_asc (h : Lin lt) {s : α} : ∀ {l : List α}, Asc lt l → Asc lt (insL lt l s)
 | [], _ => by simp [insL, Asc]
 | a :: r, hl => by
  have h1 := List.pairwise_cons.1 hl
  unfold insL
  split
  ·rename_i ha
   refine List.pairwise_cons.2 ⟨fun b hb => ?_, insL_asc h h1.2⟩
   rcases insL_mem.1 hb with rfl | hb
   ·exact ha
   ·exact h1.1 b hb
  ·rename_i ha
   split
   ·exact hl
   ·rename_i he
    have hs : lt s a = true := by
     cases hsa : lt s a with
     | true => rfl
     | false => exact absurd (h.tri a s (by simpa using ha) hsa) he
    refine List.pairwise_cons.2 ⟨fun b hb => ?_, hl⟩
    rcases List.mem_cons.1 hb with rfl | hb
    ·exact hs
    ·exact h.trans _ _ _ hs (h1.1 b hb)
theorem Asc.ext (h : Lin lt) : ∀ {l m : List α}, Asc lt l → Asc lt m → (∀ x, x ∈ l ↔ x ∈ m) → l = m
 | [], [], _, _, _ => rfl
 | [], b :: r, _, _, he => by have := (he b).2 (List.mem_cons_self ..); simp at this
 | a :: r, [], _, _, he => by have := (he a).1 (List.mem_cons_self ..); simp at this
 | a :: r, b :: t, hl, hm, he => by
  have h1 := List.pairwise_cons.1 hl
  have h2 := List.pairwise_cons.1 hm
  have hab : a = b := by
   rcases List.mem_cons.1 ((he a).1 (List.mem_cons_self ..)) with e | ha
   ·exact e
   ·rcases List.mem_cons.1 ((he b).2 (List.mem_cons_self ..)) with e | hb
    ·exact e.symm
    ·have q1 := h2.1 a ha
     have q2 := h.asymm (h1.1 b hb)
     rw [q1] at q2; cases q2
  subst hab
  rw [Asc.ext h h1.2 h2.2 fun x => ?_]
  constructor
  ·intro hx
   rcases List.mem_cons.1 ((he x).1 (List.mem_cons_of_mem _ hx)) with rfl | hx'
   ·have := h1.1 x hx; rw [h.irrefl] at this; cases this
   ·exact hx'
  ·intro hx
   rcases List.mem_cons.1 ((he x).2 (List.mem_cons_of_mem _ hx)) with rfl | hx'
   ·have := h2.1 x hx; rw [h.irrefl] at this; cases this
   ·exact hx'
theorem insL_at {s : α} : ∀ {l : List α} {i : Nat}, (∀ j < i, ∀ b, l[j]? = some b → lt b s = true) → i ≤ l.length →
  (∀ b, l[i]? = some b → lt b s = false) → insL lt l s = if l[i]? = some s then l else l.take i ++ [s] ++ l.drop i
 | [], i, _, hi, _ => by
  have : i = 0 := by simpa using hi
  subst this; simp [insL]
 | a :: r, 0, _, _, hb => by
  have h0 := hb a rfl
  unfold insL
  rw [if_neg (by rw [h0]; simp)]
  by_cases he : a = s
  ·subst he; simp
  ·rw [if_neg he, if_neg (by simpa using he)]; simp
 | a :: r, i + 1, hj, hi, hb => by
  have h0 := hj 0 (by omega) a rfl
  have ih := insL_at (l := r) (i := i) (fun j hj' b hb' => hj (j + 1) (by omega) b (by simpa using hb')) (by simpa using hi) fun b hb' => hb b (by simpa using hb')
  unfold insL
  rw [if_pos h0, ih]
  simp only [List.getElem?_cons_succ,List.take_succ_cons,List.drop_succ_cons]
  split
  ·rfl
  ·rfl
def insAll (lt : α → α → Bool) (l m : List α) : List α := m.foldl (insL lt) l
theorem insAll_mem : ∀ {m l : List α} {x : α}, x ∈ insAll lt l m ↔ x ∈ l ∨ x ∈ m
 | [], l, x => by simp [insAll]
 | s :: m, l, x => by
  show x ∈ insAll lt (insL lt l s) m ↔ _
  rw [insAll_mem, insL_mem, List.mem_cons]
  constructor
  ·rintro ((h | h) | h)
   ·exact .inr (.inl h)
   ·exact .inl h
   ·exact .inr (.inr h)
  ·rintro (h | h | h)
   ·exact .inl (.inr h)
   ·exact .inl (.inl h)
   ·exact .inr h
theorem insAll_asc (h : Lin lt) : ∀ {m l : List α}, Asc lt l → Asc lt (insAll lt l m)
 | [], _, hl => hl
 | s :: m, l, hl => insAll_asc (m := m) (l := insL lt l s) h (insL_asc h hl)
mutual
def gathT (lt : α → α → Bool) (f : Ty → List α) : Ty → List α
 | .mk k m n ts fs => gathF lt f (gathL lt f (f (.mk k m n ts fs)) ts) fs
def gathL (lt : α → α → Bool) (f : Ty → List α) (out : List α) : List Ty → List α
 | [] => out
 | t :: r => gathL lt f (insAll lt out (gathT lt f t)) r
def gathF (lt : α → α → Bool) (f : Ty → List α) (out : List α) : List Fd → List α
 | [] => out
 | .mk _ t _ :: r => gathF lt f (insAll lt out (gathT lt f t)) r
end
theorem gathL_fold (f : Ty → List α) : ∀ (ts : List Ty) (out : List α), gathL lt f out ts = ts.foldl (fun o p => insAll lt o (gathT lt f p)) out
 | [], out => by simp [gathL]
 | t :: r, out => by simp [gathL, gathL_fold f r]
theorem gathF_fold (f : Ty → List α) : ∀ (fs : List Fd) (out : List α), gathF lt f out fs = (fs.map Fd.ty).foldl (fun o p => insAll lt o (gathT lt f p)) out
 | [], out => by simp [gathF]
 | .mk n t o :: r, out => by simp [gathF, gathF_fold f r, Fd.ty]
theorem gathT_eq (f : Ty → List α) (t : Ty) : gathT lt f t = t.parts.foldl (fun o p => insAll lt o (gathT lt f p)) (f t) := by
 obtain ⟨k, m, n, ts, fs⟩ := t
 rw [gathT, gathF_fold, gathL_fold]
 simp only [Ty.parts,Ty.args,Ty.flds,List.foldl_append]
theorem foldl_gath_mem {f : Ty → List α} : ∀ {ps : List Ty} {out : List α} {x : α}, x ∈ ps.foldl (fun o p => insAll lt o (gathT lt f p)) out ↔ x ∈ out ∨ ∃ p ∈ ps, x ∈ gathT lt f p
 | [], out, x => by simp
 | p :: r, out, x => by
  rw [List.foldl_cons, foldl_gath_mem, insAll_mem]
  simp only [List.mem_cons,exists_eq_or_imp,or_assoc]
theorem foldl_gath_asc (h : Lin lt) {f : Ty → List α} : ∀ {ps : List Ty} {out : List α}, Asc lt out → Asc lt (ps.foldl (fun o p => insAll lt o (gathT lt f p)) out)
 | [], _, ho => ho
 | p :: r, out, ho => foldl_gath_asc (ps := r) (out := insAll lt out (gathT lt f p)) h (insAll_asc h ho)
theorem gathT_mem {f : Ty → List α} {x : α} : ∀ t : Ty, x ∈ gathT lt f t ↔ ∃ u ∈ t.nodes, x ∈ f u := by
 refine Ty.induct fun t ih => ?_
 rw [gathT_eq, foldl_gath_mem, t.nodes_eq]
 constructor
 ·rintro (h | ⟨p, hp, h⟩)
  ·exact ⟨t, List.mem_cons_self .., h⟩
  ·obtain ⟨u, hu, hx⟩ := (ih p hp).1 h
   exact ⟨u, List.mem_cons_of_mem _ (List.mem_flatMap.2 ⟨p, hp, hu⟩), hx⟩
 ·rintro ⟨u, hu, hx⟩
  rcases List.mem_cons.1 hu with rfl | hu
  ·exact .inl hx
  ·obtain ⟨p, hp, hu⟩ := List.mem_flatMap.1 hu
   exact .inr ⟨p, hp, (ih p hp).2 ⟨u, hu, hx⟩⟩
theorem gathT_asc (h : Lin lt) {f : Ty → List α} (hf : ∀ t, (f t).length ≤ 1) (t : Ty) : Asc lt (gathT lt f t) := by
 rw [gathT_eq]
 refine foldl_gath_asc h ?_
 have := hf t
 match f t, this with
 | [], _ => exact List.Pairwise.nil
 | [a], _ => exact List.pairwise_singleton _ _
 | _ :: _ :: _, h => simp at h
theorem insL_length {s : α} : ∀ {l : List α}, (insL lt l s).length ≤ l.length + 1
 | [] => by simp [insL]
 | a :: r => by
  unfold insL
  split
  ·have := insL_length (s := s) (l := r); simp only [List.length_cons]; omega
  ·split <;> simp
theorem insAll_length : ∀ {m l : List α}, (insAll lt l m).length ≤ l.length + m.length
 | [], l => by simp [insAll]
 | s :: m, l => by
  have h1 := insAll_length (m := m) (l := insL lt l s)
  have h2 := insL_length (lt := lt) (s := s) (l := l)
  show (insAll lt (insL lt l s) m).length ≤ _
  rw [List.length_cons]; omega
theorem foldl_gath_length {f : Ty → List α} : ∀ {ps : List Ty} {out : List α} , (∀ p ∈ ps, (gathT lt f p).length ≤ p.size) → (ps.foldl (fun o p => insAll lt o (gathT lt f p)) out).length ≤ out.length + sumBy Ty.size ps
 | [], out, _ => by simp [sumBy]
 | p :: r, out, h => by
  have h1 := foldl_gath_length (ps := r) (out := insAll lt out (gathT lt f p)) fun q hq => h q (List.mem_cons_of_mem _ hq)
  have h2 := insAll_length (lt := lt) (m := gathT lt f p) (l := out)
  have h3 := h p (List.mem_cons_self ..)
  rw [List.foldl_cons]
  simp only [sumBy]
  omega
theorem gathT_length {f : Ty → List α} (hf : ∀ t, (f t).length ≤ 1) : ∀ t : Ty, (gathT lt f t).length ≤ t.size := by
 refine Ty.induct fun t ih => ?_
 rw [gathT_eq, t.size_parts]
 have := foldl_gath_length (lt := lt) (out := f t) ih
 have := hf t
 omega
end
end Go.Proofs.YtpjdfcigadnhcaaGreatDoor
end

section
namespace Go.Proofs.YtpjdfcigadnhcaaGreatDoor
open Go.Eng
open Nat (reduceAdd reduceLT reduceLeDiff reduceMul reduceEqDiff reduceSub)
variable [Glob]
set_option maxHeartbeats 4000000
set_option maxRecDepth 100000
attribute [local irreducible] runM stepM valD stepOp stepD callF callS
theorem cutTo2 {α : Type} (l : List α) (f : α → V) (size : Nat) (hs : ∀ a, (f a).cells.length = size) (i : Nat) (hi : i ≤ l.length) (mem : List Blk) : cutAt mem size 0 (some (i : Int)) (.slice (l.map f)) = some (.slice ((l.take i).map f)) := by
 unfold cutAt
 have h1 : firstOk (l.map f) (0 : Int).toNat size = true := by
  unfold firstOk; split
  ·rename_i h; rw [List.getElem?_map, Option.map_eq_some_iff] at h; obtain ⟨t, -, rfl⟩ := h; simp [hs]
  ·rfl
 dsimp only
 rw [if_pos ⟨Int.le_refl _, by simp, by simpa using hi, h1⟩]
 simp [List.map_take]
theorem cutFrom2 {α : Type} (l : List α) (f : α → V) (size : Nat) (hs : ∀ a, (f a).cells.length = size) (i : Nat) (hi : i ≤ l.length) (mem : List Blk) : cutAt mem size (i : Int) none (.slice (l.map f)) = some (.slice ((l.drop i).map f)) := by
 unfold cutAt
 have h1 : firstOk (l.map f) (i : Int).toNat size = true := by
  unfold firstOk; split
  ·rename_i h; rw [List.getElem?_map, Option.map_eq_some_iff] at h; obtain ⟨t, -, rfl⟩ := h; simp [hs]
  ·rfl
 dsimp only
 rw [if_pos ⟨Int.natCast_nonneg _, by simpa using hi, by simp, h1⟩]
 congr 2
 rw [← List.map_drop, Int.toNat_natCast]
 refine List.take_of_length_le ?_
 simp only [Option.getD_none,List.length_map,List.length_drop]
 omega
theorem firstMap {α : Type} (l : List α) (f : α → V) (size : Nat) (hs : ∀ a, (f a).cells.length = size) : firstOk (l.map f) 0 size = true := by
 unfold firstOk; split
 ·rename_i h; rw [List.getElem?_map, Option.map_eq_some_iff] at h; obtain ⟨t, -, rfl⟩ := h; simp [hs]
 ·rfl
theorem insLen {α : Type} (l : List α) (i : Nat) (a b : Nat) : (l.take i).length + (1 + (l.drop i).length) = (l.take i).length + 1 + (l.drop i).length := by omega
theorem ltS_eq (a b : ByteArray) : ltS a b = decide (a.data.toList < b.data.toList) := by
 unfold ltS
 rw [Proofs.bytesLess_eq, ByteArray.toList_eq, ByteArray.toList_eq]
theorem lin_str : Lin ltS := by
 refine ⟨fun x => ?_, fun x y z h1 h2 => ?_, fun x y h1 h2 => ?_⟩
 ·rw [ltS_eq]; exact decide_eq_false (List.lt_irrefl _)
 ·rw [ltS_eq] at *
  exact decide_eq_true (List.lt_trans (of_decide_eq_true h1) (of_decide_eq_true h2))
 ·rw [ltS_eq] at h1 h2
  have h1 := of_decide_eq_false h1
  have h2 := of_decide_eq_false h2
  have := List.le_antisymm (List.not_lt.1 h2) (List.not_lt.1 h1)
  exact ByteArray.ext (Array.toList_inj.1 this)
theorem insert_ex (l : List ByteArray) (s : ByteArray) (hl : l.length ≤ 1048576) : ∃ r, (fun v => v = .slice ((insL ltS l s).map str)) r ∧ FnOk Tryz.prog 80 [.slice (l.map str), str s] r := by
 refine fn_ex tt_ok (fn := Tryz.f80) Tryz.func80 rfl Tryz.call80 ?_
 simp only [ltb,startSt,Tryz.ntmps80,List.length_cons,List.length_nil,reduceAdd,reduceSub,List.replicate_succ,List.replicate_zero]
 refine ex_region_w tt_ok 45 [0,0,0,0,2] [] rfl rfl fun K hK => ?_
 try simp only [ltb]
 try simp only [ltb]
 simp only [List.length_map,go_sem,reduceIte,reduceAdd,reduceLT,reduceLeDiff,reduceMul,reduceEqDiff,reduceSub,reduceCtorEq,List.take_length]
 refine hK _ _ rfl ?_
 simp only [mwb,reduceAdd,reduceEqDiff]
 refine ex_region_w tt_ok 45 [0,0,0,0,0,2] [] rfl rfl fun K hK => ?_
 try simp only [ltb]
 try simp only [ltb]
 simp only [List.length_map,go_sem,reduceIte,reduceAdd,reduceLT,reduceLeDiff,reduceMul,reduceEqDiff,reduceSub,reduceCtorEq,List.take_length]
 refine hK _ _ rfl ?_
 simp only [mwb,reduceAdd,reduceEqDiff]
 refine ex_seq_joinK [5] 0 [true,true,false,false,true,true] (fun vs => ∃ i : Nat, vs = [num i] ∧ i ≤ l.length ∧ (∀ j < i, ∀ b, l[j]? = some b → ltS b s = true) ∧ ∀ b, l[i]? = some b → ltS b s = false) ?_ ?_
 ·refine ex_block ?_
  refine ex_loopK [5] [num 0] 0 [true,true,false,false,true,true] (fun vs => ((l.length : Int) - intOf (vs.headD .undef)).toNat) (fun vs => ∃ i : Nat, vs = [num i] ∧ i ≤ l.length ∧ ∀ j < i, ∀ b, l[j]? = some b → ltS b s = true) (by omega) (by simp only [maskFr,belowV,belowL,belowB,reduceLT,mkb]) (by simp only [maskFr,belowV,belowL,belowB,reduceLT,mkb]) (by rfl) (⟨0, rfl, Nat.zero_le _, fun j hj => absurd hj (Nat.not_lt_zero j)⟩) fun vs hI => ?_
  obtain ⟨i, rfl, hi, hno⟩ := hI
  simp only [maskFr,belowV,belowL,belowB,reduceLT,putAll,List.set_cons_zero,List.set_cons_succ,mkb]
  refine ex_seq ?_
  refine ex_region_w tt_ok 45 [0,0,0,0,0,0,1,1,1,1,1,1,1,1,1,1,1,2] [(4, 10)] rfl rfl fun K hK => ?_
  try simp only [ltb]
  refine runX_cut 5 fun K1 hK1 => ?_
  simp only [ltb]
  simp only [List.length_map,go_sem,reduceIte,reduceAdd,reduceLT,reduceLeDiff,reduceMul,reduceEqDiff,reduceSub,reduceCtorEq,List.take_length]
  refine hK1 _ ?_
  refine runX_case 10 (by rfl) fun b hb2_4 => ?_
  cases b
  ·have hge : ∀ b, l[i]? = some b → ltS b s = false := fun b hb => by have := (List.getElem?_eq_some_iff.1 hb).1; have := of_decide_eq_false hb2_4; omega
   try simp only [ltb]
   simp only [List.length_map,go_sem,reduceIte,reduceAdd,reduceLT,reduceLeDiff,reduceMul,reduceEqDiff,reduceSub,reduceCtorEq,List.take_length]
   refine hK _ _ rfl ?_
   simp only [mwb,reduceAdd,reduceEqDiff]
   refine ex_cond rfl ?_
   refine ex_exit ?_
   refine ⟨[_], ?_, 0, [true,true,false,false,true,true], by omega, by simp only [maskFr,belowV,belowL,belowB,reduceLT,mkb], by simp only [maskFr,belowV,belowL,belowB,reduceLT,mkb], by simp only [maskFr,belowV,belowL,belowB,reduceLT,putAll,List.set_cons_zero,List.set_cons_succ,mkb]; rfl⟩
   exact ⟨i, rfl, hi, hno, hge⟩
  ·have hlt : i < l.length := by have := of_decide_eq_true hb2_4; omega
   obtain ⟨x, hx⟩ : ∃ x, l[i]? = some x := ⟨_, List.getElem?_eq_getElem hlt⟩
   have hw := i64_succ i (by omega)
   try simp only [ltb]
   simp only [List.getElem?_map,hx,hw,List.length_map,go_sem,reduceIte,reduceAdd,reduceLT,reduceLeDiff,reduceMul,reduceEqDiff,reduceSub,reduceCtorEq,List.take_length]
   refine hK _ _ rfl ?_
   simp only [mwb,reduceAdd,reduceEqDiff]
   refine ex_if rfl (fun hc17 => ?_) (fun hc17 => ?_)
   ·have hxs : ltS x s = true := by simpa [ltS] using hc17
    refine ex_skip ?_
    show Go.Eng.Ex _ _ _ _ _ _
    refine ex_block ?_
    refine ex_last_region_w tt_ok 45 (0::0::0::0::0::2::(rp 12 0 [2,2])) [] (by kernel_rfl) rfl rfl fun K hK => ?_
    try simp only [ltb]
    try simp only [ltb]
    simp only [List.getElem?_map,hx,hw,List.length_map,go_sem,reduceIte,reduceAdd,reduceLT,reduceLeDiff,reduceMul,reduceEqDiff,reduceSub,reduceCtorEq,List.take_length]
    refine hK _ _ rfl ?_
    simp only [mwb,reduceAdd,reduceEqDiff]
    refine ⟨[_], ?_, ?_, 0, [true,true,false,false,true,true], by omega, by simp only [maskFr,belowV,belowL,belowB,reduceLT,mkb], by simp only [maskFr,belowV,belowL,belowB,reduceLT,mkb], by simp only [maskFr,belowV,belowL,belowB,reduceLT,putAll,List.set_cons_zero,List.set_cons_succ,mkb]; rfl⟩
    ·refine ⟨i + 1, rfl, hlt, fun j hj b hb => ?_⟩
     rcases Nat.lt_or_ge j i with h | h
     ·exact hno j h b hb
     ·obtain rfl : j = i := by omega
      rw [hx] at hb; cases hb; exact hxs
    ·simp only [intOf,List.headD_cons]; omega
   ·have hge : ∀ b, l[i]? = some b → ltS b s = false := fun b hb => by rw [hx] at hb; cases hb; simpa [ltS] using hc17
    refine ex_exit ?_
    refine ⟨[_], ?_, 0, [true,true,false,false,true,true], by omega, by simp only [maskFr,belowV,belowL,belowB,reduceLT,mkb], by simp only [maskFr,belowV,belowL,belowB,reduceLT,mkb], by simp only [maskFr,belowV,belowL,belowB,reduceLT,putAll,List.set_cons_zero,List.set_cons_succ,mkb]; rfl⟩
    exact ⟨i, rfl, hi, hno, hge⟩
 ·intro vs hJ
  obtain ⟨i, rfl, hi, hno, hge⟩ := hJ
  have hins := insL_at hno hi hge
  simp only [maskFr,belowV,belowL,belowB,reduceLT,putAll,List.set_cons_zero,List.set_cons_succ,mkb]
  refine ex_seq ?_
  refine ex_region_w tt_ok 45 (rp 20 0 (rp 11 1 [2])) [(4, 24)] rfl rfl fun K hK => ?_
  try simp only [ltb]
  refine runX_cut 5 fun K1 hK1 => ?_
  simp only [ltb]
  simp only [List.length_map,go_sem,reduceIte,reduceAdd,reduceLT,reduceLeDiff,reduceMul,reduceEqDiff,reduceSub,reduceCtorEq,List.take_length]
  refine hK1 _ ?_
  refine runX_case 24 (by rfl) fun b hb4_4 => ?_
  cases b
  ·have hns : ¬ l[i]? = some s := fun h => by have := (List.getElem?_eq_some_iff.1 h).1; have := of_decide_eq_false hb4_4; omega
   have hres : (V.slice (((l.take i) ++ [s] ++ (l.drop i)).map str)) = .slice ((insL ltS l s).map str) := by rw [hins, if_neg hns]
   try simp only [ltb]
   simp only [List.length_map,go_sem,reduceIte,reduceAdd,reduceLT,reduceLeDiff,reduceMul,reduceEqDiff,reduceSub,reduceCtorEq,List.take_length]
   refine hK _ _ rfl ?_
   simp only [mwb,reduceAdd,reduceEqDiff]
   refine ex_cond rfl ?_
   refine ex_skip ?_
   show Go.Eng.Ex _ _ _ _ _ _
   have hc1 := fun mem => cutTo2 l str 1 (fun _ => rfl) i hi mem
   have hc2 := fun mem => cutFrom2 l str 1 (fun _ => rfl) i hi mem
   have hf1 := fun (k : List ByteArray) => firstMap k str 1 (fun _ => rfl)
   have hf2 : firstOk [V.sc (.string s)] 0 1 = true := rfl
   have hle1 : (l.take i).length ≤ 34359738368 := by rw [List.length_take]; omega
   have hle2 : (l.take i).length + 1 ≤ 34359738368 := by rw [List.length_take]; omega
   have hle3 : (l.take i).length + 1 + (l.drop i).length ≤ 34359738368 := by rw [List.length_take, List.length_drop]; omega
   refine ex_mixed_w tt_ok mixed_ok 45 [0,0,0,0,2,0,0,0,0,0,0,0,0,0,0,0,0,0,0,0,0,0,0,0,0,0,0,0,0,0,0,0,0,1,1,1,1,1,1,1,1,1,1,1,1] (by kernel_rfl) [⟨.a, 0, [], []⟩, ⟨.n, 0, [], []⟩, ⟨.n, 0, [], []⟩, ⟨.r, 0, [0], [1,2]⟩, ⟨.w, 1, [], [0,1,2,3]⟩, ⟨.n, 0, [], []⟩, ⟨.n, 0, [], [5]⟩, ⟨.w, 2, [], [0,1,2,3,4,5,6]⟩, ⟨.n, 0, [], []⟩, ⟨.n, 0, [], []⟩, ⟨.n, 0, [], [8,9]⟩, ⟨.w, 3, [], [0,1,2,3,4,5,6,7,8,9,10]⟩, ⟨.n, 0, [], [0,1,2,3,4,5,6,7,8,9,10,11]⟩] 4 (by kernel_rfl) fun K hK => ?_
   try simp only [ltb,List.replicate_zero,List.replicate_succ]
   refine runM_cut 6 (by simp) (by simp) fun K1 hK1 => ?_
   try simp only [ltb]
   simp only [hc1,hc2,hf1,hf2,List.length_append,List.length_cons,List.length_nil,Nat.zero_add,hle1,hle2,hle3,hle1,List.length_map,go_sem,reduceIte,reduceAdd,reduceLT,reduceLeDiff,reduceMul,reduceEqDiff,reduceSub,reduceCtorEq,List.take_length,List.replicate]
   refine hK1 _ ?_
   refine runM_cut 6 (by simp) (by simp) fun K1 hK1 => ?_
   try simp only [ltb]
   simp only [hc1,hc2,hf1,hf2,List.length_append,List.length_cons,List.length_nil,Nat.zero_add,hle1,hle2,hle3,hle1,List.length_map,go_sem,reduceIte,reduceAdd,reduceLT,reduceLeDiff,reduceMul,reduceEqDiff,reduceSub,reduceCtorEq,List.take_length,List.replicate]
   refine hK1 _ ?_
   try simp only [ltb]
   simp only [hc1,hc2,hf1,hf2,List.length_append,List.length_cons,List.length_nil,Nat.zero_add,hle1,hle2,hle3,hle1,List.length_map,go_sem,reduceIte,reduceAdd,reduceLT,reduceLeDiff,reduceMul,reduceEqDiff,reduceSub,reduceCtorEq,List.take_length,List.replicate]
   refine hK _ _ rfl ?_
   simp only [mwb,reduceAdd,reduceEqDiff]
   refine ex_ret ?_
   first | exact ⟨.inl rfl, _, hres, rfl⟩ | (refine ⟨.inl rfl, _, rfl, ?_⟩; rw [← hres]; simp [retV, resL, resV, Tryz.f80, pur, pur1, purCell, insLen]; exact ⟨by omega, List.take_of_length_le (by simp; omega)⟩)
  ·have hlt : i < l.length := by have := of_decide_eq_true hb4_4; omega
   obtain ⟨x, hx⟩ : ∃ x, l[i]? = some x := ⟨_, List.getElem?_eq_getElem hlt⟩
   try simp only [ltb]
   simp only [List.getElem?_map,hx,List.length_map,go_sem,reduceIte,reduceAdd,reduceLT,reduceLeDiff,reduceMul,reduceEqDiff,reduceSub,reduceCtorEq,List.take_length]
   refine hK _ _ rfl ?_
   simp only [mwb,reduceAdd,reduceEqDiff]
   refine ex_if rfl (fun hc31 => ?_) (fun hc31 => ?_)
   ·have hxs : x = s := by have h := hc31; rw [str_beq] at h; simpa using h
    have hres : V.slice (l.map str) = .slice ((insL ltS l s).map str) := by rw [hins, if_pos (by rw [hx, hxs])]
    refine ex_region_w tt_ok 45 (0::0::0::0::2::(rp 27 0 [1])) [] rfl rfl fun K hK => ?_
    try simp only [ltb]
    try simp only [ltb]
    simp only [List.getElem?_map,hx,List.length_map,go_sem,reduceIte,reduceAdd,reduceLT,reduceLeDiff,reduceMul,reduceEqDiff,reduceSub,reduceCtorEq,List.take_length]
    refine hK _ _ rfl ?_
    simp only [mwb,reduceAdd,reduceEqDiff]
    refine ex_ret ?_
    first | exact ⟨.inl rfl, _, hres, rfl⟩ | (refine ⟨.inl rfl, _, rfl, ?_⟩; rw [← hres]; simp [retV, resL, resV, Tryz.f80, pur, pur1, purCell, insLen]; exact ⟨by omega, List.take_of_length_le (by simp; omega)⟩)
   ·have hxs : ¬ x = s := by have h := hc31; rw [str_beq] at h; simpa using h
    have hns : ¬ l[i]? = some s := by rw [hx]; exact fun e => hxs (Option.some.inj e)
    have hres : (V.slice (((l.take i) ++ [s] ++ (l.drop i)).map str)) = .slice ((insL ltS l s).map str) := by rw [hins, if_neg hns]
    refine ex_skip ?_
    show Go.Eng.Ex _ _ _ _ _ _
    have hc1 := fun mem => cutTo2 l str 1 (fun _ => rfl) i hi mem
    have hc2 := fun mem => cutFrom2 l str 1 (fun _ => rfl) i hi mem
    have hf1 := fun (k : List ByteArray) => firstMap k str 1 (fun _ => rfl)
    have hf2 : firstOk [V.sc (.string s)] 0 1 = true := rfl
    have hle1 : (l.take i).length ≤ 34359738368 := by rw [List.length_take]; omega
    have hle2 : (l.take i).length + 1 ≤ 34359738368 := by rw [List.length_take]; omega
    have hle3 : (l.take i).length + 1 + (l.drop i).length ≤ 34359738368 := by rw [List.length_take, List.length_drop]; omega
    refine ex_mixed_w tt_ok mixed_ok 45 [0,0,0,0,2,0,0,0,0,0,0,0,0,0,0,0,0,0,0,0,0,0,0,0,0,0,0,0,0,0,0,0,0,1,1,1,1,1,1,1,1,1,1,1,1] (by kernel_rfl) [⟨.a, 0, [], []⟩, ⟨.n, 0, [], []⟩, ⟨.n, 0, [], []⟩, ⟨.r, 0, [0], [1,2]⟩, ⟨.w, 1, [], [0,1,2,3]⟩, ⟨.n, 0, [], []⟩, ⟨.n, 0, [], [5]⟩, ⟨.w, 2, [], [0,1,2,3,4,5,6]⟩, ⟨.n, 0, [], []⟩, ⟨.n, 0, [], []⟩, ⟨.n, 0, [], [8,9]⟩, ⟨.w, 3, [], [0,1,2,3,4,5,6,7,8,9,10]⟩, ⟨.n, 0, [], [0,1,2,3,4,5,6,7,8,9,10,11]⟩] 4 (by kernel_rfl) fun K hK => ?_
    try simp only [ltb,List.replicate_zero,List.replicate_succ]
    refine runM_cut 6 (by simp) (by simp) fun K1 hK1 => ?_
    try simp only [ltb]
    simp only [List.getElem?_map,hx,hc1,hc2,hf1,hf2,List.length_append,List.length_cons,List.length_nil,Nat.zero_add,hle1,hle2,hle3,hle1,List.length_map,go_sem,reduceIte,reduceAdd,reduceLT,reduceLeDiff,reduceMul,reduceEqDiff,reduceSub,reduceCtorEq,List.take_length,List.replicate]
    refine hK1 _ ?_
    refine runM_cut 6 (by simp) (by simp) fun K1 hK1 => ?_
    try simp only [ltb]
    simp only [List.getElem?_map,hx,hc1,hc2,hf1,hf2,List.length_append,List.length_cons,List.length_nil,Nat.zero_add,hle1,hle2,hle3,hle1,List.length_map,go_sem,reduceIte,reduceAdd,reduceLT,reduceLeDiff,reduceMul,reduceEqDiff,reduceSub,reduceCtorEq,List.take_length,List.replicate]
    refine hK1 _ ?_
    try simp only [ltb]
    simp only [List.getElem?_map,hx,hc1,hc2,hf1,hf2,List.length_append,List.length_cons,List.length_nil,Nat.zero_add,hle1,hle2,hle3,hle1,List.length_map,go_sem,reduceIte,reduceAdd,reduceLT,reduceLeDiff,reduceMul,reduceEqDiff,reduceSub,reduceCtorEq,List.take_length,List.replicate]
    refine hK _ _ rfl ?_
    simp only [mwb,reduceAdd,reduceEqDiff]
    refine ex_ret ?_
    first | exact ⟨.inl rfl, _, hres, rfl⟩ | (refine ⟨.inl rfl, _, rfl, ?_⟩; rw [← hres]; simp [retV, resL, resV, Tryz.f80, pur, pur1, purCell, insLen]; exact ⟨by omega, List.take_of_length_le (by simp; omega)⟩)
end Go.Proofs.YtpjdfcigadnhcaaGreatDoor
end

section
namespace Go.Proofs.YtpjdfcigadnhcaaGreatDoor
open Go.Eng
open Nat (reduceAdd reduceLT reduceLeDiff reduceMul reduceEqDiff reduceSub)
variable [Glob]
set_option maxHeartbeats 4000000
set_option maxRecDepth 100000
attribute [local irreducible] runM stepM valD stepOp stepD callF callS
def nmOf (k : Int) (t : Ty) : List ByteArray := if t.kind = k then [t.name] else []
theorem nmOf_len (k : Int) (t : Ty) : (nmOf k t).length ≤ 1 := by unfold nmOf; split <;> simp
section
variable {α : Type} [DecidableEq α] (lt : α → α → Bool) (f : Ty → List α)
def gathI (t : Ty) (i : Nat) : List α := (t.parts.take i).foldl (fun o p => insAll lt o (gathT lt f p)) (f t)
theorem gathI_zero (t : Ty) : gathI lt f t 0 = f t := by simp [gathI]
theorem gathI_succ {t p : Ty} {i : Nat} (h : t.parts[i]? = some p) : gathI lt f t (i + 1) = insAll lt (gathI lt f t i) (gathT lt f p) := by
 unfold gathI
 rw [List.take_add_one, h]
 simp
theorem gathI_all {t : Ty} {i : Nat} (h : t.parts.length ≤ i) : gathI lt f t i = gathT lt f t := by
 unfold gathI
 rw [List.take_of_length_le h, gathT_eq]
theorem insAll_take {l m : List α} {k : Nat} {x : α} (h : m[k]? = some x) : insAll lt l (m.take (k + 1)) = insL lt (insAll lt l (m.take k)) x := by
 unfold insAll
 rw [List.take_add_one, h]
 simp
theorem gathI_len (hf : ∀ t, (f t).length ≤ 1) {t p : Ty} {i : Nat} (h : t.parts[i]? = some p) (k : Nat) : (insAll lt (gathI lt f t i) ((gathT lt f p).take k)).length ≤ t.size := by
 have h1 := insAll_length (lt := lt) (l := gathI lt f t i) (m := (gathT lt f p).take k)
 have h2 : (gathI lt f t i).length ≤ (f t).length + sumBy Ty.size (t.parts.take i) := foldl_gath_length fun q _ => gathT_length hf q
 have h3 := gathT_length (lt := lt) hf p
 have h4 := sumBy_take_succ Ty.size h
 have h5 := sumBy_take_le Ty.size t.parts (i + 1)
 have h6 := t.size_parts
 have h7 := hf t
 have h8 : ((gathT lt f p).take k).length ≤ (gathT lt f p).length := by rw [List.length_take]; omega
 omega
end
theorem rfree1 (t : Ty) (ht : t.size ≤ 1048576) (ih : ∀ p ∈ t.parts, FnOk Tryz.prog 37 [encTy p] (.slice ((gathT ltS (nmOf 9) p).map str))) : ∃ r, (fun v => v = .slice ((gathT ltS (nmOf 9) t).map str)) r ∧ FnOk Tryz.prog 37 [encTy t] r := by
 refine fn_ex tt_ok (fn := Tryz.f37) Tryz.func37 rfl Tryz.call37 ?_
 simp only [ltb,startSt,Tryz.ntmps37,List.length_cons,List.length_nil,reduceAdd,reduceSub,List.replicate_succ,List.replicate_zero]
 have hpl := t.parts_length
 have h21 := parts_ok t (by omega)
 have hsp := t.size_parts
 have hlp : t.parts.length ≤ t.size := by have := length_le_sum Ty.size Ty.size_pos t.parts; omega
 rw [encTy_eq] at h21 ⊢
 simp only [tyCells] at h21 ⊢
 refine ex_region_w tt_ok 43 [0,2,2] [] rfl rfl fun K hK => ?_
 try simp only [ltb]
 try simp only [ltb]
 simp only [length_encTys,List.length_map,go_sem,reduceIte,reduceAdd,reduceLT,reduceLeDiff,reduceMul,reduceEqDiff,reduceSub,reduceCtorEq,List.take_length]
 refine hK _ _ rfl ?_
 simp only [mwb,reduceAdd,reduceEqDiff]
 refine ex_region_w tt_ok 43 [0,0,0,2,0,0,0,0,1] [] rfl rfl fun K hK => ?_
 try simp only [ltb]
 try simp only [ltb]
 simp only [length_encTys,List.length_map,go_sem,reduceIte,reduceAdd,reduceLT,reduceLeDiff,reduceMul,reduceEqDiff,reduceSub,reduceCtorEq,List.take_length]
 refine hK _ _ rfl ?_
 simp only [mwb,reduceAdd,reduceEqDiff]
 refine ex_seq ?_
 refine ex_region_w tt_ok 43 (rp 9 0 [1,1,2]) [] rfl rfl fun K hK => ?_
 try simp only [ltb]
 try simp only [ltb]
 simp only [length_encTys,List.length_map,go_sem,reduceIte,reduceAdd,reduceLT,reduceLeDiff,reduceMul,reduceEqDiff,reduceSub,reduceCtorEq,List.take_length]
 refine hK _ _ rfl ?_
 simp only [mwb,reduceAdd,reduceEqDiff]
 refine ex_if rfl (fun hc11 => ?_) (fun hc11 => ?_)
 ·have hnm : (nmOf 9) t = [t.name] := if_pos (of_decide_eq_true hc11)
  refine ex_last_region_w tt_ok 43 [0,0,0,2,0,0,0,0,0,0,0,0,2,2,2,2,2] [] (by kernel_rfl) rfl rfl fun K hK => ?_
  try simp only [ltb]
  try simp only [ltb]
  simp only [length_encTys,List.length_map,go_sem,reduceIte,reduceAdd,reduceLT,reduceLeDiff,reduceMul,reduceEqDiff,reduceSub,reduceCtorEq,List.take_length]
  refine hK _ _ rfl ?_
  simp only [mwb,reduceAdd,reduceEqDiff]
  show Go.Eng.Ex _ _ _ _ _ _
  refine ex_region_w tt_ok 43 (0::0::0::0::2::(rp 12 0 [1,1])) [] rfl rfl fun K hK => ?_
  try simp only [ltb]
  refine runX_cut 2 fun K1 hK1 => ?_
  simp only [ltb]
  simp only [length_encTys,List.length_map,go_sem,reduceIte,reduceAdd,reduceLT,reduceLeDiff,reduceMul,reduceEqDiff,reduceSub,reduceCtorEq,List.take_length]
  refine callF_ex (⟨_, rfl, h21⟩) ?_
  rintro _ rfl
  try simp only [length_encTys,List.length_map,go_sem,reduceIte,reduceAdd,reduceLT,reduceLeDiff,reduceMul,reduceEqDiff,reduceSub,reduceCtorEq,List.take_length]
  refine hK1 _ ?_
  try simp only [ltb]
  simp only [length_encTys,List.length_map,go_sem,reduceIte,reduceAdd,reduceLT,reduceLeDiff,reduceMul,reduceEqDiff,reduceSub,reduceCtorEq,List.take_length]
  refine hK _ _ rfl ?_
  simp only [mwb,reduceAdd,reduceEqDiff]
  refine ex_seq ?_
  refine ex_region_w tt_ok 43 [0,0,0,0,0,2] [] rfl rfl fun K hK => ?_
  try simp only [ltb]
  try simp only [ltb]
  simp only [length_encTys,List.length_map,go_sem,reduceIte,reduceAdd,reduceLT,reduceLeDiff,reduceMul,reduceEqDiff,reduceSub,reduceCtorEq,List.take_length]
  refine hK _ _ rfl ?_
  simp only [mwb,reduceAdd,reduceEqDiff]
  refine ex_block ?_
  refine ex_frz 3 rfl rfl ?_
  simp only [List.set_cons_succ,List.set_cons_zero,List.drop_zero,List.take_succ_cons,List.take_zero,List.take_nil,List.drop_nil,frzAll,frz1,ref1,refCell,List.foldl_cons,List.foldl_nil,List.getElem?_cons_succ,List.getElem?_cons_zero,if_true]
  refine ex_loopK [3,5] [_, num 0] 1 [false,false,true,true,true,true,false,false,false,false,false,true] (fun vs => ((t.parts.length : Int) - intOf (vs.getD 1 .undef)).toNat) (fun vs => ∃ i : Nat, vs = [.slice ((gathI ltS (nmOf 9) t i).map str), num i] ∧ i ≤ t.parts.length) (by omega) (by simp only [maskFr,belowV,belowL,belowB,reduceLT,mkb]) (by simp only [maskFr,belowV,belowL,belowB,reduceLT,mkb]) (by rfl) (⟨0, by rw [gathI_zero, hnm]; rfl, Nat.zero_le _⟩) fun vs hI => ?_
  obtain ⟨i, rfl, hi⟩ := hI
  simp only [maskFr,belowV,belowL,belowB,reduceLT,putAll,List.set_cons_zero,List.set_cons_succ,mkb]
  refine ex_seq ?_
  refine ex_region_w tt_ok 43 (rp 19 0 [1,1,1,2]) [] rfl rfl fun K hK => ?_
  try simp only [ltb]
  try simp only [ltb]
  simp only [length_encTys,List.length_map,go_sem,reduceIte,reduceAdd,reduceLT,reduceLeDiff,reduceMul,reduceEqDiff,reduceSub,reduceCtorEq,List.take_length]
  refine hK _ _ rfl ?_
  simp only [mwb,reduceAdd,reduceEqDiff]
  refine ex_if rfl (fun hc22 => ?_) (fun hc22 => ?_)
  ·have hlt : i < t.parts.length := by simpa using hc22
   obtain ⟨p, hp⟩ : ∃ p, t.parts[i]? = some p := ⟨_, List.getElem?_eq_getElem hlt⟩
   have hpm := List.mem_of_getElem? hp
   have hw := i64_succ i (by omega)
   refine ex_skip ?_
   show Go.Eng.Ex _ _ _ _ _ _
   refine ex_seq ?_
   refine ex_block ?_
   refine ex_region_w tt_ok 43 (0::0::0::0::0::0::2::(rp 18 0 [1,1,1,1,1])) [] rfl rfl fun K hK => ?_
   try simp only [ltb]
   refine runX_cut 5 fun K1 hK1 => ?_
   simp only [ltb]
   simp only [get_encTys,hp,hw,encTy_eq,tyCells,length_encTys,List.length_map,go_sem,reduceIte,reduceAdd,reduceLT,reduceLeDiff,reduceMul,reduceEqDiff,reduceSub,reduceCtorEq,List.take_length]
   refine callF_ex (⟨_, rfl, by have h := ih p hpm; rw [encTy_eq] at h; simpa only [tyCells] using h⟩) ?_
   rintro _ rfl
   try simp only [get_encTys,hp,hw,encTy_eq,tyCells,length_encTys,List.length_map,go_sem,reduceIte,reduceAdd,reduceLT,reduceLeDiff,reduceMul,reduceEqDiff,reduceSub,reduceCtorEq,List.take_length]
   obtain ⟨g, hg⟩ : ∃ g, g = gathT ltS (nmOf 9) p := ⟨_, rfl⟩
   rw [← hg]
   have hgl : g.length ≤ 1048576 := by have := gathT_length (lt := ltS) (nmOf_len 9) p; have := sumBy_mem Ty.size hp; rw [hg]; omega
   refine hK1 _ ?_
   try simp only [ltb]
   simp only [get_encTys,hp,hw,encTy_eq,tyCells,length_encTys,List.length_map,go_sem,reduceIte,reduceAdd,reduceLT,reduceLeDiff,reduceMul,reduceEqDiff,reduceSub,reduceCtorEq,List.take_length]
   refine hK _ _ rfl ?_
   simp only [mwb,reduceAdd,reduceEqDiff]
   refine ex_region_w tt_ok 43 [0,0,0,0,0,0,0,2] [] rfl rfl fun K hK => ?_
   try simp only [ltb]
   try simp only [ltb]
   simp only [get_encTys,hp,hw,encTy_eq,tyCells,length_encTys,List.length_map,go_sem,reduceIte,reduceAdd,reduceLT,reduceLeDiff,reduceMul,reduceEqDiff,reduceSub,reduceCtorEq,List.take_length]
   refine hK _ _ rfl ?_
   simp only [mwb,reduceAdd,reduceEqDiff]
   refine ex_block ?_
   refine ex_loopK [3,7] [_, num 0] 1 [false,false,true,true,true,true,true,true,false,false,false,true,false,false,false,false,false,false,false,true,true,true,true,false,false,true,true,true,true,true] (fun vs => ((g.length : Int) - intOf (vs.getD 1 .undef)).toNat) (fun vs => ∃ k : Nat, vs = [.slice ((insAll ltS (gathI ltS (nmOf 9) t i) (g.take k)).map str), num k] ∧ k ≤ g.length) (by omega) (by simp only [maskFr,belowV,belowL,belowB,reduceLT,mkb]) (by simp only [maskFr,belowV,belowL,belowB,reduceLT,mkb]) (by rfl) (⟨0, by simp [insAll], Nat.zero_le _⟩) fun vs hI => ?_
   obtain ⟨k, rfl, hk⟩ := hI
   simp only [maskFr,belowV,belowL,belowB,reduceLT,putAll,List.set_cons_zero,List.set_cons_succ,mkb]
   refine ex_seq ?_
   refine ex_region_w tt_ok 43 (rp 30 0 [1,1,1,2]) [] rfl rfl fun K hK => ?_
   try simp only [ltb]
   try simp only [ltb]
   simp only [get_encTys,hp,hw,encTy_eq,tyCells,length_encTys,List.length_map,go_sem,reduceIte,reduceAdd,reduceLT,reduceLeDiff,reduceMul,reduceEqDiff,reduceSub,reduceCtorEq,List.take_length]
   refine hK _ _ rfl ?_
   simp only [mwb,reduceAdd,reduceEqDiff]
   refine ex_if rfl (fun hc33 => ?_) (fun hc33 => ?_)
   ·have hlk : k < g.length := by simpa using hc33
    obtain ⟨x, hx⟩ : ∃ x, g[k]? = some x := ⟨_, List.getElem?_eq_getElem hlk⟩
    have hwk := i64_succ k (by omega)
    have hal : (insAll ltS (gathI ltS (nmOf 9) t i) (g.take k)).length ≤ 1048576 := by have := gathI_len ltS (nmOf 9) (nmOf_len 9) hp k; rw [← hg] at this; omega
    refine ex_skip ?_
    show Go.Eng.Ex _ _ _ _ _ _
    refine ex_seq ?_
    refine ex_block ?_
    refine ex_last_region_w tt_ok 43 (0::0::0::2::(rp 32 0 [2,2,2,2,2,2])) [] (by kernel_rfl) rfl rfl fun K hK => ?_
    try simp only [ltb]
    refine runX_cut 6 fun K1 hK1 => ?_
    simp only [ltb]
    simp only [get_encTys,hp,hw,encTy_eq,tyCells,List.getElem?_map,hx,hwk,length_encTys,List.length_map,go_sem,reduceIte,reduceAdd,reduceLT,reduceLeDiff,reduceMul,reduceEqDiff,reduceSub,reduceCtorEq,List.take_length]
    refine callF_ex (insert_ex _ x hal) ?_
    rintro _ rfl
    try simp only [get_encTys,hp,hw,encTy_eq,tyCells,List.getElem?_map,hx,hwk,length_encTys,List.length_map,go_sem,reduceIte,reduceAdd,reduceLT,reduceLeDiff,reduceMul,reduceEqDiff,reduceSub,reduceCtorEq,List.take_length]
    refine hK1 _ ?_
    try simp only [ltb]
    simp only [get_encTys,hp,hw,encTy_eq,tyCells,List.getElem?_map,hx,hwk,length_encTys,List.length_map,go_sem,reduceIte,reduceAdd,reduceLT,reduceLeDiff,reduceMul,reduceEqDiff,reduceSub,reduceCtorEq,List.take_length]
    refine hK _ _ rfl ?_
    simp only [mwb,reduceAdd,reduceEqDiff]
    show Go.Eng.Ex _ _ _ _ _ _
    refine ex_last_region_w tt_ok 43 (0::0::0::0::0::0::0::2::(rp 26 0 [2,2])) [] (by kernel_rfl) rfl rfl fun K hK => ?_
    try simp only [ltb]
    try simp only [ltb]
    simp only [get_encTys,hp,hw,encTy_eq,tyCells,List.getElem?_map,hx,hwk,length_encTys,List.length_map,go_sem,reduceIte,reduceAdd,reduceLT,reduceLeDiff,reduceMul,reduceEqDiff,reduceSub,reduceCtorEq,List.take_length]
    refine hK _ _ rfl ?_
    simp only [mwb,reduceAdd,reduceEqDiff]
    refine ⟨[_, _], ?_, ?_, 1, [false,false,true,true,true,true,true,true,false,false,false,true,false,false,false,false,false,false,false,true,true,true,true,false,false,true,true,true,true,true], by omega, by simp only [maskFr,belowV,belowL,belowB,reduceLT,mkb], by simp only [maskFr,belowV,belowL,belowB,reduceLT,mkb], by simp only [maskFr,belowV,belowL,belowB,reduceLT,putAll,List.set_cons_zero,List.set_cons_succ,mkb]; rfl⟩
    ·exact ⟨k + 1, by rw [insAll_take ltS hx], hlk⟩
    ·simp [intOf]; omega
   ·have hgk : g.length ≤ k := by have h := of_decide_eq_false hc33; omega
    refine ex_exit ?_
    show Go.Eng.Ex _ _ _ _ _ _
    refine ex_last_region_w tt_ok 43 (0::0::0::0::0::2::(rp 17 0 [2,2])) [] (by kernel_rfl) rfl rfl fun K hK => ?_
    try simp only [ltb]
    try simp only [ltb]
    simp only [get_encTys,hp,hw,encTy_eq,tyCells,length_encTys,List.length_map,go_sem,reduceIte,reduceAdd,reduceLT,reduceLeDiff,reduceMul,reduceEqDiff,reduceSub,reduceCtorEq,List.take_length]
    refine hK _ _ rfl ?_
    simp only [mwb,reduceAdd,reduceEqDiff]
    refine ⟨[_, _], ?_, ?_, 1, [false,false,true,true,true,true,false,false,false,false,false,true], by omega, by simp only [maskFr,belowV,belowL,belowB,reduceLT,mkb], by simp only [maskFr,belowV,belowL,belowB,reduceLT,mkb], by simp only [maskFr,belowV,belowL,belowB,reduceLT,putAll,List.set_cons_zero,List.set_cons_succ,mkb]; rfl⟩
    ·exact ⟨i + 1, by rw [gathI_succ ltS (nmOf 9) hp, ← hg, List.take_of_length_le hgk], hlt⟩
    ·simp [intOf]; omega
  ·have hge : ¬ i < t.parts.length := by simpa using hc22
   have hres := gathI_all ltS (nmOf 9) (t := t) (i := i) (by omega)
   refine ex_exit ?_
   show Go.Eng.Ex _ _ _ _ _ _
   refine ex_region_w tt_ok 43 (0::0::2::(rp 39 0 [1])) [] rfl rfl fun K hK => ?_
   try simp only [ltb]
   try simp only [ltb]
   simp only [length_encTys,List.length_map,go_sem,reduceIte,reduceAdd,reduceLT,reduceLeDiff,reduceMul,reduceEqDiff,reduceSub,reduceCtorEq,List.take_length]
   refine hK _ _ rfl ?_
   simp only [mwb,reduceAdd,reduceEqDiff]
   exact ex_ret ⟨.inl rfl, _, by rw [hres], rfl⟩
 ·have hnm : (nmOf 9) t = [] := if_neg (of_decide_eq_false hc11)
  refine ex_skip ?_
  show Go.Eng.Ex _ _ _ _ _ _
  refine ex_region_w tt_ok 43 (0::0::0::0::2::(rp 12 0 [1,1])) [] rfl rfl fun K hK => ?_
  try simp only [ltb]
  refine runX_cut 2 fun K1 hK1 => ?_
  simp only [ltb]
  simp only [length_encTys,List.length_map,go_sem,reduceIte,reduceAdd,reduceLT,reduceLeDiff,reduceMul,reduceEqDiff,reduceSub,reduceCtorEq,List.take_length]
  refine callF_ex (⟨_, rfl, h21⟩) ?_
  rintro _ rfl
  try simp only [length_encTys,List.length_map,go_sem,reduceIte,reduceAdd,reduceLT,reduceLeDiff,reduceMul,reduceEqDiff,reduceSub,reduceCtorEq,List.take_length]
  refine hK1 _ ?_
  try simp only [ltb]
  simp only [length_encTys,List.length_map,go_sem,reduceIte,reduceAdd,reduceLT,reduceLeDiff,reduceMul,reduceEqDiff,reduceSub,reduceCtorEq,List.take_length]
  refine hK _ _ rfl ?_
  simp only [mwb,reduceAdd,reduceEqDiff]
  refine ex_seq ?_
  refine ex_region_w tt_ok 43 [0,0,0,0,0,2] [] rfl rfl fun K hK => ?_
  try simp only [ltb]
  try simp only [ltb]
  simp only [length_encTys,List.length_map,go_sem,reduceIte,reduceAdd,reduceLT,reduceLeDiff,reduceMul,reduceEqDiff,reduceSub,reduceCtorEq,List.take_length]
  refine hK _ _ rfl ?_
  simp only [mwb,reduceAdd,reduceEqDiff]
  refine ex_block ?_
  refine ex_frz 3 rfl rfl ?_
  simp only [List.set_cons_succ,List.set_cons_zero,List.drop_zero,List.take_succ_cons,List.take_zero,List.take_nil,List.drop_nil,frzAll,frz1,ref1,refCell,List.foldl_cons,List.foldl_nil,List.getElem?_cons_succ,List.getElem?_cons_zero,if_true]
  refine ex_loopK [3,5] [_, num 0] 1 [false,false,true,true,true,true,false,false,false,false,false,true] (fun vs => ((t.parts.length : Int) - intOf (vs.getD 1 .undef)).toNat) (fun vs => ∃ i : Nat, vs = [.slice ((gathI ltS (nmOf 9) t i).map str), num i] ∧ i ≤ t.parts.length) (by omega) (by simp only [maskFr,belowV,belowL,belowB,reduceLT,mkb]) (by simp only [maskFr,belowV,belowL,belowB,reduceLT,mkb]) (by rfl) (⟨0, by rw [gathI_zero, hnm]; rfl, Nat.zero_le _⟩) fun vs hI => ?_
  obtain ⟨i, rfl, hi⟩ := hI
  simp only [maskFr,belowV,belowL,belowB,reduceLT,putAll,List.set_cons_zero,List.set_cons_succ,mkb]
  refine ex_seq ?_
  refine ex_region_w tt_ok 43 (rp 19 0 [1,1,1,2]) [] rfl rfl fun K hK => ?_
  try simp only [ltb]
  try simp only [ltb]
  simp only [length_encTys,List.length_map,go_sem,reduceIte,reduceAdd,reduceLT,reduceLeDiff,reduceMul,reduceEqDiff,reduceSub,reduceCtorEq,List.take_length]
  refine hK _ _ rfl ?_
  simp only [mwb,reduceAdd,reduceEqDiff]
  refine ex_if rfl (fun hc22 => ?_) (fun hc22 => ?_)
  ·have hlt : i < t.parts.length := by simpa using hc22
   obtain ⟨p, hp⟩ : ∃ p, t.parts[i]? = some p := ⟨_, List.getElem?_eq_getElem hlt⟩
   have hpm := List.mem_of_getElem? hp
   have hw := i64_succ i (by omega)
   refine ex_skip ?_
   show Go.Eng.Ex _ _ _ _ _ _
   refine ex_seq ?_
   refine ex_block ?_
   refine ex_region_w tt_ok 43 (0::0::0::0::0::0::2::(rp 18 0 [1,1,1,1,1])) [] rfl rfl fun K hK => ?_
   try simp only [ltb]
   refine runX_cut 5 fun K1 hK1 => ?_
   simp only [ltb]
   simp only [get_encTys,hp,hw,encTy_eq,tyCells,length_encTys,List.length_map,go_sem,reduceIte,reduceAdd,reduceLT,reduceLeDiff,reduceMul,reduceEqDiff,reduceSub,reduceCtorEq,List.take_length]
   refine callF_ex (⟨_, rfl, by have h := ih p hpm; rw [encTy_eq] at h; simpa only [tyCells] using h⟩) ?_
   rintro _ rfl
   try simp only [get_encTys,hp,hw,encTy_eq,tyCells,length_encTys,List.length_map,go_sem,reduceIte,reduceAdd,reduceLT,reduceLeDiff,reduceMul,reduceEqDiff,reduceSub,reduceCtorEq,List.take_length]
   obtain ⟨g, hg⟩ : ∃ g, g = gathT ltS (nmOf 9) p := ⟨_, rfl⟩
   rw [← hg]
   have hgl : g.length ≤ 1048576 := by have := gathT_length (lt := ltS) (nmOf_len 9) p; have := sumBy_mem Ty.size hp; rw [hg]; omega
   refine hK1 _ ?_
   try simp only [ltb]
   simp only [get_encTys,hp,hw,encTy_eq,tyCells,length_encTys,List.length_map,go_sem,reduceIte,reduceAdd,reduceLT,reduceLeDiff,reduceMul,reduceEqDiff,reduceSub,reduceCtorEq,List.take_length]
   refine hK _ _ rfl ?_
   simp only [mwb,reduceAdd,reduceEqDiff]
   refine ex_region_w tt_ok 43 [0,0,0,0,0,0,0,2] [] rfl rfl fun K hK => ?_
   try simp only [ltb]
   try simp only [ltb]
   simp only [get_encTys,hp,hw,encTy_eq,tyCells,length_encTys,List.length_map,go_sem,reduceIte,reduceAdd,reduceLT,reduceLeDiff,reduceMul,reduceEqDiff,reduceSub,reduceCtorEq,List.take_length]
   refine hK _ _ rfl ?_
   simp only [mwb,reduceAdd,reduceEqDiff]
   refine ex_block ?_
   refine ex_loopK [3,7] [_, num 0] 1 [false,false,true,true,true,true,true,true,false,false,false,true,false,false,false,false,false,false,false,true,true,true,true,false,false,true,true,true,true,true] (fun vs => ((g.length : Int) - intOf (vs.getD 1 .undef)).toNat) (fun vs => ∃ k : Nat, vs = [.slice ((insAll ltS (gathI ltS (nmOf 9) t i) (g.take k)).map str), num k] ∧ k ≤ g.length) (by omega) (by simp only [maskFr,belowV,belowL,belowB,reduceLT,mkb]) (by simp only [maskFr,belowV,belowL,belowB,reduceLT,mkb]) (by rfl) (⟨0, by simp [insAll], Nat.zero_le _⟩) fun vs hI => ?_
   obtain ⟨k, rfl, hk⟩ := hI
   simp only [maskFr,belowV,belowL,belowB,reduceLT,putAll,List.set_cons_zero,List.set_cons_succ,mkb]
   refine ex_seq ?_
   refine ex_region_w tt_ok 43 (rp 30 0 [1,1,1,2]) [] rfl rfl fun K hK => ?_
   try simp only [ltb]
   try simp only [ltb]
   simp only [get_encTys,hp,hw,encTy_eq,tyCells,length_encTys,List.length_map,go_sem,reduceIte,reduceAdd,reduceLT,reduceLeDiff,reduceMul,reduceEqDiff,reduceSub,reduceCtorEq,List.take_length]
   refine hK _ _ rfl ?_
   simp only [mwb,reduceAdd,reduceEqDiff]
   refine ex_if rfl (fun hc33 => ?_) (fun hc33 => ?_)
   ·have hlk : k < g.length := by simpa using hc33
    obtain ⟨x, hx⟩ : ∃ x, g[k]? = some x := ⟨_, List.getElem?_eq_getElem hlk⟩
    have hwk := i64_succ k (by omega)
    have hal : (insAll ltS (gathI ltS (nmOf 9) t i) (g.take k)).length ≤ 1048576 := by have := gathI_len ltS (nmOf 9) (nmOf_len 9) hp k; rw [← hg] at this; omega
    refine ex_skip ?_
    show Go.Eng.Ex _ _ _ _ _ _
    refine ex_seq ?_
    refine ex_block ?_
    refine ex_last_region_w tt_ok 43 (0::0::0::2::(rp 32 0 [2,2,2,2,2,2])) [] (by kernel_rfl) rfl rfl fun K hK => ?_
    try simp only [ltb]
    refine runX_cut 6 fun K1 hK1 => ?_
    simp only [ltb]
    simp only [get_encTys,hp,hw,encTy_eq,tyCells,List.getElem?_map,hx,hwk,length_encTys,List.length_map,go_sem,reduceIte,reduceAdd,reduceLT,reduceLeDiff,reduceMul,reduceEqDiff,reduceSub,reduceCtorEq,List.take_length]
    refine callF_ex (insert_ex _ x hal) ?_
    rintro _ rfl
    try simp only [get_encTys,hp,hw,encTy_eq,tyCells,List.getElem?_map,hx,hwk,length_encTys,List.length_map,go_sem,reduceIte,reduceAdd,reduceLT,reduceLeDiff,reduceMul,reduceEqDiff,reduceSub,reduceCtorEq,List.take_length]
    refine hK1 _ ?_
    try simp only [ltb]
    simp only [get_encTys,hp,hw,encTy_eq,tyCells,List.getElem?_map,hx,hwk,length_encTys,List.length_map,go_sem,reduceIte,reduceAdd,reduceLT,reduceLeDiff,reduceMul,reduceEqDiff,reduceSub,reduceCtorEq,List.take_length]
    refine hK _ _ rfl ?_
    simp only [mwb,reduceAdd,reduceEqDiff]
    show Go.Eng.Ex _ _ _ _ _ _
    refine ex_last_region_w tt_ok 43 (0::0::0::0::0::0::0::2::(rp 26 0 [2,2])) [] (by kernel_rfl) rfl rfl fun K hK => ?_
    try simp only [ltb]
    try simp only [ltb]
    simp only [get_encTys,hp,hw,encTy_eq,tyCells,List.getElem?_map,hx,hwk,length_encTys,List.length_map,go_sem,reduceIte,reduceAdd,reduceLT,reduceLeDiff,reduceMul,reduceEqDiff,reduceSub,reduceCtorEq,List.take_length]
    refine hK _ _ rfl ?_
    simp only [mwb,reduceAdd,reduceEqDiff]
    refine ⟨[_, _], ?_, ?_, 1, [false,false,true,true,true,true,true,true,false,false,false,true,false,false,false,false,false,false,false,true,true,true,true,false,false,true,true,true,true,true], by omega, by simp only [maskFr,belowV,belowL,belowB,reduceLT,mkb], by simp only [maskFr,belowV,belowL,belowB,reduceLT,mkb], by simp only [maskFr,belowV,belowL,belowB,reduceLT,putAll,List.set_cons_zero,List.set_cons_succ,mkb]; rfl⟩
    ·exact ⟨k + 1, by rw [insAll_take ltS hx], hlk⟩
    ·simp [intOf]; omega
   ·have hgk : g.length ≤ k := by have h := of_decide_eq_false hc33; omega
    refine ex_exit ?_
    show Go.Eng.Ex _ _ _ _ _ _
    refine ex_last_region_w tt_ok 43 (0::0::0::0::0::2::(rp 17 0 [2,2])) [] (by kernel_rfl) rfl rfl fun K hK => ?_
    try simp only [ltb]
    try simp only [ltb]
    simp only [get_encTys,hp,hw,encTy_eq,tyCells,length_encTys,List.length_map,go_sem,reduceIte,reduceAdd,reduceLT,reduceLeDiff,reduceMul,reduceEqDiff,reduceSub,reduceCtorEq,List.take_length]
    refine hK _ _ rfl ?_
    simp only [mwb,reduceAdd,reduceEqDiff]
    refine ⟨[_, _], ?_, ?_, 1, [false,false,true,true,true,true,false,false,false,false,false,true], by omega, by simp only [maskFr,belowV,belowL,belowB,reduceLT,mkb], by simp only [maskFr,belowV,belowL,belowB,reduceLT,mkb], by simp only [maskFr,belowV,belowL,belowB,reduceLT,putAll,List.set_cons_zero,List.set_cons_succ,mkb]; rfl⟩
    ·exact ⟨i + 1, by rw [gathI_succ ltS (nmOf 9) hp, ← hg, List.take_of_length_le hgk], hlt⟩
    ·simp [intOf]; omega
  ·have hge : ¬ i < t.parts.length := by simpa using hc22
   have hres := gathI_all ltS (nmOf 9) (t := t) (i := i) (by omega)
   refine ex_exit ?_
   show Go.Eng.Ex _ _ _ _ _ _
   refine ex_region_w tt_ok 43 (0::0::2::(rp 39 0 [1])) [] rfl rfl fun K hK => ?_
   try simp only [ltb]
   try simp only [ltb]
   simp only [length_encTys,List.length_map,go_sem,reduceIte,reduceAdd,reduceLT,reduceLeDiff,reduceMul,reduceEqDiff,reduceSub,reduceCtorEq,List.take_length]
   refine hK _ _ rfl ?_
   simp only [mwb,reduceAdd,reduceEqDiff]
   exact ex_ret ⟨.inl rfl, _, by rw [hres], rfl⟩
theorem rfree_ok (t : Ty) (ht : t.size ≤ 1048576) : FnOk Tryz.prog 37 [encTy t] (.slice ((gathT ltS (nmOf 9) t).map str)) := by
 revert t
 refine Ty.induct fun t ih ht => ?_
 obtain ⟨_, rfl, h⟩ := rfree1 t ht fun p hp => ih p hp (by obtain ⟨i, hi⟩ := List.mem_iff_getElem?.1 hp; have := sumBy_mem Ty.size hi; have := t.size_parts; omega)
 exact h
end Go.Proofs.YtpjdfcigadnhcaaGreatDoor
end

section
namespace Go.Proofs.YtpjdfcigadnhcaaGreatDoor
open Go.Eng
open Nat (reduceAdd reduceLT reduceLeDiff reduceMul reduceEqDiff reduceSub)
variable [Glob]
set_option maxHeartbeats 4000000
set_option maxRecDepth 100000
attribute [local irreducible] runM stepM valD stepOp stepD callF callS
def usOf (t : Ty) : List Us := if t.kind = 10 then [(t.mod, t.name)] else []
theorem usOf_len (t : Ty) : (usOf t).length ≤ 1 := by unfold usOf; split <;> simp
theorem lin_us : Lin ltU := by
 have hl := lin_str
 refine ⟨fun x => ?_, fun x y z h1 h2 => ?_, fun x y h1 h2 => ?_⟩
 ·simp [ltU, hl.irrefl]
 ·unfold ltU at *
  rw [Bool.or_eq_true, Bool.and_eq_true, decide_eq_true_eq] at *
  rcases h1 with h1 | ⟨h1, h1'⟩
  ·rcases h2 with h2 | ⟨h2, h2'⟩
   ·exact .inl (hl.trans _ _ _ h1 h2)
   ·rw [← h2]; exact .inl h1
  ·rcases h2 with h2 | ⟨h2, h2'⟩
   ·rw [h1]; exact .inl h2
   ·exact .inr ⟨h1.trans h2, hl.trans _ _ _ h1' h2'⟩
 ·unfold ltU at h1 h2
  rw [Bool.or_eq_false_iff, Bool.and_eq_false_iff] at h1 h2
  have e1 : x.1 = y.1 := hl.tri _ _ h1.1 h2.1
  have a1 : ltS x.2 y.2 = false := h1.2.elim (fun h => absurd e1 (of_decide_eq_false h)) id
  have a2 : ltS y.2 x.2 = false := h2.2.elim (fun h => absurd e1.symm (of_decide_eq_false h)) id
  exact Prod.ext e1 (hl.tri _ _ a1 a2)
theorem insertUse_ex (l : List Us) (s : Us) (hl : l.length ≤ 1048576) : ∃ r, (fun v => v = .slice ((insL ltU l s).map encU)) r ∧ FnOk Tryz.prog 86 [.slice (l.map encU), encU s] r := by
 refine fn_ex tt_ok (fn := Tryz.f86) Tryz.func86 rfl Tryz.call86 ?_
 simp only [ltb,startSt,Tryz.ntmps86,List.length_cons,List.length_nil,reduceAdd,reduceSub,List.replicate_succ,List.replicate_zero]
 simp only [encU]
 refine ex_region_w tt_ok 45 [0,0,0,2,2] [] rfl rfl fun K hK => ?_
 try simp only [ltb]
 try simp only [ltb]
 simp only [List.length_map,go_sem,reduceIte,reduceAdd,reduceLT,reduceLeDiff,reduceMul,reduceEqDiff,reduceSub,reduceCtorEq,List.take_length]
 refine hK _ _ rfl ?_
 simp only [mwb,reduceAdd,reduceEqDiff]
 refine ex_frzBox 3 rfl rfl rfl ?_
 simp only [List.set_cons_zero,List.set_cons_succ]
 refine ex_region_w tt_ok 45 [0,0,0,0,0,2] [] rfl rfl fun K hK => ?_
 try simp only [ltb]
 try simp only [ltb]
 simp only [List.length_map,go_sem,reduceIte,reduceAdd,reduceLT,reduceLeDiff,reduceMul,reduceEqDiff,reduceSub,reduceCtorEq,List.take_length]
 refine hK _ _ rfl ?_
 simp only [mwb,reduceAdd,reduceEqDiff]
 refine ex_seq_joinK [5] 1 [true,false,false,true,true,true] (fun vs => ∃ i : Nat, vs = [num i] ∧ i ≤ l.length ∧ (∀ j < i, ∀ b, l[j]? = some b → ltU b s = true) ∧ ∀ b, l[i]? = some b → ltU b s = false) ?_ ?_
 ·refine ex_block ?_
  refine ex_loopK [5] [num 0] 1 [true,false,false,true,true,true] (fun vs => ((l.length : Int) - intOf (vs.headD .undef)).toNat) (fun vs => ∃ i : Nat, vs = [num i] ∧ i ≤ l.length ∧ ∀ j < i, ∀ b, l[j]? = some b → ltU b s = true) (by omega) (by simp only [maskFr,belowV,belowL,belowB,reduceLT,mkb]) (by simp only [maskFr,belowV,belowL,belowB,reduceLT,mkb]) (by rfl) (⟨0, rfl, Nat.zero_le _, fun j hj => absurd hj (Nat.not_lt_zero j)⟩) fun vs hI => ?_
  obtain ⟨i, rfl, hi, hno⟩ := hI
  simp only [maskFr,belowV,belowL,belowB,reduceLT,putAll,List.set_cons_zero,List.set_cons_succ,mkb]
  refine ex_seq ?_
  refine ex_mixed_w tt_ok mixed_ok 45 [0,0,0,0,0,0,1,1,1,1,1,1,1,1,1,1,1,2] (by kernel_rfl) [⟨.n, 0, [], []⟩, ⟨.n, 0, [], []⟩, ⟨.n, 0, [], []⟩, ⟨.n, 0, [], []⟩, ⟨.n, 0, [], []⟩, ⟨.n, 0, [], []⟩, ⟨.n, 0, [], []⟩, ⟨.r, 0, [], []⟩, ⟨.r, 0, [], []⟩, ⟨.r, 0, [], []⟩, ⟨.n, 0, [], []⟩, ⟨.n, 0, [], []⟩] 0 (by kernel_rfl) fun K hK => ?_
  try simp only [ltb,List.replicate_zero,List.replicate_succ]
  refine runM_cut 5 (by simp) (by simp) fun K1 hK1 => ?_
  try simp only [ltb]
  simp only [List.length_map,go_sem,reduceIte,reduceAdd,reduceLT,reduceLeDiff,reduceMul,reduceEqDiff,reduceSub,reduceCtorEq,List.take_length,List.replicate]
  refine hK1 _ ?_
  refine runM_case 10 (by rfl) fun b hb2_4 => ?_
  cases b
  ·have hge : ∀ b, l[i]? = some b → ltU b s = false := fun b hb => by have := (List.getElem?_eq_some_iff.1 hb).1; have := of_decide_eq_false hb2_4; omega
   refine runM_cut 6 (by simp) (by simp) fun K1 hK1 => ?_
   try simp only [ltb]
   simp only [List.length_map,go_sem,reduceIte,reduceAdd,reduceLT,reduceLeDiff,reduceMul,reduceEqDiff,reduceSub,reduceCtorEq,List.take_length,List.replicate]
   refine hK1 _ ?_
   try simp only [ltb]
   simp only [List.length_map,go_sem,reduceIte,reduceAdd,reduceLT,reduceLeDiff,reduceMul,reduceEqDiff,reduceSub,reduceCtorEq,List.take_length,List.replicate]
   refine hK _ _ rfl ?_
   simp only [mwb,reduceAdd,reduceEqDiff]
   refine ex_cond rfl ?_
   refine ex_exit ?_
   refine ⟨[_], ?_, 1, [true,false,false,true,true,true], by omega, by simp only [maskFr,belowV,belowL,belowB,reduceLT,mkb], by simp only [maskFr,belowV,belowL,belowB,reduceLT,mkb], by simp only [maskFr,belowV,belowL,belowB,reduceLT,putAll,List.set_cons_zero,List.set_cons_succ,mkb]; rfl⟩
   exact ⟨i, rfl, hi, hno, hge⟩
  ·have hlt : i < l.length := by have := of_decide_eq_true hb2_4; omega
   obtain ⟨x, hx⟩ : ∃ x, l[i]? = some x := ⟨_, List.getElem?_eq_getElem hlt⟩
   have hw := i64_succ i (by omega)
   refine runM_cut 6 (by simp) (by simp) fun K1 hK1 => ?_
   try simp only [ltb]
   simp only [List.getElem?_map,hx,hw,encU,ev_useql,List.length_map,go_sem,reduceIte,reduceAdd,reduceLT,reduceLeDiff,reduceMul,reduceEqDiff,reduceSub,reduceCtorEq,List.take_length,List.replicate]
   refine callD_ex rfl (less_ex x s) ?_
   rintro _ rfl
   try simp only [List.getElem?_map,hx,hw,encU,ev_useql,List.length_map,go_sem,reduceIte,reduceAdd,reduceLT,reduceLeDiff,reduceMul,reduceEqDiff,reduceSub,reduceCtorEq,List.take_length,List.replicate]
   refine hK1 _ ?_
   try simp only [ltb]
   simp only [List.getElem?_map,hx,hw,encU,ev_useql,List.length_map,go_sem,reduceIte,reduceAdd,reduceLT,reduceLeDiff,reduceMul,reduceEqDiff,reduceSub,reduceCtorEq,List.take_length,List.replicate]
   refine hK _ _ rfl ?_
   simp only [mwb,reduceAdd,reduceEqDiff]
   refine ex_if rfl (fun hc17 => ?_) (fun hc17 => ?_)
   ·have hxs : ltU x s = true := by simpa using hc17
    refine ex_skip ?_
    show Go.Eng.Ex _ _ _ _ _ _
    refine ex_block ?_
    refine ex_last_region_w tt_ok 45 (0::0::0::0::0::2::(rp 12 0 [2,2])) [] (by kernel_rfl) rfl rfl fun K hK => ?_
    try simp only [ltb]
    try simp only [ltb]
    simp only [List.getElem?_map,hx,hw,encU,ev_useql,List.length_map,go_sem,reduceIte,reduceAdd,reduceLT,reduceLeDiff,reduceMul,reduceEqDiff,reduceSub,reduceCtorEq,List.take_length]
    refine hK _ _ rfl ?_
    simp only [mwb,reduceAdd,reduceEqDiff]
    refine ⟨[_], ?_, ?_, 1, [true,false,false,true,true,true], by omega, by simp only [maskFr,belowV,belowL,belowB,reduceLT,mkb], by simp only [maskFr,belowV,belowL,belowB,reduceLT,mkb], by simp only [maskFr,belowV,belowL,belowB,reduceLT,putAll,List.set_cons_zero,List.set_cons_succ,mkb]; rfl⟩
    ·refine ⟨i + 1, rfl, hlt, fun j hj b hb => ?_⟩
     rcases Nat.lt_or_ge j i with h | h
     ·exact hno j h b hb
     ·obtain rfl : j = i := by omega
      rw [hx] at hb; cases hb; exact hxs
    ·simp only [intOf,List.headD_cons]; omega
   ·have hge : ∀ b, l[i]? = some b → ltU b s = false := fun b hb => by rw [hx] at hb; cases hb; simpa using hc17
    refine ex_exit ?_
    refine ⟨[_], ?_, 1, [true,false,false,true,true,true], by omega, by simp only [maskFr,belowV,belowL,belowB,reduceLT,mkb], by simp only [maskFr,belowV,belowL,belowB,reduceLT,mkb], by simp only [maskFr,belowV,belowL,belowB,reduceLT,putAll,List.set_cons_zero,List.set_cons_succ,mkb]; rfl⟩
    exact ⟨i, rfl, hi, hno, hge⟩
 ·intro vs hJ
  obtain ⟨i, rfl, hi, hno, hge⟩ := hJ
  have hins := insL_at hno hi hge
  simp only [maskFr,belowV,belowL,belowB,reduceLT,putAll,List.set_cons_zero,List.set_cons_succ,mkb]
  refine ex_seq ?_
  refine ex_mixed_w tt_ok mixed_ok 45 [0,0,0,0,0,0,0,0,0,0,0,0,0,0,0,0,0,0,0,0,1,1,1,1,1,1,1,1,1,1,1,2] (by kernel_rfl) [⟨.n, 0, [], []⟩, ⟨.n, 0, [], []⟩, ⟨.n, 0, [], []⟩, ⟨.n, 0, [], []⟩, ⟨.n, 0, [], []⟩, ⟨.n, 0, [], []⟩, ⟨.n, 0, [], []⟩, ⟨.r, 0, [], []⟩, ⟨.r, 0, [], []⟩, ⟨.r, 0, [], []⟩, ⟨.n, 0, [], []⟩, ⟨.n, 0, [], []⟩] 0 (by kernel_rfl) fun K hK => ?_
  try simp only [ltb,List.replicate_zero,List.replicate_succ]
  refine runM_cut 5 (by simp) (by simp) fun K1 hK1 => ?_
  try simp only [ltb]
  simp only [List.length_map,go_sem,reduceIte,reduceAdd,reduceLT,reduceLeDiff,reduceMul,reduceEqDiff,reduceSub,reduceCtorEq,List.take_length,List.replicate]
  refine hK1 _ ?_
  refine runM_case 24 (by rfl) fun b hb4_4 => ?_
  cases b
  ·have hns : ¬ l[i]? = some s := fun h => by have := (List.getElem?_eq_some_iff.1 h).1; have := of_decide_eq_false hb4_4; omega
   have hres : (V.slice (((l.take i) ++ [s] ++ (l.drop i)).map encU)) = .slice ((insL ltU l s).map encU) := by rw [hins, if_neg hns]
   refine runM_cut 6 (by simp) (by simp) fun K1 hK1 => ?_
   try simp only [ltb]
   simp only [List.length_map,go_sem,reduceIte,reduceAdd,reduceLT,reduceLeDiff,reduceMul,reduceEqDiff,reduceSub,reduceCtorEq,List.take_length,List.replicate]
   refine hK1 _ ?_
   try simp only [ltb]
   simp only [List.length_map,go_sem,reduceIte,reduceAdd,reduceLT,reduceLeDiff,reduceMul,reduceEqDiff,reduceSub,reduceCtorEq,List.take_length,List.replicate]
   refine hK _ _ rfl ?_
   simp only [mwb,reduceAdd,reduceEqDiff]
   refine ex_cond rfl ?_
   refine ex_skip ?_
   show Go.Eng.Ex _ _ _ _ _ _
   have hc1 := fun mem => cutTo2 l encU 2 (fun _ => rfl) i hi mem
   have hc2 := fun mem => cutFrom2 l encU 2 (fun _ => rfl) i hi mem
   have hf1 := fun (k : List Us) => firstMap k encU 2 (fun _ => rfl)
   have hf2 : firstOk [V.agg [V.sc (.string s.1), V.sc (.string s.2)]] 0 2 = true := rfl
   have hle1 : (l.take i).length ≤ 34359738368 := by rw [List.length_take]; omega
   have hle2 : (l.take i).length + 1 ≤ 34359738368 := by rw [List.length_take]; omega
   have hle3 : (l.take i).length + 1 + (l.drop i).length ≤ 34359738368 := by rw [List.length_take, List.length_drop]; omega
   refine ex_mixed_w tt_ok mixed_ok 45 [0,0,0,0,2,0,0,0,0,0,0,0,0,0,0,0,0,0,0,0,0,0,0,0,0,0,0,0,0,0,0,0,0,1,1,1,1,1,1,1,1,1,1,1,1] (by kernel_rfl) [⟨.a, 0, [], []⟩, ⟨.n, 0, [], []⟩, ⟨.n, 0, [], []⟩, ⟨.r, 0, [0], [1,2]⟩, ⟨.w, 1, [], [0,1,2,3]⟩, ⟨.n, 0, [], []⟩, ⟨.n, 0, [], [5]⟩, ⟨.w, 2, [], [0,1,2,3,4,5,6]⟩, ⟨.n, 0, [], []⟩, ⟨.n, 0, [], []⟩, ⟨.n, 0, [], [8,9]⟩, ⟨.w, 3, [], [0,1,2,3,4,5,6,7,8,9,10]⟩, ⟨.n, 0, [], [0,1,2,3,4,5,6,7,8,9,10,11]⟩] 4 (by kernel_rfl) fun K hK => ?_
   try simp only [ltb,List.replicate_zero,List.replicate_succ]
   refine runM_cut 6 (by simp) (by simp) fun K1 hK1 => ?_
   try simp only [ltb]
   simp only [hc1,hc2,hf1,hf2,List.length_append,List.length_cons,List.length_nil,Nat.zero_add,hle1,hle2,hle3,hle1,List.length_map,go_sem,reduceIte,reduceAdd,reduceLT,reduceLeDiff,reduceMul,reduceEqDiff,reduceSub,reduceCtorEq,List.take_length,List.replicate]
   refine hK1 _ ?_
   refine runM_cut 6 (by simp) (by simp) fun K1 hK1 => ?_
   try simp only [ltb]
   simp only [hc1,hc2,hf1,hf2,List.length_append,List.length_cons,List.length_nil,Nat.zero_add,hle1,hle2,hle3,hle1,List.length_map,go_sem,reduceIte,reduceAdd,reduceLT,reduceLeDiff,reduceMul,reduceEqDiff,reduceSub,reduceCtorEq,List.take_length,List.replicate]
   refine hK1 _ ?_
   try simp only [ltb]
   simp only [hc1,hc2,hf1,hf2,List.length_append,List.length_cons,List.length_nil,Nat.zero_add,hle1,hle2,hle3,hle1,List.length_map,go_sem,reduceIte,reduceAdd,reduceLT,reduceLeDiff,reduceMul,reduceEqDiff,reduceSub,reduceCtorEq,List.take_length,List.replicate]
   refine hK _ _ rfl ?_
   simp only [mwb,reduceAdd,reduceEqDiff]
   refine ex_ret ?_
   first | exact ⟨.inl rfl, _, hres, rfl⟩ | (refine ⟨.inl rfl, _, rfl, ?_⟩; rw [← hres]; simp [retV, resL, resV, Tryz.f86, pur, pur1, purCell, insLen, encU]; exact ⟨by omega, List.take_of_length_le (by simp; omega)⟩)
  ·have hlt : i < l.length := by have := of_decide_eq_true hb4_4; omega
   obtain ⟨x, hx⟩ : ∃ x, l[i]? = some x := ⟨_, List.getElem?_eq_getElem hlt⟩
   refine runM_cut 6 (by simp) (by simp) fun K1 hK1 => ?_
   try simp only [ltb]
   simp only [List.getElem?_map,hx,encU,ev_useql,List.length_map,go_sem,reduceIte,reduceAdd,reduceLT,reduceLeDiff,reduceMul,reduceEqDiff,reduceSub,reduceCtorEq,List.take_length,List.replicate]
   refine hK1 _ ?_
   try simp only [ltb]
   simp only [List.getElem?_map,hx,encU,ev_useql,List.length_map,go_sem,reduceIte,reduceAdd,reduceLT,reduceLeDiff,reduceMul,reduceEqDiff,reduceSub,reduceCtorEq,List.take_length,List.replicate]
   refine hK _ _ rfl ?_
   simp only [mwb,reduceAdd,reduceEqDiff]
   refine ex_if rfl (fun hc31 => ?_) (fun hc31 => ?_)
   ·have hxs : x = s := by simpa using hc31
    have hres : V.slice (l.map encU) = .slice ((insL ltU l s).map encU) := by rw [hins, if_pos (by rw [hx, hxs])]
    refine ex_region_w tt_ok 45 (0::0::0::0::2::(rp 27 0 [1])) [] rfl rfl fun K hK => ?_
    try simp only [ltb]
    try simp only [ltb]
    simp only [List.getElem?_map,hx,encU,ev_useql,List.length_map,go_sem,reduceIte,reduceAdd,reduceLT,reduceLeDiff,reduceMul,reduceEqDiff,reduceSub,reduceCtorEq,List.take_length]
    refine hK _ _ rfl ?_
    simp only [mwb,reduceAdd,reduceEqDiff]
    refine ex_ret ?_
    first | exact ⟨.inl rfl, _, hres, rfl⟩ | (refine ⟨.inl rfl, _, rfl, ?_⟩; rw [← hres]; simp [retV, resL, resV, Tryz.f86, pur, pur1, purCell, insLen, encU]; exact ⟨by omega, List.take_of_length_le (by simp; omega)⟩)
   ·have hxs : ¬ x = s := by simpa using hc31
    have hns : ¬ l[i]? = some s := by rw [hx]; exact fun e => hxs (Option.some.inj e)
    have hres : (V.slice (((l.take i) ++ [s] ++ (l.drop i)).map encU)) = .slice ((insL ltU l s).map encU) := by rw [hins, if_neg hns]
    refine ex_skip ?_
    show Go.Eng.Ex _ _ _ _ _ _
    have hc1 := fun mem => cutTo2 l encU 2 (fun _ => rfl) i hi mem
    have hc2 := fun mem => cutFrom2 l encU 2 (fun _ => rfl) i hi mem
    have hf1 := fun (k : List Us) => firstMap k encU 2 (fun _ => rfl)
    have hf2 : firstOk [V.agg [V.sc (.string s.1), V.sc (.string s.2)]] 0 2 = true := rfl
    have hle1 : (l.take i).length ≤ 34359738368 := by rw [List.length_take]; omega
    have hle2 : (l.take i).length + 1 ≤ 34359738368 := by rw [List.length_take]; omega
    have hle3 : (l.take i).length + 1 + (l.drop i).length ≤ 34359738368 := by rw [List.length_take, List.length_drop]; omega
    refine ex_mixed_w tt_ok mixed_ok 45 [0,0,0,0,2,0,0,0,0,0,0,0,0,0,0,0,0,0,0,0,0,0,0,0,0,0,0,0,0,0,0,0,0,1,1,1,1,1,1,1,1,1,1,1,1] (by kernel_rfl) [⟨.a, 0, [], []⟩, ⟨.n, 0, [], []⟩, ⟨.n, 0, [], []⟩, ⟨.r, 0, [0], [1,2]⟩, ⟨.w, 1, [], [0,1,2,3]⟩, ⟨.n, 0, [], []⟩, ⟨.n, 0, [], [5]⟩, ⟨.w, 2, [], [0,1,2,3,4,5,6]⟩, ⟨.n, 0, [], []⟩, ⟨.n, 0, [], []⟩, ⟨.n, 0, [], [8,9]⟩, ⟨.w, 3, [], [0,1,2,3,4,5,6,7,8,9,10]⟩, ⟨.n, 0, [], [0,1,2,3,4,5,6,7,8,9,10,11]⟩] 4 (by kernel_rfl) fun K hK => ?_
    try simp only [ltb,List.replicate_zero,List.replicate_succ]
    refine runM_cut 6 (by simp) (by simp) fun K1 hK1 => ?_
    try simp only [ltb]
    simp only [List.getElem?_map,hx,encU,ev_useql,hc1,hc2,hf1,hf2,List.length_append,List.length_cons,List.length_nil,Nat.zero_add,hle1,hle2,hle3,hle1,List.length_map,go_sem,reduceIte,reduceAdd,reduceLT,reduceLeDiff,reduceMul,reduceEqDiff,reduceSub,reduceCtorEq,List.take_length,List.replicate]
    refine hK1 _ ?_
    refine runM_cut 6 (by simp) (by simp) fun K1 hK1 => ?_
    try simp only [ltb]
    simp only [List.getElem?_map,hx,encU,ev_useql,hc1,hc2,hf1,hf2,List.length_append,List.length_cons,List.length_nil,Nat.zero_add,hle1,hle2,hle3,hle1,List.length_map,go_sem,reduceIte,reduceAdd,reduceLT,reduceLeDiff,reduceMul,reduceEqDiff,reduceSub,reduceCtorEq,List.take_length,List.replicate]
    refine hK1 _ ?_
    try simp only [ltb]
    simp only [List.getElem?_map,hx,encU,ev_useql,hc1,hc2,hf1,hf2,List.length_append,List.length_cons,List.length_nil,Nat.zero_add,hle1,hle2,hle3,hle1,List.length_map,go_sem,reduceIte,reduceAdd,reduceLT,reduceLeDiff,reduceMul,reduceEqDiff,reduceSub,reduceCtorEq,List.take_length,List.replicate]
    refine hK _ _ rfl ?_
    simp only [mwb,reduceAdd,reduceEqDiff]
    refine ex_ret ?_
    first | exact ⟨.inl rfl, _, hres, rfl⟩ | (refine ⟨.inl rfl, _, rfl, ?_⟩; rw [← hres]; simp [retV, resL, resV, Tryz.f86, pur, pur1, purCell, insLen, encU]; exact ⟨by omega, List.take_of_length_le (by simp; omega)⟩)
theorem rment1 (t : Ty) (ht : t.size ≤ 1048576) (ih : ∀ p ∈ t.parts, FnOk Tryz.prog 40 [encTy p] (.slice ((gathT ltU usOf p).map encU))) : ∃ r, (fun v => v = .slice ((gathT ltU usOf t).map encU)) r ∧ FnOk Tryz.prog 40 [encTy t] r := by
 refine fn_ex tt_ok (fn := Tryz.f40) Tryz.func40 rfl Tryz.call40 ?_
 simp only [ltb,startSt,Tryz.ntmps40,List.length_cons,List.length_nil,reduceAdd,reduceSub,List.replicate_succ,List.replicate_zero]
 have hpl := t.parts_length
 have h21 := parts_ok t (by omega)
 have hsp := t.size_parts
 have hlp : t.parts.length ≤ t.size := by have := length_le_sum Ty.size Ty.size_pos t.parts; omega
 rw [encTy_eq] at h21 ⊢
 simp only [tyCells] at h21 ⊢
 refine ex_region_w tt_ok 46 [0,2,2] [] rfl rfl fun K hK => ?_
 try simp only [ltb]
 try simp only [ltb]
 simp only [length_encTys,List.length_map,go_sem,reduceIte,reduceAdd,reduceLT,reduceLeDiff,reduceMul,reduceEqDiff,reduceSub,reduceCtorEq,List.take_length]
 refine hK _ _ rfl ?_
 simp only [mwb,reduceAdd,reduceEqDiff]
 refine ex_region_w tt_ok 46 [0,0,0,2,0,0,0,0,1] [] rfl rfl fun K hK => ?_
 try simp only [ltb]
 try simp only [ltb]
 simp only [length_encTys,List.length_map,go_sem,reduceIte,reduceAdd,reduceLT,reduceLeDiff,reduceMul,reduceEqDiff,reduceSub,reduceCtorEq,List.take_length]
 refine hK _ _ rfl ?_
 simp only [mwb,reduceAdd,reduceEqDiff]
 refine ex_seq ?_
 refine ex_region_w tt_ok 46 (rp 9 0 [1,1,2]) [] rfl rfl fun K hK => ?_
 try simp only [ltb]
 try simp only [ltb]
 simp only [length_encTys,List.length_map,go_sem,reduceIte,reduceAdd,reduceLT,reduceLeDiff,reduceMul,reduceEqDiff,reduceSub,reduceCtorEq,List.take_length]
 refine hK _ _ rfl ?_
 simp only [mwb,reduceAdd,reduceEqDiff]
 refine ex_if rfl (fun hc11 => ?_) (fun hc11 => ?_)
 ·have hnm : usOf t = [(t.mod, t.name)] := if_pos (of_decide_eq_true hc11)
  refine ex_last_region_w tt_ok 46 (0::0::0::2::(rp 8 0 (rp 8 2 []))) [] (by kernel_rfl) rfl rfl fun K hK => ?_
  try simp only [ltb]
  refine runX_cut 8 fun K1 hK1 => ?_
  simp only [ltb]
  simp only [length_encTys,List.length_map,go_sem,reduceIte,reduceAdd,reduceLT,reduceLeDiff,reduceMul,reduceEqDiff,reduceSub,reduceCtorEq,List.take_length]
  refine hK1 _ ?_
  try simp only [ltb]
  simp only [length_encTys,List.length_map,go_sem,reduceIte,reduceAdd,reduceLT,reduceLeDiff,reduceMul,reduceEqDiff,reduceSub,reduceCtorEq,List.take_length]
  refine hK _ _ rfl ?_
  simp only [mwb,reduceAdd,reduceEqDiff]
  show Go.Eng.Ex _ _ _ _ _ _
  refine ex_region_w tt_ok 46 (0::0::0::0::2::(rp 15 0 [1,1])) [] rfl rfl fun K hK => ?_
  try simp only [ltb]
  refine runX_cut 2 fun K1 hK1 => ?_
  simp only [ltb]
  simp only [length_encTys,List.length_map,go_sem,reduceIte,reduceAdd,reduceLT,reduceLeDiff,reduceMul,reduceEqDiff,reduceSub,reduceCtorEq,List.take_length]
  refine callF_ex (⟨_, rfl, h21⟩) ?_
  rintro _ rfl
  try simp only [length_encTys,List.length_map,go_sem,reduceIte,reduceAdd,reduceLT,reduceLeDiff,reduceMul,reduceEqDiff,reduceSub,reduceCtorEq,List.take_length]
  refine hK1 _ ?_
  try simp only [ltb]
  simp only [length_encTys,List.length_map,go_sem,reduceIte,reduceAdd,reduceLT,reduceLeDiff,reduceMul,reduceEqDiff,reduceSub,reduceCtorEq,List.take_length]
  refine hK _ _ rfl ?_
  simp only [mwb,reduceAdd,reduceEqDiff]
  refine ex_seq ?_
  refine ex_region_w tt_ok 46 [0,0,0,0,0,2] [] rfl rfl fun K hK => ?_
  try simp only [ltb]
  try simp only [ltb]
  simp only [length_encTys,List.length_map,go_sem,reduceIte,reduceAdd,reduceLT,reduceLeDiff,reduceMul,reduceEqDiff,reduceSub,reduceCtorEq,List.take_length]
  refine hK _ _ rfl ?_
  simp only [mwb,reduceAdd,reduceEqDiff]
  refine ex_block ?_
  refine ex_frz 3 rfl rfl ?_
  simp only [List.set_cons_succ,List.set_cons_zero,List.drop_zero,List.take_succ_cons,List.take_zero,List.take_nil,List.drop_nil,frzAll,frz1,ref1,refCell,List.foldl_cons,List.foldl_nil,List.getElem?_cons_succ,List.getElem?_cons_zero,if_true]
  refine ex_loopK [3,5] [_, num 0] 1 [false,false,true,true,true,true,false,false,false,false,false,true] (fun vs => ((t.parts.length : Int) - intOf (vs.getD 1 .undef)).toNat) (fun vs => ∃ i : Nat, vs = [.slice ((gathI ltU usOf t i).map encU), num i] ∧ i ≤ t.parts.length) (by omega) (by simp only [maskFr,belowV,belowL,belowB,reduceLT,mkb]) (by simp only [maskFr,belowV,belowL,belowB,reduceLT,mkb]) (by rfl) (⟨0, by rw [gathI_zero, hnm]; rfl, Nat.zero_le _⟩) fun vs hI => ?_
  obtain ⟨i, rfl, hi⟩ := hI
  simp only [maskFr,belowV,belowL,belowB,reduceLT,putAll,List.set_cons_zero,List.set_cons_succ,mkb]
  refine ex_seq ?_
  refine ex_region_w tt_ok 46 (rp 22 0 [1,1,1,2]) [] rfl rfl fun K hK => ?_
  try simp only [ltb]
  try simp only [ltb]
  simp only [length_encTys,List.length_map,go_sem,reduceIte,reduceAdd,reduceLT,reduceLeDiff,reduceMul,reduceEqDiff,reduceSub,reduceCtorEq,List.take_length]
  refine hK _ _ rfl ?_
  simp only [mwb,reduceAdd,reduceEqDiff]
  refine ex_if rfl (fun hc25 => ?_) (fun hc25 => ?_)
  ·have hlt : i < t.parts.length := by simpa using hc25
   obtain ⟨p, hp⟩ : ∃ p, t.parts[i]? = some p := ⟨_, List.getElem?_eq_getElem hlt⟩
   have hpm := List.mem_of_getElem? hp
   have hw := i64_succ i (by omega)
   refine ex_skip ?_
   show Go.Eng.Ex _ _ _ _ _ _
   refine ex_seq ?_
   refine ex_block ?_
   refine ex_region_w tt_ok 46 (0::0::0::0::0::0::2::(rp 21 0 [1,1,1,1,1])) [] rfl rfl fun K hK => ?_
   try simp only [ltb]
   refine runX_cut 5 fun K1 hK1 => ?_
   simp only [ltb]
   simp only [get_encTys,hp,hw,encTy_eq,tyCells,length_encTys,List.length_map,go_sem,reduceIte,reduceAdd,reduceLT,reduceLeDiff,reduceMul,reduceEqDiff,reduceSub,reduceCtorEq,List.take_length]
   refine callF_ex (⟨_, rfl, by have h := ih p hpm; rw [encTy_eq] at h; simpa only [tyCells] using h⟩) ?_
   rintro _ rfl
   try simp only [get_encTys,hp,hw,encTy_eq,tyCells,length_encTys,List.length_map,go_sem,reduceIte,reduceAdd,reduceLT,reduceLeDiff,reduceMul,reduceEqDiff,reduceSub,reduceCtorEq,List.take_length]
   obtain ⟨g, hg⟩ : ∃ g, g = gathT ltU usOf p := ⟨_, rfl⟩
   rw [← hg]
   have hgl : g.length ≤ 1048576 := by have := gathT_length (lt := ltU) usOf_len p; have := sumBy_mem Ty.size hp; rw [hg]; omega
   refine hK1 _ ?_
   try simp only [ltb]
   simp only [get_encTys,hp,hw,encTy_eq,tyCells,length_encTys,List.length_map,go_sem,reduceIte,reduceAdd,reduceLT,reduceLeDiff,reduceMul,reduceEqDiff,reduceSub,reduceCtorEq,List.take_length]
   refine hK _ _ rfl ?_
   simp only [mwb,reduceAdd,reduceEqDiff]
   refine ex_region_w tt_ok 46 [0,0,0,0,0,0,0,2] [] rfl rfl fun K hK => ?_
   try simp only [ltb]
   try simp only [ltb]
   simp only [get_encTys,hp,hw,encTy_eq,tyCells,length_encTys,List.length_map,go_sem,reduceIte,reduceAdd,reduceLT,reduceLeDiff,reduceMul,reduceEqDiff,reduceSub,reduceCtorEq,List.take_length]
   refine hK _ _ rfl ?_
   simp only [mwb,reduceAdd,reduceEqDiff]
   refine ex_block ?_
   refine ex_loopK [3,7] [_, num 0] 1 (false::false::true::true::true::true::true::true::false::false::false::true::(rp 10 false [true,true,true,true,false,false,true,true,true,true,true])) (fun vs => ((g.length : Int) - intOf (vs.getD 1 .undef)).toNat) (fun vs => ∃ k : Nat, vs = [.slice ((insAll ltU (gathI ltU usOf t i) (g.take k)).map encU), num k] ∧ k ≤ g.length) (by omega) (by simp only [maskFr,belowV,belowL,belowB,reduceLT,mkb]) (by simp only [maskFr,belowV,belowL,belowB,reduceLT,mkb]) (by rfl) (⟨0, by simp [insAll], Nat.zero_le _⟩) fun vs hI => ?_
   obtain ⟨k, rfl, hk⟩ := hI
   simp only [maskFr,belowV,belowL,belowB,reduceLT,putAll,List.set_cons_zero,List.set_cons_succ,mkb]
   refine ex_seq ?_
   refine ex_region_w tt_ok 46 (rp 33 0 [1,1,1,2]) [] rfl rfl fun K hK => ?_
   try simp only [ltb]
   try simp only [ltb]
   simp only [get_encTys,hp,hw,encTy_eq,tyCells,length_encTys,List.length_map,go_sem,reduceIte,reduceAdd,reduceLT,reduceLeDiff,reduceMul,reduceEqDiff,reduceSub,reduceCtorEq,List.take_length]
   refine hK _ _ rfl ?_
   simp only [mwb,reduceAdd,reduceEqDiff]
   refine ex_if rfl (fun hc36 => ?_) (fun hc36 => ?_)
   ·have hlk : k < g.length := by simpa using hc36
    obtain ⟨x, hx⟩ : ∃ x, g[k]? = some x := ⟨_, List.getElem?_eq_getElem hlk⟩
    have hwk := i64_succ k (by omega)
    have hal : (insAll ltU (gathI ltU usOf t i) (g.take k)).length ≤ 1048576 := by have := gathI_len ltU usOf usOf_len hp k; rw [← hg] at this; omega
    refine ex_skip ?_
    show Go.Eng.Ex _ _ _ _ _ _
    refine ex_seq ?_
    refine ex_block ?_
    refine ex_last_region_w tt_ok 46 (0::0::0::2::(rp 35 0 [2,2,2,2,2,2])) [] (by kernel_rfl) rfl rfl fun K hK => ?_
    try simp only [ltb]
    refine runX_cut 6 fun K1 hK1 => ?_
    simp only [ltb]
    simp only [get_encTys,hp,hw,encTy_eq,tyCells,List.getElem?_map,hx,hwk,encU,length_encTys,List.length_map,go_sem,reduceIte,reduceAdd,reduceLT,reduceLeDiff,reduceMul,reduceEqDiff,reduceSub,reduceCtorEq,List.take_length]
    refine callF_ex (by have h := insertUse_ex _ x hal; simpa only [encU] using h) ?_
    rintro _ rfl
    try simp only [get_encTys,hp,hw,encTy_eq,tyCells,List.getElem?_map,hx,hwk,encU,length_encTys,List.length_map,go_sem,reduceIte,reduceAdd,reduceLT,reduceLeDiff,reduceMul,reduceEqDiff,reduceSub,reduceCtorEq,List.take_length]
    refine hK1 _ ?_
    try simp only [ltb]
    simp only [get_encTys,hp,hw,encTy_eq,tyCells,List.getElem?_map,hx,hwk,encU,length_encTys,List.length_map,go_sem,reduceIte,reduceAdd,reduceLT,reduceLeDiff,reduceMul,reduceEqDiff,reduceSub,reduceCtorEq,List.take_length]
    refine hK _ _ rfl ?_
    simp only [mwb,reduceAdd,reduceEqDiff]
    show Go.Eng.Ex _ _ _ _ _ _
    refine ex_last_region_w tt_ok 46 (0::0::0::0::0::0::0::2::(rp 29 0 [2,2])) [] (by kernel_rfl) rfl rfl fun K hK => ?_
    try simp only [ltb]
    try simp only [ltb]
    simp only [get_encTys,hp,hw,encTy_eq,tyCells,List.getElem?_map,hx,hwk,encU,length_encTys,List.length_map,go_sem,reduceIte,reduceAdd,reduceLT,reduceLeDiff,reduceMul,reduceEqDiff,reduceSub,reduceCtorEq,List.take_length]
    refine hK _ _ rfl ?_
    simp only [mwb,reduceAdd,reduceEqDiff]
    refine ⟨[_, _], ?_, ?_, 1, (false::false::true::true::true::true::true::true::false::false::false::true::(rp 10 false [true,true,true,true,false,false,true,true,true,true,true])), by omega, by simp only [maskFr,belowV,belowL,belowB,reduceLT,mkb], by simp only [maskFr,belowV,belowL,belowB,reduceLT,mkb], by simp only [maskFr,belowV,belowL,belowB,reduceLT,putAll,List.set_cons_zero,List.set_cons_succ,mkb]; rfl⟩
    ·exact ⟨k + 1, by rw [insAll_take ltU hx], hlk⟩
    ·simp [intOf]; omega
   ·have hgk : g.length ≤ k := by have h := of_decide_eq_false hc36; omega
    refine ex_exit ?_
    show Go.Eng.Ex _ _ _ _ _ _
    refine ex_last_region_w tt_ok 46 (0::0::0::0::0::2::(rp 20 0 [2,2])) [] (by kernel_rfl) rfl rfl fun K hK => ?_
    try simp only [ltb]
    try simp only [ltb]
    simp only [get_encTys,hp,hw,encTy_eq,tyCells,length_encTys,List.length_map,go_sem,reduceIte,reduceAdd,reduceLT,reduceLeDiff,reduceMul,reduceEqDiff,reduceSub,reduceCtorEq,List.take_length]
    refine hK _ _ rfl ?_
    simp only [mwb,reduceAdd,reduceEqDiff]
    refine ⟨[_, _], ?_, ?_, 1, [false,false,true,true,true,true,false,false,false,false,false,true], by omega, by simp only [maskFr,belowV,belowL,belowB,reduceLT,mkb], by simp only [maskFr,belowV,belowL,belowB,reduceLT,mkb], by simp only [maskFr,belowV,belowL,belowB,reduceLT,putAll,List.set_cons_zero,List.set_cons_succ,mkb]; rfl⟩
    ·exact ⟨i + 1, by rw [gathI_succ ltU usOf hp, ← hg, List.take_of_length_le hgk], hlt⟩
    ·simp [intOf]; omega
  ·have hge : ¬ i < t.parts.length := by simpa using hc25
   have hres := gathI_all ltU usOf (t := t) (i := i) (by omega)
   refine ex_exit ?_
   show Go.Eng.Ex _ _ _ _ _ _
   refine ex_region_w tt_ok 46 (0::0::2::(rp 42 0 [1])) [] rfl rfl fun K hK => ?_
   try simp only [ltb]
   try simp only [ltb]
   simp only [length_encTys,List.length_map,go_sem,reduceIte,reduceAdd,reduceLT,reduceLeDiff,reduceMul,reduceEqDiff,reduceSub,reduceCtorEq,List.take_length]
   refine hK _ _ rfl ?_
   simp only [mwb,reduceAdd,reduceEqDiff]
   exact ex_ret ⟨.inl rfl, _, by rw [hres], rfl⟩
 ·have hnm : usOf t = [] := if_neg (of_decide_eq_false hc11)
  refine ex_skip ?_
  show Go.Eng.Ex _ _ _ _ _ _
  refine ex_region_w tt_ok 46 (0::0::0::0::2::(rp 15 0 [1,1])) [] rfl rfl fun K hK => ?_
  try simp only [ltb]
  refine runX_cut 2 fun K1 hK1 => ?_
  simp only [ltb]
  simp only [length_encTys,List.length_map,go_sem,reduceIte,reduceAdd,reduceLT,reduceLeDiff,reduceMul,reduceEqDiff,reduceSub,reduceCtorEq,List.take_length]
  refine callF_ex (⟨_, rfl, h21⟩) ?_
  rintro _ rfl
  try simp only [length_encTys,List.length_map,go_sem,reduceIte,reduceAdd,reduceLT,reduceLeDiff,reduceMul,reduceEqDiff,reduceSub,reduceCtorEq,List.take_length]
  refine hK1 _ ?_
  try simp only [ltb]
  simp only [length_encTys,List.length_map,go_sem,reduceIte,reduceAdd,reduceLT,reduceLeDiff,reduceMul,reduceEqDiff,reduceSub,reduceCtorEq,List.take_length]
  refine hK _ _ rfl ?_
  simp only [mwb,reduceAdd,reduceEqDiff]
  refine ex_seq ?_
  refine ex_region_w tt_ok 46 [0,0,0,0,0,2] [] rfl rfl fun K hK => ?_
  try simp only [ltb]
  try simp only [ltb]
  simp only [length_encTys,List.length_map,go_sem,reduceIte,reduceAdd,reduceLT,reduceLeDiff,reduceMul,reduceEqDiff,reduceSub,reduceCtorEq,List.take_length]
  refine hK _ _ rfl ?_
  simp only [mwb,reduceAdd,reduceEqDiff]
  refine ex_block ?_
  refine ex_frz 3 rfl rfl ?_
  simp only [List.set_cons_succ,List.set_cons_zero,List.drop_zero,List.take_succ_cons,List.take_zero,List.take_nil,List.drop_nil,frzAll,frz1,ref1,refCell,List.foldl_cons,List.foldl_nil,List.getElem?_cons_succ,List.getElem?_cons_zero,if_true]
  refine ex_loopK [3,5] [_, num 0] 1 [false,false,true,true,true,true,false,false,false,false,false,true] (fun vs => ((t.parts.length : Int) - intOf (vs.getD 1 .undef)).toNat) (fun vs => ∃ i : Nat, vs = [.slice ((gathI ltU usOf t i).map encU), num i] ∧ i ≤ t.parts.length) (by omega) (by simp only [maskFr,belowV,belowL,belowB,reduceLT,mkb]) (by simp only [maskFr,belowV,belowL,belowB,reduceLT,mkb]) (by rfl) (⟨0, by rw [gathI_zero, hnm]; rfl, Nat.zero_le _⟩) fun vs hI => ?_
  obtain ⟨i, rfl, hi⟩ := hI
  simp only [maskFr,belowV,belowL,belowB,reduceLT,putAll,List.set_cons_zero,List.set_cons_succ,mkb]
  refine ex_seq ?_
  refine ex_region_w tt_ok 46 (rp 22 0 [1,1,1,2]) [] rfl rfl fun K hK => ?_
  try simp only [ltb]
  try simp only [ltb]
  simp only [length_encTys,List.length_map,go_sem,reduceIte,reduceAdd,reduceLT,reduceLeDiff,reduceMul,reduceEqDiff,reduceSub,reduceCtorEq,List.take_length]
  refine hK _ _ rfl ?_
  simp only [mwb,reduceAdd,reduceEqDiff]
  refine ex_if rfl (fun hc25 => ?_) (fun hc25 => ?_)
  ·have hlt : i < t.parts.length := by simpa using hc25
   obtain ⟨p, hp⟩ : ∃ p, t.parts[i]? = some p := ⟨_, List.getElem?_eq_getElem hlt⟩
   have hpm := List.mem_of_getElem? hp
   have hw := i64_succ i (by omega)
   refine ex_skip ?_
   show Go.Eng.Ex _ _ _ _ _ _
   refine ex_seq ?_
   refine ex_block ?_
   refine ex_region_w tt_ok 46 (0::0::0::0::0::0::2::(rp 21 0 [1,1,1,1,1])) [] rfl rfl fun K hK => ?_
   try simp only [ltb]
   refine runX_cut 5 fun K1 hK1 => ?_
   simp only [ltb]
   simp only [get_encTys,hp,hw,encTy_eq,tyCells,length_encTys,List.length_map,go_sem,reduceIte,reduceAdd,reduceLT,reduceLeDiff,reduceMul,reduceEqDiff,reduceSub,reduceCtorEq,List.take_length]
   refine callF_ex (⟨_, rfl, by have h := ih p hpm; rw [encTy_eq] at h; simpa only [tyCells] using h⟩) ?_
   rintro _ rfl
   try simp only [get_encTys,hp,hw,encTy_eq,tyCells,length_encTys,List.length_map,go_sem,reduceIte,reduceAdd,reduceLT,reduceLeDiff,reduceMul,reduceEqDiff,reduceSub,reduceCtorEq,List.take_length]
   obtain ⟨g, hg⟩ : ∃ g, g = gathT ltU usOf p := ⟨_, rfl⟩
   rw [← hg]
   have hgl : g.length ≤ 1048576 := by have := gathT_length (lt := ltU) usOf_len p; have := sumBy_mem Ty.size hp; rw [hg]; omega
   refine hK1 _ ?_
   try simp only [ltb]
   simp only [get_encTys,hp,hw,encTy_eq,tyCells,length_encTys,List.length_map,go_sem,reduceIte,reduceAdd,reduceLT,reduceLeDiff,reduceMul,reduceEqDiff,reduceSub,reduceCtorEq,List.take_length]
   refine hK _ _ rfl ?_
   simp only [mwb,reduceAdd,reduceEqDiff]
   refine ex_region_w tt_ok 46 [0,0,0,0,0,0,0,2] [] rfl rfl fun K hK => ?_
   try simp only [ltb]
   try simp only [ltb]
   simp only [get_encTys,hp,hw,encTy_eq,tyCells,length_encTys,List.length_map,go_sem,reduceIte,reduceAdd,reduceLT,reduceLeDiff,reduceMul,reduceEqDiff,reduceSub,reduceCtorEq,List.take_length]
   refine hK _ _ rfl ?_
   simp only [mwb,reduceAdd,reduceEqDiff]
   refine ex_block ?_
   refine ex_loopK [3,7] [_, num 0] 1 (false::false::true::true::true::true::true::true::false::false::false::true::(rp 10 false [true,true,true,true,false,false,true,true,true,true,true])) (fun vs => ((g.length : Int) - intOf (vs.getD 1 .undef)).toNat) (fun vs => ∃ k : Nat, vs = [.slice ((insAll ltU (gathI ltU usOf t i) (g.take k)).map encU), num k] ∧ k ≤ g.length) (by omega) (by simp only [maskFr,belowV,belowL,belowB,reduceLT,mkb]) (by simp only [maskFr,belowV,belowL,belowB,reduceLT,mkb]) (by rfl) (⟨0, by simp [insAll], Nat.zero_le _⟩) fun vs hI => ?_
   obtain ⟨k, rfl, hk⟩ := hI
   simp only [maskFr,belowV,belowL,belowB,reduceLT,putAll,List.set_cons_zero,List.set_cons_succ,mkb]
   refine ex_seq ?_
   refine ex_region_w tt_ok 46 (rp 33 0 [1,1,1,2]) [] rfl rfl fun K hK => ?_
   try simp only [ltb]
   try simp only [ltb]
   simp only [get_encTys,hp,hw,encTy_eq,tyCells,length_encTys,List.length_map,go_sem,reduceIte,reduceAdd,reduceLT,reduceLeDiff,reduceMul,reduceEqDiff,reduceSub,reduceCtorEq,List.take_length]
   refine hK _ _ rfl ?_
   simp only [mwb,reduceAdd,reduceEqDiff]
   refine ex_if rfl (fun hc36 => ?_) (fun hc36 => ?_)
   ·have hlk : k < g.length := by simpa using hc36
    obtain ⟨x, hx⟩ : ∃ x, g[k]? = some x := ⟨_, List.getElem?_eq_getElem hlk⟩
    have hwk := i64_succ k (by omega)
    have hal : (insAll ltU (gathI ltU usOf t i) (g.take k)).length ≤ 1048576 := by have := gathI_len ltU usOf usOf_len hp k; rw [← hg] at this; omega
    refine ex_skip ?_
    show Go.Eng.Ex _ _ _ _ _ _
    refine ex_seq ?_
    refine ex_block ?_
    refine ex_last_region_w tt_ok 46 (0::0::0::2::(rp 35 0 [2,2,2,2,2,2])) [] (by kernel_rfl) rfl rfl fun K hK => ?_
    try simp only [ltb]
    refine runX_cut 6 fun K1 hK1 => ?_
    simp only [ltb]
    simp only [get_encTys,hp,hw,encTy_eq,tyCells,List.getElem?_map,hx,hwk,encU,length_encTys,List.length_map,go_sem,reduceIte,reduceAdd,reduceLT,reduceLeDiff,reduceMul,reduceEqDiff,reduceSub,reduceCtorEq,List.take_length]
    refine callF_ex (by have h := insertUse_ex _ x hal; simpa only [encU] using h) ?_
    rintro _ rfl
    try simp only [get_encTys,hp,hw,encTy_eq,tyCells,List.getElem?_map,hx,hwk,encU,length_encTys,List.length_map,go_sem,reduceIte,reduceAdd,reduceLT,reduceLeDiff,reduceMul,reduceEqDiff,reduceSub,reduceCtorEq,List.take_length]
    refine hK1 _ ?_
    try simp only [ltb]
    simp only [get_encTys,hp,hw,encTy_eq,tyCells,List.getElem?_map,hx,hwk,encU,length_encTys,List.length_map,go_sem,reduceIte,reduceAdd,reduceLT,reduceLeDiff,reduceMul,reduceEqDiff,reduceSub,reduceCtorEq,List.take_length]
    refine hK _ _ rfl ?_
    simp only [mwb,reduceAdd,reduceEqDiff]
    show Go.Eng.Ex _ _ _ _ _ _
    refine ex_last_region_w tt_ok 46 (0::0::0::0::0::0::0::2::(rp 29 0 [2,2])) [] (by kernel_rfl) rfl rfl fun K hK => ?_
    try simp only [ltb]
    try simp only [ltb]
    simp only [get_encTys,hp,hw,encTy_eq,tyCells,List.getElem?_map,hx,hwk,encU,length_encTys,List.length_map,go_sem,reduceIte,reduceAdd,reduceLT,reduceLeDiff,reduceMul,reduceEqDiff,reduceSub,reduceCtorEq,List.take_length]
    refine hK _ _ rfl ?_
    simp only [mwb,reduceAdd,reduceEqDiff]
    refine ⟨[_, _], ?_, ?_, 1, (false::false::true::true::true::true::true::true::false::false::false::true::(rp 10 false [true,true,true,true,false,false,true,true,true,true,true])), by omega, by simp only [maskFr,belowV,belowL,belowB,reduceLT,mkb], by simp only [maskFr,belowV,belowL,belowB,reduceLT,mkb], by simp only [maskFr,belowV,belowL,belowB,reduceLT,putAll,List.set_cons_zero,List.set_cons_succ,mkb]; rfl⟩
    ·exact ⟨k + 1, by rw [insAll_take ltU hx], hlk⟩
    ·simp [intOf]; omega
   ·have hgk : g.length ≤ k := by have h := of_decide_eq_false hc36; omega
    refine ex_exit ?_
    show Go.Eng.Ex _ _ _ _ _ _
    refine ex_last_region_w tt_ok 46 (0::0::0::0::0::2::(rp 20 0 [2,2])) [] (by kernel_rfl) rfl rfl fun K hK => ?_
    try simp only [ltb]
    try simp only [ltb]
    simp only [get_encTys,hp,hw,encTy_eq,tyCells,length_encTys,List.length_map,go_sem,reduceIte,reduceAdd,reduceLT,reduceLeDiff,reduceMul,reduceEqDiff,reduceSub,reduceCtorEq,List.take_length]
    refine hK _ _ rfl ?_
    simp only [mwb,reduceAdd,reduceEqDiff]
    refine ⟨[_, _], ?_, ?_, 1, [false,false,true,true,true,true,false,false,false,false,false,true], by omega, by simp only [maskFr,belowV,belowL,belowB,reduceLT,mkb], by simp only [maskFr,belowV,belowL,belowB,reduceLT,mkb], by simp only [maskFr,belowV,belowL,belowB,reduceLT,putAll,List.set_cons_zero,List.set_cons_succ,mkb]; rfl⟩
    ·exact ⟨i + 1, by rw [gathI_succ ltU usOf hp, ← hg, List.take_of_length_le hgk], hlt⟩
    ·simp [intOf]; omega
  ·have hge : ¬ i < t.parts.length := by simpa using hc25
   have hres := gathI_all ltU usOf (t := t) (i := i) (by omega)
   refine ex_exit ?_
   show Go.Eng.Ex _ _ _ _ _ _
   refine ex_region_w tt_ok 46 (0::0::2::(rp 42 0 [1])) [] rfl rfl fun K hK => ?_
   try simp only [ltb]
   try simp only [ltb]
   simp only [length_encTys,List.length_map,go_sem,reduceIte,reduceAdd,reduceLT,reduceLeDiff,reduceMul,reduceEqDiff,reduceSub,reduceCtorEq,List.take_length]
   refine hK _ _ rfl ?_
   simp only [mwb,reduceAdd,reduceEqDiff]
   exact ex_ret ⟨.inl rfl, _, by rw [hres], rfl⟩
theorem rment_ok (t : Ty) (ht : t.size ≤ 1048576) : FnOk Tryz.prog 40 [encTy t] (.slice ((gathT ltU usOf t).map encU)) := by
 revert t
 refine Ty.induct fun t ih ht => ?_
 obtain ⟨_, rfl, h⟩ := rment1 t ht fun p hp => ih p hp (by obtain ⟨i, hi⟩ := List.mem_iff_getElem?.1 hp; have := sumBy_mem Ty.size hi; have := t.size_parts; omega)
 exact h
end Go.Proofs.YtpjdfcigadnhcaaGreatDoor
end

section
namespace Go.Proofs.YtpjdfcigadnhcaaGreatDoor
open Go.Eng
open Nat (reduceAdd reduceLT reduceLeDiff reduceMul reduceEqDiff reduceSub)
variable [Glob]
set_option maxHeartbeats 4000000
set_option maxRecDepth 100000
attribute [local irreducible] runM stepM valD stepOp stepD callF callS
def idxN (ns : List ByteArray) (s : ByteArray) : Int := match ns.findIdx? (fun m => s.toList == m.toList) with
 | some i => i
 | none => -1
theorem findIdx_some {α : Type} {p : α → Bool} : ∀ {l : List α} {i : Nat} {a : α}, l[i]? = some a → p a = true → (∀ j < i, ∀ b, l[j]? = some b → p b = false) → l.findIdx? p = some i
 | [], i, a, h, _, _ => by simp at h
 | b :: r, 0, a, h, hp, _ => by
  simp at h; subst h
  simp [List.findIdx?_cons, hp]
 | b :: r, i + 1, a, h, hp, hn => by
  have h0 := hn 0 (by omega) b rfl
  have ih := findIdx_some (l := r) (i := i) (a := a) (p := p) (by simpa using h) hp fun j hj c hc => hn (j + 1) (by omega) c (by simpa using hc)
  simp [List.findIdx?_cons, h0, ih]
theorem findIdx_none {α : Type} {p : α → Bool} : ∀ {l : List α}, (∀ (j : Nat) (b : α), l[j]? = some b → p b = false) → l.findIdx? p = none
 | [], _ => rfl
 | b :: r, hn => by
  have h0 := hn 0 b rfl
  have ih := findIdx_none (l := r) (p := p) fun j c hc => hn (j + 1) c (by simpa using hc)
  simp [List.findIdx?_cons, h0, ih]
theorem idxN_some {ns : List ByteArray} {s m : ByteArray} {i : Nat} (h : ns[i]? = some m) (hp : (s.toList == m.toList) = true) (hn : ∀ j < i, ∀ b, ns[j]? = some b → (s.toList == b.toList) = false) : idxN ns s = i := by
 unfold idxN; rw [findIdx_some h hp hn]
theorem idxN_none {ns : List ByteArray} {s : ByteArray} (hn : ∀ (j : Nat) (b : ByteArray), ns[j]? = some b → (s.toList == b.toList) = false) : idxN ns s = -1 := by
 unfold idxN; rw [findIdx_none hn]
theorem idxN_get {ns : List ByteArray} {s : ByteArray} : (idxN ns s = -1 ∧ ns.findIdx? (fun m => s.toList == m.toList) = none) ∨ ∃ i : Nat, idxN ns s = i ∧ i < ns.length ∧ ns.findIdx? (fun m => s.toList == m.toList) = some i := by
 unfold idxN
 cases h : ns.findIdx? (fun m => s.toList == m.toList) with
 | none => exact .inl ⟨rfl, rfl⟩
 | some i => exact .inr ⟨i, rfl, (List.findIdx?_eq_some_iff_findIdx_eq.1 h).1, rfl⟩
theorem first_fd (fs : List Fd) (n : Nat) : firstOk (encFds fs) n 7 = true := by
 rw [encFds_map]; unfold firstOk; split
 ·rename_i h; simp at h; obtain ⟨t, -, rfl⟩ := h; simp [len_encFd]
 ·rfl
theorem sidx_tot (ns : List ByteArray) (s : ByteArray) (hl : ns.length ≤ 1048576) : ∃ r, (fun v => v = num (idxN ns s)) r ∧ FnOk Tryz.prog 60 [.slice (ns.map str), str s] r := by
 refine fn_ex tt_ok (fn := Tryz.f60) Tryz.func60 rfl Tryz.call60 ?_
 simp only [ltb,startSt,Tryz.ntmps60,List.length_cons,List.length_nil,reduceAdd,reduceSub,List.replicate_succ,List.replicate_zero]
 refine ex_region_w tt_ok 19 [0,0,0,0,2] [] rfl rfl fun K hK => ?_
 try simp only [ltb]
 try simp only [ltb]
 simp only [List.length_map,go_sem,reduceIte,reduceAdd,reduceLT,reduceLeDiff,reduceMul,reduceEqDiff,reduceSub,reduceCtorEq,List.take_length]
 refine hK _ _ rfl ?_
 simp only [mwb,reduceAdd,reduceEqDiff]
 refine ex_seq ?_
 refine ex_region_w tt_ok 19 [0,0,0,0,0,0,1,2,2] [] rfl rfl fun K hK => ?_
 try simp only [ltb]
 try simp only [ltb]
 simp only [List.length_map,go_sem,reduceIte,reduceAdd,reduceLT,reduceLeDiff,reduceMul,reduceEqDiff,reduceSub,reduceCtorEq,List.take_length]
 refine hK _ _ rfl ?_
 simp only [mwb,reduceAdd,reduceEqDiff]
 refine ex_block ?_
 refine ex_loopK [8] [num 0] 0 [true,true,false,false,true,false,false,true,true] (fun vs => ((ns.length : Int) - intOf (vs.headD .undef)).toNat) (fun vs => ∃ i : Nat, vs = [num i] ∧ i ≤ ns.length ∧ ∀ j < i, ∀ b, ns[j]? = some b → (s.toList == b.toList) = false) (by omega) (by simp only [maskFr,belowV,belowL,belowB,reduceLT,mkb]) (by simp only [maskFr,belowV,belowL,belowB,reduceLT,mkb]) (by rfl) (⟨0, rfl, Nat.zero_le _, fun j hj => absurd hj (Nat.not_lt_zero j)⟩) fun vs hI => ?_
 obtain ⟨i, rfl, hi, hno⟩ := hI
 simp only [maskFr,belowV,belowL,belowB,reduceLT,putAll,List.set_cons_zero,List.set_cons_succ,mkb]
 refine ex_region_w tt_ok 19 (rp 9 0 [2]) [] rfl rfl fun K hK => ?_
 try simp only [ltb]
 try simp only [ltb]
 simp only [List.length_map,go_sem,reduceIte,reduceAdd,reduceLT,reduceLeDiff,reduceMul,reduceEqDiff,reduceSub,reduceCtorEq,List.take_length]
 refine hK _ _ rfl ?_
 simp only [mwb,reduceAdd,reduceEqDiff]
 refine ex_seq ?_
 refine ex_if rfl (fun hc9 => ?_) (fun hc9 => ?_)
 ·have hlt : i < ns.length := by simpa using hc9
  obtain ⟨m, hx⟩ : ∃ m, ns[i]? = some m := ⟨_, List.getElem?_eq_getElem hlt⟩
  have hw := i64_succ i (by omega)
  refine ex_skip ?_
  show Go.Eng.Ex _ _ _ _ _ _
  refine ex_seq ?_
  refine ex_block ?_
  refine ex_region_w tt_ok 19 [0,0,0,0,0,2,0,0,0,0,1] [] rfl rfl fun K hK => ?_
  try simp only [ltb]
  try simp only [ltb]
  simp only [List.getElem?_map,hx,hw,List.length_map,go_sem,reduceIte,reduceAdd,reduceLT,reduceLeDiff,reduceMul,reduceEqDiff,reduceSub,reduceCtorEq,List.take_length]
  refine hK _ _ rfl ?_
  simp only [mwb,reduceAdd,reduceEqDiff]
  refine ex_region_w tt_ok 19 (rp 11 0 [1,1,1,1,1,2]) [] rfl rfl fun K hK => ?_
  try simp only [ltb]
  try simp only [ltb]
  simp only [List.getElem?_map,hx,hw,List.length_map,go_sem,reduceIte,reduceAdd,reduceLT,reduceLeDiff,reduceMul,reduceEqDiff,reduceSub,reduceCtorEq,List.take_length]
  refine hK _ _ rfl ?_
  simp only [mwb,reduceAdd,reduceEqDiff]
  refine ex_if rfl (fun hc16 => ?_) (fun hc16 => ?_)
  ·have hres : (num (i : Int) : V) = num (idxN ns s) := by rw [idxN_some hx hc16 hno]
   refine ex_region_w tt_ok 19 (0::0::0::0::2::(rp 12 0 [1])) [] rfl rfl fun K hK => ?_
   try simp only [ltb]
   try simp only [ltb]
   simp only [List.getElem?_map,hx,hw,List.length_map,go_sem,reduceIte,reduceAdd,reduceLT,reduceLeDiff,reduceMul,reduceEqDiff,reduceSub,reduceCtorEq,List.take_length]
   refine hK _ _ rfl ?_
   simp only [mwb,reduceAdd,reduceEqDiff]
   exact ex_ret ⟨.inl rfl, _, hres, rfl⟩
  ·refine ex_skip ?_
   show Go.Eng.Ex _ _ _ _ _ _
   refine ex_last_region_w tt_ok 19 (rp 8 0 (2::(rp 9 0 [2]))) [] (by kernel_rfl) rfl rfl fun K hK => ?_
   try simp only [ltb]
   try simp only [ltb]
   simp only [List.getElem?_map,hx,hw,List.length_map,go_sem,reduceIte,reduceAdd,reduceLT,reduceLeDiff,reduceMul,reduceEqDiff,reduceSub,reduceCtorEq,List.take_length]
   refine hK _ _ rfl ?_
   simp only [mwb,reduceAdd,reduceEqDiff]
   refine ⟨[_], ?_, ?_, 0, [true,true,false,false,true,false,false,true,true], by omega, by simp only [maskFr,belowV,belowL,belowB,reduceLT,mkb], by simp only [maskFr,belowV,belowL,belowB,reduceLT,mkb], by simp only [maskFr,belowV,belowL,belowB,reduceLT,putAll,List.set_cons_zero,List.set_cons_succ,mkb]; rfl⟩
   ·refine ⟨i + 1, rfl, hlt, fun j hj b hb => ?_⟩
    rcases Nat.lt_or_ge j i with h | h
    ·exact hno j h b hb
    ·obtain rfl : j = i := by omega
     rw [hx] at hb; cases hb; exact hc16
   ·simp only [intOf,List.headD_cons]; omega
 ·have hge : ¬ i < ns.length := by simpa using hc9
  have hres : (num (-1) : V) = num (idxN ns s) := by rw [idxN_none fun j b hb => hno j (by have := (List.getElem?_eq_some_iff.1 hb).1; omega) b hb]
  refine ex_exit ?_
  show Go.Eng.Ex _ _ _ _ _ _
  refine ex_region_w tt_ok 19 [0,0,0,0,2] [] rfl rfl fun K hK => ?_
  try simp only [ltb]
  try simp only [ltb]
  simp only [List.length_map,go_sem,reduceIte,reduceAdd,reduceLT,reduceLeDiff,reduceMul,reduceEqDiff,reduceSub,reduceCtorEq,List.take_length]
  refine hK _ _ rfl ?_
  simp only [mwb,reduceAdd,reduceEqDiff]
  exact ex_ret ⟨.inl rfl, _, hres, rfl⟩
theorem cloneFd_ok (rows : List V) (h1 : firstOk rows 0 7 = true) (hl : rows.length ≤ 34359738368) : FnOkS Tryz.prog 62 [.slice rows] [] (.ms 0 1 0 rows.length) [.rows 1 7 rows] := by
 refine fns_ok tt_ok (fn := Tryz.f62) 1 (by simp) Tryz.func62 rfl Tryz.call62 ?_
 simp only [ltb,startSt,Tryz.ntmps62,List.length_cons,List.length_nil,reduceAdd,reduceSub,List.replicate_succ,List.replicate_zero]
 refine tri_seq_region tt_ok fun K hK => ?_
 simp only [go_sem,reduceIte,reduceAdd,reduceLT,reduceLeDiff,reduceMul,reduceEqDiff,reduceSub,reduceCtorEq]
 refine hK _ ?_
 refine tri_seq ?_
 refine tri_seq_region tt_ok fun K hK => ?_
 simp only [go_sem,reduceIte,reduceAdd,reduceLT,reduceLeDiff,reduceMul,reduceEqDiff,reduceSub,reduceCtorEq]
 intro b hb
 refine hK _ ?_
 cases b with
 | true =>
  have h0 : rows = [] := by
   cases rows with
   | nil => rfl
   | cons a r => have := hb (by simp); cases this
  subst h0
  refine tri_cond rfl ?_
  refine tri_seq_region tt_ok fun K hK => ?_
  simp only [go_sem,reduceIte,reduceAdd,reduceLT,reduceLeDiff,reduceMul,reduceEqDiff,reduceSub,reduceCtorEq]
  refine hK _ ?_
  refine tri_nilMs 2 1 7 rfl ?_
  exact tri_ret ⟨.inl rfl, rfl, rfl, rfl, rfl⟩
 | false =>
  refine tri_cond rfl (tri_skip ?_)
  show Tri _ _ _ _ _ _
  refine tri_seq_region tt_ok fun K hK => ?_
  simp only [h1,hl,go_sem,reduceIte,reduceAdd,reduceLT,reduceLeDiff,reduceMul,reduceEqDiff,reduceSub,reduceCtorEq]
  refine hK _ ?_
  refine tri_ret ⟨.inl rfl, ?_⟩
  simp [resOne, resL, resV, Tryz.f62, belowV, belowB, belowL]
end Go.Proofs.YtpjdfcigadnhcaaGreatDoor
end

section
namespace Go.Proofs.YtpjdfcigadnhcaaGreatDoor
open Go.Eng
open Nat (reduceAdd reduceLT reduceLeDiff reduceMul reduceEqDiff reduceSub)
variable [Glob]
set_option maxHeartbeats 4000000
set_option maxRecDepth 100000
attribute [local irreducible] runM stepM valD stepOp stepD callF callS
theorem pick_true {ns : List ByteArray} {us : List Ty} {t : Ty} (h1 : decide (t.kind = 9) = true) (h2 : decide (0 ≤ idxN ns t.name) = true) (h3 : decide (idxN ns t.name < (us.length : Int)) = true) : ∃ (i : Nat) (u : Ty), idxN ns t.name = i ∧ us[i]? = some u ∧ t.subst ns us = u := by
 have h1 := of_decide_eq_true h1
 have h2 := of_decide_eq_true h2
 have h3 := of_decide_eq_true h3
 rcases idxN_get (ns := ns) (s := t.name) with ⟨e, -⟩ | ⟨i, e, hi, hf⟩
 ·omega
 ·rw [e] at h3
  obtain ⟨u, hu⟩ : ∃ u, us[i]? = some u := ⟨_, List.getElem?_eq_getElem (by omega)⟩
  refine ⟨i, u, e, hu, ?_⟩
  rw [t.subst_eq, if_pos h1]
  unfold pickT
  rw [hf]
  dsimp only
  rw [hu]
theorem pick_false {ns : List ByteArray} {us : List Ty} {t : Ty} (h : decide (t.kind = 9) = false ∨ decide (0 ≤ idxN ns t.name) = false ∨ decide (idxN ns t.name < (us.length : Int)) = false) : t.subst ns us = .mk t.kind t.mod t.name (t.args.map (Ty.subst ns us)) (t.flds.map (Fd.subst ns us)) := by
 rw [t.subst_eq]
 by_cases h9 : t.kind = 9
 ·rw [if_pos h9]
  have : pickT ns us t.name = none := by
   unfold pickT
   rcases idxN_get (ns := ns) (s := t.name) with ⟨e, hf⟩ | ⟨i, e, hi, hf⟩
   ·rw [hf]
   ·rw [hf]
    dsimp only
    rw [List.getElem?_eq_none]
    rcases h with h | h | h
    ·exact absurd h9 (of_decide_eq_false h)
    ·have := of_decide_eq_false h; omega
    ·have := of_decide_eq_false h; omega
  rw [this]
 ·rw [if_neg h9]
theorem step_list {α : Type} {g : α → α} {l al : List α} {i : Nat} {x : α} (has : al = (l.take i).map g ++ l.drop i) (hx : l[i]? = some x) : al.set i (g x) = (l.take (i + 1)).map g ++ l.drop (i + 1) := by
 have hlt := (List.getElem?_eq_some_iff.1 hx).1
 have hg := (List.getElem?_eq_some_iff.1 hx).2
 have hl : ((l.take i).map g).length = i := by simp; omega
 rw [has, List.set_append_right _ _ (by omega), hl, Nat.sub_self, List.drop_eq_getElem_cons hlt, List.set_cons_zero, List.take_add_one, hx]
 simp
theorem get_list {α : Type} {g : α → α} {l al : List α} {i : Nat} {x : α} (has : al = (l.take i).map g ++ l.drop i) (hx : l[i]? = some x) : al[i]? = some x ∧ al.length = l.length := by
 have hlt := (List.getElem?_eq_some_iff.1 hx).1
 have hl : ((l.take i).map g).length = i := by simp; omega
 constructor
 ·rw [has, List.getElem?_append_right (by omega), hl, Nat.sub_self, List.getElem?_drop]; simpa using hx
 ·rw [has]; simp; omega
theorem take_len_map {α β : Type} (f : α → β) (l : List α) : (l.map f).take l.length = l.map f := List.take_of_length_le (by simp)
theorem Fd.subst_name (ns : List ByteArray) (us : List Ty) (f : Fd) : (f.subst ns us).name = f.name := by rw [Fd.subst_eq]; rfl
theorem Fd.subst_ty (ns : List ByteArray) (us : List Ty) (f : Fd) : (f.subst ns us).ty = f.ty.subst ns us := by rw [Fd.subst_eq]; rfl
theorem Fd.subst_opt (ns : List ByteArray) (us : List Ty) (f : Fd) : (f.subst ns us).opt = f.opt := by rw [Fd.subst_eq]; rfl
theorem subst_tot (ns : List ByteArray) (us : List Ty) (t : Ty) (T : V) (hTT : T = encTy (t.subst ns us)) (hnl : ns.length ≤ 1048576) (hul : us.length ≤ 1048576) (hal : t.args.length ≤ 1048576) (hfl : t.flds.length ≤ 1048576) (hvar : ∀ (i : Nat) (u : Ty), us[i]? = some u → FnOk Tryz.prog 23 [encTy u, .slice [], .slice []] (encTy u)) (hrec : ∀ p ∈ t.parts, FnOk Tryz.prog 23 [encTy p, .slice (ns.map str), .slice (encTys us)] (encTy (p.subst ns us))) : ∃ r, (fun v => v = T) r ∧ FnOk Tryz.prog 23 [encTy t, .slice (ns.map str), .slice (encTys us)] r := by
 refine fn_ex tt_ok (fn := Tryz.f23) Tryz.func23 rfl Tryz.call23 ?_
 simp only [ltb,startSt,Tryz.ntmps23,List.length_cons,List.length_nil,reduceAdd,reduceSub,List.replicate_succ,List.replicate_zero]
 simp only [encTy_eq,tyCells]
 refine ex_region_w tt_ok 79 [0,0,0,2,0,0,2] [] rfl rfl fun K hK => ?_
 try simp only [ltb]
 try simp only [ltb]
 simp only [length_encTys,length_encFds,List.length_map,go_sem,reduceIte,reduceAdd,reduceLT,reduceLeDiff,reduceMul,reduceEqDiff,reduceSub,reduceCtorEq,List.take_length]
 refine hK _ _ rfl ?_
 simp only [mwb,reduceAdd,reduceEqDiff]
 refine ex_seq ?_
 refine ex_region_w tt_ok 79 [0,0,0,0,0,0,0,2,0,0,0,0,1,1,1,1] [] rfl rfl fun K hK => ?_
 try simp only [ltb]
 refine runX_cut 4 fun K1 hK1 => ?_
 simp only [ltb]
 simp only [length_encTys,length_encFds,List.length_map,go_sem,reduceIte,reduceAdd,reduceLT,reduceLeDiff,reduceMul,reduceEqDiff,reduceSub,reduceCtorEq,List.take_length]
 refine callF_ex (sidx_tot ns t.name hnl) ?_
 rintro _ rfl
 try simp only [length_encTys,length_encFds,List.length_map,go_sem,reduceIte,reduceAdd,reduceLT,reduceLeDiff,reduceMul,reduceEqDiff,reduceSub,reduceCtorEq,List.take_length]
 refine hK1 _ ?_
 try simp only [ltb]
 simp only [length_encTys,length_encFds,List.length_map,go_sem,reduceIte,reduceAdd,reduceLT,reduceLeDiff,reduceMul,reduceEqDiff,reduceSub,reduceCtorEq,List.take_length]
 refine hK _ _ rfl ?_
 simp only [mwb,reduceAdd,reduceEqDiff]
 refine ex_seq_joinK [28] 2 (true::true::true::true::false::false::true::true::false::false::false::false::true::true::true::true::(rp 12 false [true])) (fun vs => ∃ b : Bool, vs = [bl b] ∧ (b = true → ∃ (i : Nat) (u : Ty), idxN ns t.name = i ∧ us[i]? = some u ∧ t.subst ns us = u) ∧ (b = false → t.subst ns us = .mk t.kind t.mod t.name (t.args.map (Ty.subst ns us)) (t.flds.map (Fd.subst ns us)))) ?_ ?_
 ·refine ex_last_region_w tt_ok 79 (rp 16 0 (rp 13 2 [])) [(3, 19), (7, 23)] (by kernel_rfl) rfl rfl fun K hK => ?_
  try simp only [ltb]
  refine runX_cut 4 fun K1 hK1 => ?_
  simp only [ltb]
  simp only [length_encTys,length_encFds,List.length_map,go_sem,reduceIte,reduceAdd,reduceLT,reduceLeDiff,reduceMul,reduceEqDiff,reduceSub,reduceCtorEq,List.take_length]
  refine hK1 _ ?_
  refine runX_case 19 (by rfl) fun b hb2_3 => ?_
  cases b
  ·refine runX_cut 8 fun K1 hK1 => ?_
   simp only [ltb]
   simp only [length_encTys,length_encFds,List.length_map,go_sem,reduceIte,reduceAdd,reduceLT,reduceLeDiff,reduceMul,reduceEqDiff,reduceSub,reduceCtorEq,List.take_length]
   refine hK1 _ ?_
   try simp only [ltb]
   simp only [length_encTys,length_encFds,List.length_map,go_sem,reduceIte,reduceAdd,reduceLT,reduceLeDiff,reduceMul,reduceEqDiff,reduceSub,reduceCtorEq,List.take_length]
   refine hK _ _ rfl ?_
   simp only [mwb,reduceAdd,reduceEqDiff]
   refine ⟨[_], ?_, 2, (true::true::true::true::false::false::true::true::false::false::false::false::true::true::true::true::(rp 12 false [true])), by omega, by simp only [maskFr,belowV,belowL,belowB,reduceLT,mkb], by simp only [maskFr,belowV,belowL,belowB,reduceLT,mkb], by simp only [maskFr,belowV,belowL,belowB,reduceLT,putAll,List.set_cons_zero,List.set_cons_succ,mkb]; rfl⟩
   first | exact ⟨false, rfl, (fun h => by cases h), fun _ => pick_false (.inl hb2_3)⟩ | exact ⟨false, rfl, (fun h => by cases h), fun _ => pick_false (.inr (.inl hb2_7))⟩ | exact ⟨_, rfl, fun h => pick_true hb2_3 hb2_7 h, fun h => pick_false (.inr (.inr h))⟩
  ·refine runX_cut 4 fun K1 hK1 => ?_
   simp only [ltb]
   simp only [length_encTys,length_encFds,List.length_map,go_sem,reduceIte,reduceAdd,reduceLT,reduceLeDiff,reduceMul,reduceEqDiff,reduceSub,reduceCtorEq,List.take_length]
   refine hK1 _ ?_
   refine runX_case 23 (by rfl) fun b hb2_7 => ?_
   cases b
   ·try simp only [ltb]
    simp only [length_encTys,length_encFds,List.length_map,go_sem,reduceIte,reduceAdd,reduceLT,reduceLeDiff,reduceMul,reduceEqDiff,reduceSub,reduceCtorEq,List.take_length]
    refine hK _ _ rfl ?_
    simp only [mwb,reduceAdd,reduceEqDiff]
    refine ⟨[_], ?_, 2, (true::true::true::true::false::false::true::true::false::false::false::false::true::true::true::true::(rp 12 false [true])), by omega, by simp only [maskFr,belowV,belowL,belowB,reduceLT,mkb], by simp only [maskFr,belowV,belowL,belowB,reduceLT,mkb], by simp only [maskFr,belowV,belowL,belowB,reduceLT,putAll,List.set_cons_zero,List.set_cons_succ,mkb]; rfl⟩
    first | exact ⟨false, rfl, (fun h => by cases h), fun _ => pick_false (.inl hb2_3)⟩ | exact ⟨false, rfl, (fun h => by cases h), fun _ => pick_false (.inr (.inl hb2_7))⟩ | exact ⟨_, rfl, fun h => pick_true hb2_3 hb2_7 h, fun h => pick_false (.inr (.inr h))⟩
   ·try simp only [ltb]
    simp only [length_encTys,length_encFds,List.length_map,go_sem,reduceIte,reduceAdd,reduceLT,reduceLeDiff,reduceMul,reduceEqDiff,reduceSub,reduceCtorEq,List.take_length]
    refine hK _ _ rfl ?_
    simp only [mwb,reduceAdd,reduceEqDiff]
    refine ⟨[_], ?_, 2, (true::true::true::true::false::false::true::true::false::false::false::false::true::true::true::true::(rp 12 false [true])), by omega, by simp only [maskFr,belowV,belowL,belowB,reduceLT,mkb], by simp only [maskFr,belowV,belowL,belowB,reduceLT,mkb], by simp only [maskFr,belowV,belowL,belowB,reduceLT,putAll,List.set_cons_zero,List.set_cons_succ,mkb]; rfl⟩
    first | exact ⟨false, rfl, (fun h => by cases h), fun _ => pick_false (.inl hb2_3)⟩ | exact ⟨false, rfl, (fun h => by cases h), fun _ => pick_false (.inr (.inl hb2_7))⟩ | exact ⟨_, rfl, fun h => pick_true hb2_3 hb2_7 h, fun h => pick_false (.inr (.inr h))⟩
 ·intro vs hJ
  obtain ⟨b28, rfl, hpt, hpf⟩ := hJ
  simp only [maskFr,belowV,belowL,belowB,reduceLT,putAll,List.set_cons_zero,List.set_cons_succ,mkb]
  refine ex_if rfl (fun hc28 => ?_) (fun hc28 => ?_)
  ·obtain ⟨j, u, hj, hu, hsu⟩ := hpt hc28
   rw [hj]
   refine ex_region_w tt_ok 79 (rp 29 0 [1,1,1,1,1]) [] rfl rfl fun K hK => ?_
   try simp only [ltb]
   refine runX_cut 5 fun K1 hK1 => ?_
   simp only [ltb]
   simp only [get_encTys,hu,encTy_eq,tyCells,length_encTys,length_encFds,List.length_map,go_sem,reduceIte,reduceAdd,reduceLT,reduceLeDiff,reduceMul,reduceEqDiff,reduceSub,reduceCtorEq,List.take_length]
   refine callF_ex (by have h := hvar j u hu; rw [encTy_eq] at h; simp only [tyCells] at h; exact ⟨_, rfl, h⟩) ?_
   rintro _ rfl
   try simp only [get_encTys,hu,encTy_eq,tyCells,length_encTys,length_encFds,List.length_map,go_sem,reduceIte,reduceAdd,reduceLT,reduceLeDiff,reduceMul,reduceEqDiff,reduceSub,reduceCtorEq,List.take_length]
   refine hK1 _ ?_
   try simp only [ltb]
   simp only [get_encTys,hu,encTy_eq,tyCells,length_encTys,length_encFds,List.length_map,go_sem,reduceIte,reduceAdd,reduceLT,reduceLeDiff,reduceMul,reduceEqDiff,reduceSub,reduceCtorEq,List.take_length]
   refine hK _ _ rfl ?_
   simp only [mwb,reduceAdd,reduceEqDiff]
   refine ex_ret ?_
   first
    | (refine ⟨.inl rfl, _, ?_, rfl⟩; rw [hTT, hsu, encTy_eq]; rfl)
    | (refine ⟨.inl rfl, .agg [num t.kind, str t.mod, str t.name, .slice (encTys (t.args.map (Ty.subst ns us))), .slice (encFds (t.flds.map (Fd.subst ns us)))], by rw [hTT, hsub]; rfl, ?_⟩; simp [retV, resL, resV, Tryz.f23, loadV, pickCells, tt25, pur, pur1, purCells, purCell, nilS, encTys_map, encFds_map, take_len_map])
  ·refine ex_skip ?_
   show Go.Eng.Ex _ _ _ _ _ _
   have hsub := hpf hc28
   refine ex_mixed_w tt_ok mixed_ok 79 [0,0,0,0,0,0,0,0,0,0,0,0,0,0,0,0,0,0,0,0,0,0,0,0,0,0,0,0,0,0,0,0,0,0,1,1,1,1,1,1,1,1] (by kernel_rfl) [⟨.n, 0, [], []⟩, ⟨.r, 0, [], [0]⟩, ⟨.a, 0, [], [0,1]⟩, ⟨.n, 0, [], []⟩, ⟨.r, 0, [0], [3]⟩, ⟨.a, 1, [], [0,1,2,3,4]⟩, ⟨.n, 0, [], [0,1,2,3,4]⟩, ⟨.w, 2, [], [0,1,2,3,4,5,6]⟩, ⟨.n, 0, [], [0,1,2,3,4,5,6,7]⟩, ⟨.w, 3, [], [0,1,2,3,4,5,6,7,8]⟩] 4 (by kernel_rfl) fun K hK => ?_
   try simp only [ltb,List.replicate_zero,List.replicate_succ]
   refine runM_cut 3 (by simp) (by simp) fun K1 hK1 => ?_
   try simp only [ltb]
   simp only [length_encTys,length_encFds,List.length_map,go_sem,reduceIte,reduceAdd,reduceLT,reduceLeDiff,reduceMul,reduceEqDiff,reduceSub,reduceCtorEq,List.take_length,List.replicate]
   refine ⟨_, _, _, by simp only [length_encTys,length_encFds,List.length_map,go_sem,reduceIte,reduceAdd,reduceLT,reduceLeDiff,reduceMul,reduceEqDiff,reduceSub,reduceCtorEq,List.take_length], ⟨_, cloneTy_ok (encTys t.args) (first_ty t.args 0) (by rw [length_encTys]; omega)⟩, ?_⟩
   try simp only [holeSt,length_encTys,length_encFds,List.length_map,go_sem,reduceIte,reduceAdd,reduceLT,reduceLeDiff,reduceMul,reduceEqDiff,reduceSub,reduceCtorEq,List.take_length,List.replicate]
   refine hK1 _ ?_
   refine runM_cut 3 (by simp) (by simp) fun K1 hK1 => ?_
   try simp only [ltb]
   simp only [length_encTys,length_encFds,List.length_map,go_sem,reduceIte,reduceAdd,reduceLT,reduceLeDiff,reduceMul,reduceEqDiff,reduceSub,reduceCtorEq,List.take_length,List.replicate]
   refine ⟨_, _, _, by simp only [length_encTys,length_encFds,List.length_map,go_sem,reduceIte,reduceAdd,reduceLT,reduceLeDiff,reduceMul,reduceEqDiff,reduceSub,reduceCtorEq,List.take_length], ⟨_, cloneFd_ok (encFds t.flds) (first_fd t.flds 0) (by rw [length_encFds]; omega)⟩, ?_⟩
   try simp only [holeSt,length_encTys,length_encFds,List.length_map,go_sem,reduceIte,reduceAdd,reduceLT,reduceLeDiff,reduceMul,reduceEqDiff,reduceSub,reduceCtorEq,List.take_length,List.replicate]
   refine hK1 _ ?_
   try simp only [ltb]
   simp only [length_encTys,length_encFds,List.length_map,go_sem,reduceIte,reduceAdd,reduceLT,reduceLeDiff,reduceMul,reduceEqDiff,reduceSub,reduceCtorEq,List.take_length,List.replicate]
   refine hK _ _ rfl ?_
   simp only [mwb,reduceAdd,reduceEqDiff]
   refine ex_seq ?_
   refine ex_region_w tt_ok 79 (rp 42 0 [1,2,2,2]) [] rfl rfl fun K hK => ?_
   try simp only [ltb]
   try simp only [ltb]
   simp only [length_encTys,length_encFds,List.length_map,go_sem,reduceIte,reduceAdd,reduceLT,reduceLeDiff,reduceMul,reduceEqDiff,reduceSub,reduceCtorEq,List.take_length]
   refine hK _ _ rfl ?_
   simp only [mwb,reduceAdd,reduceEqDiff]
   refine ex_block ?_
   refine ex_loopF (fun a : Nat × List Ty => { fr := [.undef, .slice (ns.map str), .slice (encTys us), .ptr 0 0, .undef, .undef, .ptr 1 0, .undef, .undef, .undef, .undef, .undef, .undef, .undef, .undef, .undef, .undef, .undef, .undef, .undef, .undef, .undef, .undef, .undef, .undef, .undef, .undef, .undef, .undef, .undef, .undef, .undef, .undef, .undef, .undef, .undef, .undef, .undef, .undef, .undef, .undef, .undef, .undef, .ms 2 0 0 t.args.length, num t.args.length, num a.1, .undef, .undef, .undef, .undef, .undef, .undef, .undef, .undef, .undef, .undef, .undef, .undef, .undef, .undef, .undef, .undef, .undef, .undef, .undef, .undef, .undef, .undef, .undef, .undef, .undef, .undef, .undef, .undef, .undef, .undef, .undef, .undef, .undef], mem := [.box [num t.kind, str t.mod, str t.name, .ms 2 0 0 t.args.length, .ms 3 0 0 t.flds.length], .box [num 0, str ⟨#[]⟩, str ⟨#[]⟩, .sc (.slice none 0 0), .sc (.slice none 0 0)], .rows 0 5 (encTys a.2), .rows 0 7 (encFds t.flds), .hole, .hole] }) (fun a => t.args.length - a.1) (fun a => a.1 ≤ t.args.length ∧ a.2 = (t.args.take a.1).map (Ty.subst ns us) ++ t.args.drop a.1) ((0, t.args)) 6 (false::true::true::true::false::false::true::(rp 36 false [true,true,true])) (by omega) (by simp only [maskFr,belowV,belowL,belowB,reduceLT,mkb]) (by simp only [maskFr,belowV,belowL,belowB,reduceLT,mkb]) (by simp only [maskFr,belowV,belowL,belowB,reduceLT,mkb]; rfl) (⟨Nat.zero_le _, by simp⟩) ?_
   rintro ⟨i, al⟩ ⟨hi, has⟩
   dsimp only at hi has
   dsimp only
   refine ex_region_w tt_ok 79 (rp 46 0 [2]) [] rfl rfl fun K hK => ?_
   try simp only [ltb]
   try simp only [ltb]
   simp only [length_encTys,length_encFds,List.length_map,go_sem,reduceIte,reduceAdd,reduceLT,reduceLeDiff,reduceMul,reduceEqDiff,reduceSub,reduceCtorEq,List.take_length]
   refine hK _ _ rfl ?_
   simp only [mwb,reduceAdd,reduceEqDiff]
   refine ex_seq ?_
   refine ex_if rfl (fun hc46 => ?_) (fun hc46 => ?_)
   ·have hlt : i < t.args.length := by simpa using hc46
    rw [hc46]
    obtain ⟨x, hx⟩ : ∃ x, t.args[i]? = some x := ⟨_, List.getElem?_eq_getElem hlt⟩
    obtain ⟨hxa, hasl⟩ := get_list has hx
    have hil : ((i : Nat) : Int) < ((t.args.length : Nat) : Int) := by omega
    have hw := i64_succ i (by omega)
    refine ex_skip ?_
    show Go.Eng.Ex _ _ _ _ _ _
    refine ex_seq ?_
    refine ex_block ?_
    refine ex_region_w tt_ok 79 (rp 8 0 (2::2::(rp 37 0 [1,1,1]))) [] rfl rfl fun K hK => ?_
    try simp only [ltb]
    try simp only [ltb]
    simp only [hil,get_encTys,hxa,encTy_eq,tyCells,hw,setRow,hasl,length_encTys,length_encFds,List.length_map,go_sem,reduceIte,reduceAdd,reduceLT,reduceLeDiff,reduceMul,reduceEqDiff,reduceSub,reduceCtorEq,List.take_length]
    refine hK _ _ rfl ?_
    simp only [mwb,reduceAdd,reduceEqDiff]
    refine ex_last_mixed_w tt_ok mixed_ok 79 [0,0,0,0,0,0,0,0,0,0,0,0,0,0,0,0,0,0,0,0,0,0,0,0,0,0,0,0,0,0,0,0,0,0,0,0,0,0,0,0,0,0,0,0,0,0,0,0,0,0,2,2,2,2,2,2,2,2] (by kernel_rfl) (by kernel_rfl) [⟨.n, 0, [], []⟩, ⟨.r, 0, [], []⟩, ⟨.n, 0, [], []⟩, ⟨.r, 0, [], []⟩, ⟨.n, 0, [], []⟩, ⟨.n, 0, [], []⟩, ⟨.n, 0, [], []⟩, ⟨.r, 0, [], []⟩, ⟨.w, 0, [], []⟩] 1 (by kernel_rfl) fun K hK => ?_
    try simp only [ltb,List.replicate_zero,List.replicate_succ]
    refine runM_cut 6 (by simp) (by simp) fun K1 hK1 => ?_
    try simp only [ltb]
    simp only [hil,get_encTys,hxa,encTy_eq,tyCells,hw,setRow,hasl,length_encTys,length_encFds,List.length_map,go_sem,reduceIte,reduceAdd,reduceLT,reduceLeDiff,reduceMul,reduceEqDiff,reduceSub,reduceCtorEq,List.take_length,List.replicate]
    refine hK1 _ ?_
    refine runM_cut 1 (by simp) (by simp) fun K1 hK1 => ?_
    try simp only [ltb]
    simp only [hil,get_encTys,hxa,encTy_eq,tyCells,hw,setRow,hasl,length_encTys,length_encFds,List.length_map,go_sem,reduceIte,reduceAdd,reduceLT,reduceLeDiff,reduceMul,reduceEqDiff,reduceSub,reduceCtorEq,List.take_length,List.replicate]
    refine callD_ex rfl (by have h := hrec x (Ty.arg_part (List.mem_of_getElem? hx)); rw [encTy_eq, encTy_eq] at h; simp only [tyCells] at h; exact ⟨_, rfl, h⟩) ?_
    rintro _ rfl
    try simp only [hil,get_encTys,hxa,encTy_eq,tyCells,hw,setRow,hasl,length_encTys,length_encFds,List.length_map,go_sem,reduceIte,reduceAdd,reduceLT,reduceLeDiff,reduceMul,reduceEqDiff,reduceSub,reduceCtorEq,List.take_length,List.replicate]
    refine hK1 _ ?_
    try simp only [ltb]
    simp only [hil,get_encTys,hxa,encTy_eq,tyCells,hw,setRow,hasl,length_encTys,length_encFds,List.length_map,go_sem,reduceIte,reduceAdd,reduceLT,reduceLeDiff,reduceMul,reduceEqDiff,reduceSub,reduceCtorEq,List.take_length,List.replicate]
    refine hK _ _ rfl ?_
    simp only [mwb,reduceAdd,reduceEqDiff]
    show Go.Eng.Ex _ _ _ _ _ _
    refine ex_last_region_w tt_ok 79 (rp 45 0 (2::(rp 12 0 [2]))) [] (by kernel_rfl) rfl rfl fun K hK => ?_
    try simp only [ltb]
    try simp only [ltb]
    simp only [hil,get_encTys,hxa,encTy_eq,tyCells,hw,setRow,hasl,length_encTys,length_encFds,List.length_map,go_sem,reduceIte,reduceAdd,reduceLT,reduceLeDiff,reduceMul,reduceEqDiff,reduceSub,reduceCtorEq,List.take_length]
    refine hK _ _ rfl ?_
    simp only [mwb,reduceAdd,reduceEqDiff]
    refine ⟨(i + 1, al.set i (x.subst ns us)), ?_, ?_, 6, (false::true::true::true::false::false::true::(rp 36 false [true,true,true])), by omega, by simp only [maskFr,belowV,belowL,belowB,reduceLT,mkb], by simp only [maskFr,belowV,belowL,belowB,reduceLT,mkb], by simp [rp,maskFr, encTys_map, List.map_set, encTy_eq, tyCells]⟩
    ·exact ⟨hlt, step_list has hx⟩
    ·dsimp only; omega
   ·have hge : ¬ i < t.args.length := by simpa using hc46
    have hie : i = t.args.length := by omega
    have has2 : al = t.args.map (Ty.subst ns us) := by rw [has, hie]; simp
    subst has2
    refine ex_exit ?_
    show Go.Eng.Ex _ _ _ _ _ _
    refine ex_seq ?_
    refine ex_region_w tt_ok 79 (rp 59 0 [1,2,2,2]) [] rfl rfl fun K hK => ?_
    try simp only [ltb]
    try simp only [ltb]
    simp only [length_encTys,length_encFds,List.length_map,go_sem,reduceIte,reduceAdd,reduceLT,reduceLeDiff,reduceMul,reduceEqDiff,reduceSub,reduceCtorEq,List.take_length]
    refine hK _ _ rfl ?_
    simp only [mwb,reduceAdd,reduceEqDiff]
    refine ex_block ?_
    refine ex_loopF (fun a : Nat × List Fd => { fr := [.undef, .slice (ns.map str), .slice (encTys us), .ptr 0 0, .undef, .undef, .ptr 1 0, .undef, .undef, .undef, .undef, .undef, .undef, .undef, .undef, .undef, .undef, .undef, .undef, .undef, .undef, .undef, .undef, .undef, .undef, .undef, .undef, .undef, .undef, .undef, .undef, .undef, .undef, .undef, .undef, .undef, .undef, .undef, .undef, .undef, .undef, .undef, .undef, .undef, .undef, .undef, .undef, .undef, .undef, .undef, .undef, .undef, .undef, .undef, .undef, .undef, .undef, .undef, .undef, .undef, .ms 3 0 0 t.flds.length, num t.flds.length, num a.1, .undef, .undef, .undef, .undef, .undef, .undef, .undef, .undef, .undef, .undef, .undef, .undef, .undef, .undef, .undef, .undef], mem := [.box [num t.kind, str t.mod, str t.name, .ms 2 0 0 t.args.length, .ms 3 0 0 t.flds.length], .box [num 0, str ⟨#[]⟩, str ⟨#[]⟩, .sc (.slice none 0 0), .sc (.slice none 0 0)], .rows 0 5 (encTys (t.args.map (Ty.subst ns us))), .rows 0 7 (encFds a.2), .hole, .hole] }) (fun a => t.flds.length - a.1) (fun a => a.1 ≤ t.flds.length ∧ a.2 = (t.flds.take a.1).map (Fd.subst ns us) ++ t.flds.drop a.1) ((0, t.flds)) 6 (false::true::true::true::false::false::true::(rp 53 false [true,true,true])) (by omega) (by simp only [maskFr,belowV,belowL,belowB,reduceLT,mkb]) (by simp only [maskFr,belowV,belowL,belowB,reduceLT,mkb]) (by simp only [maskFr,belowV,belowL,belowB,reduceLT,mkb]; rfl) (⟨Nat.zero_le _, by simp⟩) ?_
    rintro ⟨i, fs⟩ ⟨hi, has⟩
    dsimp only at hi has
    dsimp only
    refine ex_region_w tt_ok 79 (rp 63 0 [2]) [] rfl rfl fun K hK => ?_
    try simp only [ltb]
    try simp only [ltb]
    simp only [length_encTys,length_encFds,List.length_map,go_sem,reduceIte,reduceAdd,reduceLT,reduceLeDiff,reduceMul,reduceEqDiff,reduceSub,reduceCtorEq,List.take_length]
    refine hK _ _ rfl ?_
    simp only [mwb,reduceAdd,reduceEqDiff]
    refine ex_seq ?_
    refine ex_if rfl (fun hc63 => ?_) (fun hc63 => ?_)
    ·have hlt : i < t.flds.length := by simpa using hc63
     rw [hc63]
     obtain ⟨f, hx⟩ : ∃ f, t.flds[i]? = some f := ⟨_, List.getElem?_eq_getElem hlt⟩
     obtain ⟨hxa, hasl⟩ := get_list has hx
     have hil : ((i : Nat) : Int) < ((t.flds.length : Nat) : Int) := by omega
     have hw := i64_succ i (by omega)
     refine ex_skip ?_
     show Go.Eng.Ex _ _ _ _ _ _
     refine ex_seq ?_
     refine ex_block ?_
     refine ex_region_w tt_ok 79 (rp 10 0 (2::2::(rp 52 0 [1,1,1]))) [] rfl rfl fun K hK => ?_
     try simp only [ltb]
     try simp only [ltb]
     simp only [hil,get_encFds,hxa,encFd_eq,encTy_eq,tyCells,hw,setRow,hasl,length_encTys,length_encFds,List.length_map,go_sem,reduceIte,reduceAdd,reduceLT,reduceLeDiff,reduceMul,reduceEqDiff,reduceSub,reduceCtorEq,List.take_length]
     refine hK _ _ rfl ?_
     simp only [mwb,reduceAdd,reduceEqDiff]
     refine ex_last_mixed_w tt_ok mixed_ok 79 [0,0,0,0,0,0,0,0,0,0,0,0,0,0,0,0,0,0,0,0,0,0,0,0,0,0,0,0,0,0,0,0,0,0,0,0,0,0,0,0,0,0,0,0,0,0,0,0,0,0,0,0,0,0,0,0,0,0,0,0,0,0,0,0,0,0,0,2,2,2,2,2,2,2,2,2,2] (by kernel_rfl) (by kernel_rfl) [⟨.n, 0, [], []⟩, ⟨.r, 0, [], [0]⟩, ⟨.n, 0, [], []⟩, ⟨.n, 0, [], []⟩, ⟨.r, 0, [], [3]⟩, ⟨.n, 0, [], []⟩, ⟨.n, 0, [], []⟩, ⟨.n, 0, [], [3,4,5,6]⟩, ⟨.r, 0, [], [0,1,2,3,4,5,6,7]⟩, ⟨.n, 0, [], [0,1,2,3,4,5,6,7,8]⟩, ⟨.w, 0, [], [0,1,2,3,4,5,6,7,8,9]⟩] 1 (by kernel_rfl) fun K hK => ?_
     try simp only [ltb,List.replicate_zero,List.replicate_succ]
     refine runM_cut 6 (by simp) (by simp) fun K1 hK1 => ?_
     try simp only [ltb]
     simp only [hil,get_encFds,hxa,encFd_eq,encTy_eq,tyCells,hw,setRow,hasl,length_encTys,length_encFds,List.length_map,go_sem,reduceIte,reduceAdd,reduceLT,reduceLeDiff,reduceMul,reduceEqDiff,reduceSub,reduceCtorEq,List.take_length,List.replicate]
     refine hK1 _ ?_
     refine runM_cut 2 (by simp) (by simp) fun K1 hK1 => ?_
     try simp only [ltb]
     simp only [hil,get_encFds,hxa,encFd_eq,encTy_eq,tyCells,hw,setRow,hasl,length_encTys,length_encFds,List.length_map,go_sem,reduceIte,reduceAdd,reduceLT,reduceLeDiff,reduceMul,reduceEqDiff,reduceSub,reduceCtorEq,List.take_length,List.replicate]
     refine callD_ex rfl (by have h := hrec f.ty (Ty.fld_part (List.mem_of_getElem? hx)); rw [encTy_eq, encTy_eq] at h; simp only [tyCells] at h; exact ⟨_, rfl, h⟩) ?_
     rintro _ rfl
     try simp only [hil,get_encFds,hxa,encFd_eq,encTy_eq,tyCells,hw,setRow,hasl,length_encTys,length_encFds,List.length_map,go_sem,reduceIte,reduceAdd,reduceLT,reduceLeDiff,reduceMul,reduceEqDiff,reduceSub,reduceCtorEq,List.take_length,List.replicate]
     refine hK1 _ ?_
     try simp only [ltb]
     simp only [hil,get_encFds,hxa,encFd_eq,encTy_eq,tyCells,hw,setRow,hasl,length_encTys,length_encFds,List.length_map,go_sem,reduceIte,reduceAdd,reduceLT,reduceLeDiff,reduceMul,reduceEqDiff,reduceSub,reduceCtorEq,List.take_length,List.replicate]
     refine hK _ _ rfl ?_
     simp only [mwb,reduceAdd,reduceEqDiff]
     show Go.Eng.Ex _ _ _ _ _ _
     refine ex_last_region_w tt_ok 79 (rp 62 0 (2::(rp 14 0 [2]))) [] (by kernel_rfl) rfl rfl fun K hK => ?_
     try simp only [ltb]
     try simp only [ltb]
     simp only [hil,get_encFds,hxa,encFd_eq,encTy_eq,tyCells,hw,setRow,hasl,length_encTys,length_encFds,List.length_map,go_sem,reduceIte,reduceAdd,reduceLT,reduceLeDiff,reduceMul,reduceEqDiff,reduceSub,reduceCtorEq,List.take_length]
     refine hK _ _ rfl ?_
     simp only [mwb,reduceAdd,reduceEqDiff]
     refine ⟨(i + 1, fs.set i (f.subst ns us)), ?_, ?_, 6, (false::true::true::true::false::false::true::(rp 53 false [true,true,true])), by omega, by simp only [maskFr,belowV,belowL,belowB,reduceLT,mkb], by simp only [maskFr,belowV,belowL,belowB,reduceLT,mkb], by simp [rp,maskFr, encFds_map, List.map_set, encFd_eq, tyCells, Fd.subst_name, Fd.subst_ty, Fd.subst_opt]⟩
     ·exact ⟨hlt, step_list has hx⟩
     ·dsimp only; omega
    ·have hge : ¬ i < t.flds.length := by simpa using hc63
     have hie : i = t.flds.length := by omega
     have has2 : fs = t.flds.map (Fd.subst ns us) := by rw [has, hie]; simp
     subst has2
     refine ex_exit ?_
     show Go.Eng.Ex _ _ _ _ _ _
     refine ex_region_w tt_ok 79 (rp 78 0 [1]) [] rfl rfl fun K hK => ?_
     try simp only [ltb]
     try simp only [ltb]
     simp only [length_encTys,length_encFds,List.length_map,go_sem,reduceIte,reduceAdd,reduceLT,reduceLeDiff,reduceMul,reduceEqDiff,reduceSub,reduceCtorEq,List.take_length]
     refine hK _ _ rfl ?_
     simp only [mwb,reduceAdd,reduceEqDiff]
     refine ex_ret ?_
     first
      | (refine ⟨.inl rfl, _, ?_, rfl⟩; rw [hTT, hsu, encTy_eq]; rfl)
      | (refine ⟨.inl rfl, .agg [num t.kind, str t.mod, str t.name, .slice (encTys (t.args.map (Ty.subst ns us))), .slice (encFds (t.flds.map (Fd.subst ns us)))], by rw [hTT, hsub]; rfl, ?_⟩; simp [retV, resL, resV, Tryz.f23, loadV, pickCells, tt25, pur, pur1, purCells, purCell, nilS, encTys_map, encFds_map, take_len_map])
theorem substNil_ok : ∀ (N : Nat) (t : Ty), t.size ≤ N → N ≤ 1048576 → FnOk Tryz.prog 23 [encTy t, .slice [], .slice []] (encTy t) := by
 intro N
 induction N with
 | zero => intro t h; have := t.size_pos; omega
 | succ N ih =>
  intro t hN hb
  have hpl := t.parts_length
  obtain ⟨_, rfl, h⟩ := subst_tot [] [] t _ rfl (by simp) (by simp) (by omega) (by omega) (fun i u h => by simp at h) fun p hp => by
   obtain ⟨i, hi⟩ := List.mem_iff_getElem?.1 hp
   have e1 := sumBy_mem Ty.size hi
   have e2 := t.size_parts
   rw [Ty.subst_nil]
   exact ih p (by omega) (by omega)
  rw [Ty.subst_nil] at h
  exact h
theorem subst_ok (ns : List ByteArray) (us : List Ty) (hnl : ns.length ≤ 1048576) (hul : us.length ≤ 1048576) (hus : ∀ u ∈ us, u.size ≤ 1048576) : ∀ (N : Nat) (t : Ty), t.size ≤ N → N ≤ 1048576 → FnOk Tryz.prog 23 [encTy t, .slice (ns.map str), .slice (encTys us)] (encTy (t.subst ns us)) := by
 intro N
 induction N with
 | zero => intro t h; have := t.size_pos; omega
 | succ N ih =>
  intro t hN hb
  have hpl := t.parts_length
  obtain ⟨_, rfl, h⟩ := subst_tot ns us t _ rfl hnl hul (by omega) (by omega) (fun i u h => substNil_ok u.size u (Nat.le_refl _) (hus u (List.mem_of_getElem? h))) fun p hp => by
   obtain ⟨i, hi⟩ := List.mem_iff_getElem?.1 hp
   have e1 := sumBy_mem Ty.size hi
   have e2 := t.size_parts
   exact ih p (by omega) (by omega)
  exact h
end Go.Proofs.YtpjdfcigadnhcaaGreatDoor
end

section
namespace Go.Proofs.YtpjdfcigadnhcaaGreatDoor
open Go.Eng
open Nat (reduceAdd reduceLT reduceLeDiff reduceMul reduceEqDiff reduceSub)
variable [Glob]
set_option maxHeartbeats 4000000
set_option maxRecDepth 100000
attribute [local irreducible] runM stepM valD stepOp stepD callF callS
theorem first5 (a b c d e : V) : firstOk [.agg [a, b, c, d, e]] 0 5 = true := rfl
theorem first7 (a b c d e f g : V) : firstOk [.agg [a, b, c, d, e, f, g]] 0 7 = true := rfl
theorem pick_at {ns : List ByteArray} {us : List Ty} {s : ByteArray} {i : Nat} {n : ByteArray} {u : Ty} (hn : ns[i]? = some n) (hu : us[i]? = some u) (hp : (n.toList == s.toList) = true) (hno : ∀ j < i, ∀ b, ns[j]? = some b → (b.toList == s.toList) = false) : pickT ns us s = some u := by
 have e : ∀ b : ByteArray, (s.toList == b.toList) = (b.toList == s.toList) := fun b => by rw [Bool.eq_iff_iff, beq_iff_eq, beq_iff_eq, eq_comm]
 unfold pickT
 rw [findIdx_some (p := fun m => s.toList == m.toList) hn (by rw [e]; exact hp) fun j hj b hb => by rw [e]; exact hno j hj b hb]
 exact hu
theorem pick_no {ns : List ByteArray} {us : List Ty} {s : ByteArray} {i : Nat} (hi : ¬ (i < ns.length ∧ i < us.length)) (hno : ∀ j < i, ∀ b, ns[j]? = some b → (b.toList == s.toList) = false) : pickT ns us s = none := by
 have e : ∀ b : ByteArray, (s.toList == b.toList) = (b.toList == s.toList) := fun b => by rw [Bool.eq_iff_iff, beq_iff_eq, beq_iff_eq, eq_comm]
 unfold pickT
 cases h : ns.findIdx? (fun m => s.toList == m.toList) with
 | none => rfl
 | some k =>
  obtain ⟨hk, hx⟩ := List.findIdx?_eq_some_iff_getElem.1 h
  have hki : ¬ k < i := fun hlt => by
   have := hno k hlt _ (List.getElem?_eq_getElem hk)
   rw [← e, hx.1] at this; cases this
  show us[k]? = none
  exact List.getElem?_eq_none (by omega)
theorem subst_keep {ns : List ByteArray} {us : List Ty} {t : Ty} (h : t.kind = 9 → pickT ns us t.name = none) : t.subst ns us = .mk t.kind t.mod t.name (t.args.map (Ty.subst ns us)) (t.flds.map (Fd.subst ns us)) := by
 rw [t.subst_eq]
 split
 ·rename_i u hu
  split at hu
  ·rename_i h9; rw [h h9] at hu; cases hu
  ·cases hu
 ·rfl
theorem rsubst_tot (ns : List ByteArray) (us : List Ty) (t : Ty) (T : V) (hTT : T = encTy (t.subst ns us)) (hnl : ns.length ≤ 1048576) (hul : us.length ≤ 1048576) (hal : t.args.length ≤ 1048576) (hfl : t.flds.length ≤ 1048576) (hrec : ∀ p ∈ t.parts, FnOk Tryz.prog 35 [encTy p, .slice (ns.map str), .slice (encTys us)] (encTy (p.subst ns us))) : ∃ r, (fun v => v = T) r ∧ FnOk Tryz.prog 35 [encTy t, .slice (ns.map str), .slice (encTys us)] r := by
 refine fn_ex tt_ok (fn := Tryz.f35) Tryz.func35 rfl Tryz.call35 ?_
 simp only [ltb,startSt,Tryz.ntmps35,List.length_cons,List.length_nil,reduceAdd,reduceSub,List.replicate_succ,List.replicate_zero]
 simp only [encTy_eq,tyCells]
 refine ex_region_w tt_ok 90 [0,0,0,2,0,0,2] [] rfl rfl fun K hK => ?_
 try simp only [ltb]
 try simp only [ltb]
 simp only [length_encTys,length_encFds,List.length_map,go_sem,reduceIte,reduceAdd,reduceLT,reduceLeDiff,reduceMul,reduceEqDiff,reduceSub,reduceCtorEq,List.take_length]
 refine hK _ _ rfl ?_
 simp only [mwb,reduceAdd,reduceEqDiff]
 refine ex_seq_joinK [] 2 [false,true,true,true,false,false,true] (fun vs => vs = [] ∧ (t.kind = 9 → pickT ns us t.name = none)) ?_ ?_
 ·refine ex_region_w tt_ok 90 (rp 12 0 [1,1,2]) [] rfl rfl fun K hK => ?_
  try simp only [ltb]
  try simp only [ltb]
  simp only [length_encTys,length_encFds,List.length_map,go_sem,reduceIte,reduceAdd,reduceLT,reduceLeDiff,reduceMul,reduceEqDiff,reduceSub,reduceCtorEq,List.take_length]
  refine hK _ _ rfl ?_
  simp only [mwb,reduceAdd,reduceEqDiff]
  refine ex_if rfl (fun hc14 => ?_) (fun hc14 => ?_)
  ·have h9 : t.kind = 9 := of_decide_eq_true hc14
   refine ex_region_w tt_ok 90 [0,0,0,0,0,0,0,2] [] rfl rfl fun K hK => ?_
   try simp only [ltb]
   try simp only [ltb]
   simp only [length_encTys,length_encFds,List.length_map,go_sem,reduceIte,reduceAdd,reduceLT,reduceLeDiff,reduceMul,reduceEqDiff,reduceSub,reduceCtorEq,List.take_length]
   refine hK _ _ rfl ?_
   simp only [mwb,reduceAdd,reduceEqDiff]
   refine ex_block ?_
   refine ex_loopK [7] [num 0] 2 [false,true,true,true,false,false,true,true,false,false,false,false,false,false,true] (fun vs => ((ns.length : Int) - intOf (vs.headD .undef)).toNat) (fun vs => ∃ i : Nat, vs = [num i] ∧ i ≤ ns.length ∧ ∀ j < i, ∀ b, ns[j]? = some b → (b.toList == t.name.toList) = false) (by omega) (by simp only [maskFr,belowV,belowL,belowB,reduceLT,mkb]) (by simp only [maskFr,belowV,belowL,belowB,reduceLT,mkb]) (by rfl) (⟨0, rfl, Nat.zero_le _, fun j hj => absurd hj (Nat.not_lt_zero j)⟩) fun vs hI => ?_
   obtain ⟨i, rfl, hi, hno⟩ := hI
   simp only [maskFr,belowV,belowL,belowB,reduceLT,putAll,List.set_cons_zero,List.set_cons_succ,mkb]
   refine ex_seq ?_
   refine ex_region_w tt_ok 90 (rp 15 0 (rp 9 1 [2])) [(4, 19)] rfl rfl fun K hK => ?_
   try simp only [ltb]
   refine runX_cut 5 fun K1 hK1 => ?_
   simp only [ltb]
   simp only [length_encTys,length_encFds,List.length_map,go_sem,reduceIte,reduceAdd,reduceLT,reduceLeDiff,reduceMul,reduceEqDiff,reduceSub,reduceCtorEq,List.take_length]
   refine hK1 _ ?_
   refine runX_case 19 (by rfl) fun b hb3_4 => ?_
   cases b
   ·have hpn : t.kind = 9 → pickT ns us t.name = none := fun _ => pick_no (i := i) (fun h => by have := of_decide_eq_false hb3_4; omega) hno
    try simp only [ltb]
    simp only [length_encTys,length_encFds,List.length_map,go_sem,reduceIte,reduceAdd,reduceLT,reduceLeDiff,reduceMul,reduceEqDiff,reduceSub,reduceCtorEq,List.take_length]
    refine hK _ _ rfl ?_
    simp only [mwb,reduceAdd,reduceEqDiff]
    refine ex_cond rfl ?_
    refine ex_exit ?_
    refine ⟨[], ?_, 2, [false,true,true,true,false,false,true], by omega, by simp only [maskFr,belowV,belowL,belowB,reduceLT,mkb], by simp only [maskFr,belowV,belowL,belowB,reduceLT,mkb], by simp only [maskFr,belowV,belowL,belowB,reduceLT,putAll,List.set_cons_zero,List.set_cons_succ,mkb]⟩
    exact ⟨rfl, hpn⟩
   ·have hin : i < ns.length := by have := of_decide_eq_true hb3_4; omega
    try simp only [ltb]
    simp only [length_encTys,length_encFds,List.length_map,go_sem,reduceIte,reduceAdd,reduceLT,reduceLeDiff,reduceMul,reduceEqDiff,reduceSub,reduceCtorEq,List.take_length]
    refine hK _ _ rfl ?_
    simp only [mwb,reduceAdd,reduceEqDiff]
    refine ex_if rfl (fun hc24 => ?_) (fun hc24 => ?_)
    ·have hiu : i < us.length := by have := of_decide_eq_true hc24; omega
     obtain ⟨n, hn⟩ : ∃ n, ns[i]? = some n := ⟨_, List.getElem?_eq_getElem hin⟩
     obtain ⟨u, hu⟩ : ∃ u, us[i]? = some u := ⟨_, List.getElem?_eq_getElem hiu⟩
     have hw := i64_succ i (by omega)
     refine ex_skip ?_
     show Go.Eng.Ex _ _ _ _ _ _
     refine ex_seq ?_
     refine ex_block ?_
     refine ex_mixed_w tt_ok mixed_ok 90 [0,0,0,0,0,0,0,0,0,0,0,0,0,0,0,0,0,0,0,0,0,0,0,0,0,0,0,1,1,1,1,1,1,2] (by kernel_rfl) [⟨.n, 0, [], []⟩, ⟨.n, 0, [], []⟩, ⟨.r, 0, [], []⟩, ⟨.r, 0, [], []⟩, ⟨.n, 0, [], []⟩, ⟨.r, 0, [], []⟩, ⟨.n, 0, [], []⟩] 0 (by kernel_rfl) fun K hK => ?_
     try simp only [ltb,List.replicate_zero,List.replicate_succ]
     refine runM_cut 6 (by simp) (by simp) fun K1 hK1 => ?_
     try simp only [ltb]
     simp only [List.getElem?_map,hn,get_encTys,hu,encTy_eq,tyCells,hw,length_encTys,length_encFds,List.length_map,go_sem,reduceIte,reduceAdd,reduceLT,reduceLeDiff,reduceMul,reduceEqDiff,reduceSub,reduceCtorEq,List.take_length,List.replicate]
     refine hK1 _ ?_
     try simp only [ltb]
     simp only [List.getElem?_map,hn,get_encTys,hu,encTy_eq,tyCells,hw,length_encTys,length_encFds,List.length_map,go_sem,reduceIte,reduceAdd,reduceLT,reduceLeDiff,reduceMul,reduceEqDiff,reduceSub,reduceCtorEq,List.take_length,List.replicate]
     refine hK _ _ rfl ?_
     simp only [mwb,reduceAdd,reduceEqDiff]
     refine ex_if rfl (fun hc33 => ?_) (fun hc33 => ?_)
     ·have hsu : t.subst ns us = u := by rw [t.subst_eq, if_pos h9, pick_at hn hu hc33 hno]
      refine ex_region_w tt_ok 90 (rp 34 0 [1,1,1,1]) [] rfl rfl fun K hK => ?_
      try simp only [ltb]
      try simp only [ltb]
      simp only [List.getElem?_map,hn,get_encTys,hu,encTy_eq,tyCells,hw,length_encTys,length_encFds,List.length_map,go_sem,reduceIte,reduceAdd,reduceLT,reduceLeDiff,reduceMul,reduceEqDiff,reduceSub,reduceCtorEq,List.take_length]
      refine hK _ _ rfl ?_
      simp only [mwb,reduceAdd,reduceEqDiff]
      refine ex_ret ?_
      first
       | (refine ⟨.inl rfl, _, ?_, rfl⟩; rw [hTT, hsu, encTy_eq]; rfl)
       | (refine ⟨.inl rfl, .agg [num t.kind, str t.mod, str t.name, .slice (encTys (t.args.map (Ty.subst ns us))), .slice (encFds (t.flds.map (Fd.subst ns us)))], by rw [hTT, hsub]; rfl, ?_⟩; simp [retV, resL, resV, Tryz.f35, loadV, pickCells, tt25, pur, pur1, purCells, purCell, nilS, encTys_map, encFds_map, take_len_map])
     ·refine ex_skip ?_
      show Go.Eng.Ex _ _ _ _ _ _
      refine ex_last_region_w tt_ok 90 (0::0::0::0::0::0::0::2::(rp 17 0 [2,2])) [] (by kernel_rfl) rfl rfl fun K hK => ?_
      try simp only [ltb]
      try simp only [ltb]
      simp only [List.getElem?_map,hn,get_encTys,hu,encTy_eq,tyCells,hw,length_encTys,length_encFds,List.length_map,go_sem,reduceIte,reduceAdd,reduceLT,reduceLeDiff,reduceMul,reduceEqDiff,reduceSub,reduceCtorEq,List.take_length]
      refine hK _ _ rfl ?_
      simp only [mwb,reduceAdd,reduceEqDiff]
      refine ⟨[_], ?_, ?_, 2, [false,true,true,true,false,false,true,true,false,false,false,false,false,false,true], by omega, by simp only [maskFr,belowV,belowL,belowB,reduceLT,mkb], by simp only [maskFr,belowV,belowL,belowB,reduceLT,mkb], by simp only [maskFr,belowV,belowL,belowB,reduceLT,putAll,List.set_cons_zero,List.set_cons_succ,mkb]; rfl⟩
      ·refine ⟨i + 1, rfl, hin, fun j hj b hb => ?_⟩
       rcases Nat.lt_or_ge j i with h | h
       ·exact hno j h b hb
       ·obtain rfl : j = i := by omega
        rw [hn] at hb; cases hb; exact hc33
      ·simp only [intOf,List.headD_cons]; omega
    ·have hpn : t.kind = 9 → pickT ns us t.name = none := fun _ => pick_no (i := i) (fun h => by have := of_decide_eq_false hc24; omega) hno
     refine ex_exit ?_
     refine ⟨[], ?_, 2, [false,true,true,true,false,false,true], by omega, by simp only [maskFr,belowV,belowL,belowB,reduceLT,mkb], by simp only [maskFr,belowV,belowL,belowB,reduceLT,mkb], by simp only [maskFr,belowV,belowL,belowB,reduceLT,putAll,List.set_cons_zero,List.set_cons_succ,mkb]⟩
     exact ⟨rfl, hpn⟩
  ·have hpn : t.kind = 9 → pickT ns us t.name = none := fun h => absurd h (of_decide_eq_false hc14)
   refine ex_skip ?_
   refine ⟨[], ?_, 2, [false,true,true,true,false,false,true], by omega, by simp only [maskFr,belowV,belowL,belowB,reduceLT,mkb], by simp only [maskFr,belowV,belowL,belowB,reduceLT,mkb], by simp only [maskFr,belowV,belowL,belowB,reduceLT,putAll,List.set_cons_zero,List.set_cons_succ,mkb]⟩
   exact ⟨rfl, hpn⟩
 ·intro vs hJ
  obtain ⟨rfl, hpn⟩ := hJ
  have hsub := subst_keep hpn
  simp only [maskFr,belowV,belowL,belowB,reduceLT,putAll,List.set_cons_zero,List.set_cons_succ,mkb]
  refine ex_region_w tt_ok 90 (rp 8 0 (2::(rp 29 0 [1,1,1,1,1,1,1]))) [] rfl rfl fun K hK => ?_
  try simp only [ltb]
  refine runX_cut 8 fun K1 hK1 => ?_
  simp only [ltb]
  simp only [length_encTys,length_encFds,List.length_map,go_sem,reduceIte,reduceAdd,reduceLT,reduceLeDiff,reduceMul,reduceEqDiff,reduceSub,reduceCtorEq,List.take_length]
  refine hK1 _ ?_
  try simp only [ltb]
  simp only [length_encTys,length_encFds,List.length_map,go_sem,reduceIte,reduceAdd,reduceLT,reduceLeDiff,reduceMul,reduceEqDiff,reduceSub,reduceCtorEq,List.take_length]
  refine hK _ _ rfl ?_
  simp only [mwb,reduceAdd,reduceEqDiff]
  refine ex_seq ?_
  refine ex_region_w tt_ok 90 (rp 9 0 [2]) [] rfl rfl fun K hK => ?_
  try simp only [ltb]
  try simp only [ltb]
  simp only [length_encTys,length_encFds,List.length_map,go_sem,reduceIte,reduceAdd,reduceLT,reduceLeDiff,reduceMul,reduceEqDiff,reduceSub,reduceCtorEq,List.take_length]
  refine hK _ _ rfl ?_
  simp only [mwb,reduceAdd,reduceEqDiff]
  refine ex_block ?_
  refine ex_nilBox 2 3 0 5 rfl rfl ?_
  simp only [ltb,List.set_cons_zero,List.set_cons_succ,List.length_cons,List.length_nil,reduceAdd]
  refine ex_loopF (fun a : Nat => { fr := [.undef, .slice (ns.map str), .slice (encTys us), .ptr 0 0, .undef, .undef, .ptr 1 0, .undef, .ptr 2 0, num a, .undef, .undef, .undef, .undef, .undef, .undef, .undef, .undef, .undef, .undef, .undef, .undef, .undef, .undef, .undef, .undef, .undef, .undef, .undef, .undef, .undef, .undef, .undef, .undef, .undef, .undef, .undef, .undef, .undef, .undef, .undef, .undef, .undef, .undef, .undef, .undef, .undef, .undef, .undef, .undef, .undef, .undef, .undef, .undef, .undef, .undef, .undef, .undef, .undef, .undef, .undef, .undef, .undef, .undef, .undef, .undef, .undef, .undef, .undef, .undef, .undef, .undef, .undef, .undef, .undef, .undef, .undef, .undef, .undef, .undef, .undef, .undef, .undef, .undef, .undef, .undef, .undef, .undef, .undef, .undef], mem := [.box [num t.kind, str t.mod, str t.name, .slice (encTys t.args), .slice (encFds t.flds)], .box [num 0, str ⟨#[]⟩, str ⟨#[]⟩, .sc (.slice none 0 0), .sc (.slice none 0 0)], .box [num t.kind, str t.mod, str t.name, .ms 3 a 0 a, .sc (.slice none 0 0)], .rows a 5 (encTys ((t.args.take a).map (Ty.subst ns us)))] }) (fun a => t.args.length - a) (fun a => a ≤ t.args.length) (0) 4 [false,true,true,true,false,false,true,false,true,true] (by omega) (by simp only [maskFr,belowV,belowL,belowB,reduceLT,mkb]) (by simp only [maskFr,belowV,belowL,belowB,reduceLT,mkb]) (by simp only [maskFr,belowV,belowL,belowB,reduceLT,List.map_nil,encTys,mkb]; rfl) (Nat.zero_le _) ?_
  rintro i hi
  dsimp only
  refine ex_seq ?_
  refine ex_region_w tt_ok 90 (rp 45 0 [1,1,1,1,2]) [] rfl rfl fun K hK => ?_
  try simp only [ltb]
  try simp only [ltb]
  simp only [length_encTys,length_encFds,List.length_map,go_sem,reduceIte,reduceAdd,reduceLT,reduceLeDiff,reduceMul,reduceEqDiff,reduceSub,reduceCtorEq,List.take_length]
  refine hK _ _ rfl ?_
  simp only [mwb,reduceAdd,reduceEqDiff]
  refine ex_if rfl (fun hc49 => ?_) (fun hc49 => ?_)
  ·have hlt : i < t.args.length := by simpa using hc49
   rw [hc49]
   obtain ⟨x, hx⟩ : ∃ x, t.args[i]? = some x := ⟨_, List.getElem?_eq_getElem hlt⟩
   have hw := i64_succ i (by omega)
   have hla : ((t.args.take i).map (Ty.subst ns us)).length = i := by rw [List.length_map, List.length_take]; omega
   have hli : i + 1 ≤ 34359738368 := by omega
   refine ex_skip ?_
   show Go.Eng.Ex _ _ _ _ _ _
   refine ex_seq ?_
   refine ex_block ?_
   refine ex_last_mixed_w tt_ok mixed_ok 90 [0,0,0,0,0,0,0,0,0,0,0,0,0,0,0,0,0,0,0,0,0,0,0,0,0,0,0,0,0,0,0,0,0,0,0,0,0,0,0,0,0,0,0,0,0,0,0,0,0,0,0,0,2,2,2,2,2,2,2,2,2,2,2,2,2] (by kernel_rfl) (by kernel_rfl) [⟨.n, 0, [], []⟩, ⟨.r, 0, [], [0]⟩, ⟨.n, 0, [], []⟩, ⟨.r, 0, [], [2]⟩, ⟨.n, 0, [], []⟩, ⟨.r, 0, [], [2,3,4]⟩, ⟨.r, 0, [], [2,3,4,5]⟩, ⟨.n, 0, [], []⟩, ⟨.n, 0, [], []⟩, ⟨.n, 0, [], [2,3,4,5,6,7,8]⟩, ⟨.n, 0, [], [2,3,4,5,6,7,8,9]⟩, ⟨.w, 0, [], [0,1,2,3,4,5,6,7,8,9,10]⟩, ⟨.n, 0, [], [0,1,2,3,4,5,6,7,8,9,10,11]⟩, ⟨.w, 1, [], [0,1,2,3,4,5,6,7,8,9,10,11,12]⟩] 2 (by kernel_rfl) fun K hK => ?_
   try simp only [ltb,List.replicate_zero,List.replicate_succ]
   refine runM_cut 6 (by simp) (by simp) fun K1 hK1 => ?_
   try simp only [ltb]
   simp only [get_encTys,hx,encTy_eq,tyCells,hw,hla,hli,first5,first7,List.length_cons,List.length_nil,Nat.zero_add,length_encTys,length_encFds,List.length_map,go_sem,reduceIte,reduceAdd,reduceLT,reduceLeDiff,reduceMul,reduceEqDiff,reduceSub,reduceCtorEq,List.take_length,List.replicate]
   refine hK1 _ ?_
   refine runM_cut 4 (by simp) (by simp) fun K1 hK1 => ?_
   try simp only [ltb]
   simp only [get_encTys,hx,encTy_eq,tyCells,hw,hla,hli,first5,first7,List.length_cons,List.length_nil,Nat.zero_add,length_encTys,length_encFds,List.length_map,go_sem,reduceIte,reduceAdd,reduceLT,reduceLeDiff,reduceMul,reduceEqDiff,reduceSub,reduceCtorEq,List.take_length,List.replicate]
   refine callD_ex rfl (by have h := hrec x (Ty.arg_part (List.mem_of_getElem? hx)); rw [encTy_eq, encTy_eq] at h; exact ⟨_, rfl, h⟩) ?_
   rintro _ rfl
   try simp only [get_encTys,hx,encTy_eq,tyCells,hw,hla,hli,first5,first7,List.length_cons,List.length_nil,Nat.zero_add,length_encTys,length_encFds,List.length_map,go_sem,reduceIte,reduceAdd,reduceLT,reduceLeDiff,reduceMul,reduceEqDiff,reduceSub,reduceCtorEq,List.take_length,List.replicate]
   refine hK1 _ ?_
   try simp only [ltb]
   simp only [get_encTys,hx,encTy_eq,tyCells,hw,hla,hli,first5,first7,List.length_cons,List.length_nil,Nat.zero_add,length_encTys,length_encFds,List.length_map,go_sem,reduceIte,reduceAdd,reduceLT,reduceLeDiff,reduceMul,reduceEqDiff,reduceSub,reduceCtorEq,List.take_length,List.replicate]
   refine hK _ _ rfl ?_
   simp only [mwb,reduceAdd,reduceEqDiff]
   show Go.Eng.Ex _ _ _ _ _ _
   refine ex_last_region_w tt_ok 90 (rp 9 0 (2::(rp 40 0 [2,2]))) [] (by kernel_rfl) rfl rfl fun K hK => ?_
   try simp only [ltb]
   try simp only [ltb]
   simp only [get_encTys,hx,encTy_eq,tyCells,hw,hla,hli,first5,first7,List.length_cons,List.length_nil,Nat.zero_add,length_encTys,length_encFds,List.length_map,go_sem,reduceIte,reduceAdd,reduceLT,reduceLeDiff,reduceMul,reduceEqDiff,reduceSub,reduceCtorEq,List.take_length]
   refine hK _ _ rfl ?_
   simp only [mwb,reduceAdd,reduceEqDiff]
   refine ⟨i + 1, ?_, ?_, 4, [false,true,true,true,false,false,true,false,true,true], by omega, by simp only [maskFr,belowV,belowL,belowB,reduceLT,mkb], by simp only [maskFr,belowV,belowL,belowB,reduceLT,mkb], by (simp [rp,maskFr, encTys_map, List.take_add_one, hx, encTy_eq, tyCells]; omega)⟩
   ·exact hlt
   ·omega
  ·have hge : ¬ i < t.args.length := by simpa using hc49
   have hie : i = t.args.length := by omega
   subst hie
   refine ex_exit ?_
   show Go.Eng.Ex _ _ _ _ _ _
   refine ex_seq ?_
   refine ex_region_w tt_ok 90 (rp 10 0 [2]) [] rfl rfl fun K hK => ?_
   try simp only [ltb]
   try simp only [ltb]
   simp only [length_encTys,length_encFds,List.length_map,go_sem,reduceIte,reduceAdd,reduceLT,reduceLeDiff,reduceMul,reduceEqDiff,reduceSub,reduceCtorEq,List.take_length]
   refine hK _ _ rfl ?_
   simp only [mwb,reduceAdd,reduceEqDiff]
   refine ex_block ?_
   refine ex_nilBox 2 4 0 7 rfl rfl ?_
   simp only [ltb,List.set_cons_zero,List.set_cons_succ,List.length_cons,List.length_nil,reduceAdd]
   refine ex_loopF (fun a : Nat => { fr := [.undef, .slice (ns.map str), .slice (encTys us), .ptr 0 0, .undef, .undef, .ptr 1 0, .undef, .ptr 2 0, .undef, num a, .undef, .undef, .undef, .undef, .undef, .undef, .undef, .undef, .undef, .undef, .undef, .undef, .undef, .undef, .undef, .undef, .undef, .undef, .undef, .undef, .undef, .undef, .undef, .undef, .undef, .undef, .undef, .undef, .undef, .undef, .undef, .undef, .undef, .undef, .undef, .undef, .undef, .undef, .undef, .undef, .undef, .undef, .undef, .undef, .undef, .undef, .undef, .undef, .undef, .undef, .undef, .undef, .undef, .undef, .undef, .undef, .undef, .undef, .undef, .undef, .undef, .undef, .undef, .undef, .undef, .undef, .undef, .undef, .undef, .undef, .undef, .undef, .undef, .undef, .undef, .undef, .undef, .undef, .undef], mem := [.box [num t.kind, str t.mod, str t.name, .slice (encTys t.args), .slice (encFds t.flds)], .box [num 0, str ⟨#[]⟩, str ⟨#[]⟩, .sc (.slice none 0 0), .sc (.slice none 0 0)], .box [num t.kind, str t.mod, str t.name, .ms 3 t.args.length 0 t.args.length, .ms 4 a 0 a], .rows t.args.length 5 (encTys (t.args.map (Ty.subst ns us))), .rows a 7 (encFds ((t.flds.take a).map (Fd.subst ns us)))] }) (fun a => t.flds.length - a) (fun a => a ≤ t.flds.length) (0) 5 [false,true,true,true,false,false,true,false,true,false,true] (by omega) (by simp only [maskFr,belowV,belowL,belowB,reduceLT,mkb]) (by simp only [maskFr,belowV,belowL,belowB,reduceLT,mkb]) (by simp only [maskFr,belowV,belowL,belowB,reduceLT,List.map_nil,encFds,mkb]; rfl) (Nat.zero_le _) ?_
   rintro i hi
   dsimp only
   refine ex_seq ?_
   refine ex_region_w tt_ok 90 (rp 65 0 [1,1,1,1,2]) [] rfl rfl fun K hK => ?_
   try simp only [ltb]
   try simp only [ltb]
   simp only [length_encTys,length_encFds,List.length_map,go_sem,reduceIte,reduceAdd,reduceLT,reduceLeDiff,reduceMul,reduceEqDiff,reduceSub,reduceCtorEq,List.take_length]
   refine hK _ _ rfl ?_
   simp only [mwb,reduceAdd,reduceEqDiff]
   refine ex_if rfl (fun hc69 => ?_) (fun hc69 => ?_)
   ·have hlt : i < t.flds.length := by simpa using hc69
    rw [hc69]
    obtain ⟨f, hx⟩ : ∃ f, t.flds[i]? = some f := ⟨_, List.getElem?_eq_getElem hlt⟩
    have hw := i64_succ i (by omega)
    have hla : ((t.flds.take i).map (Fd.subst ns us)).length = i := by rw [List.length_map, List.length_take]; omega
    have hli : i + 1 ≤ 34359738368 := by omega
    refine ex_skip ?_
    show Go.Eng.Ex _ _ _ _ _ _
    refine ex_seq ?_
    refine ex_block ?_
    refine ex_region_w tt_ok 90 (rp 11 0 (2::(rp 60 0 [1,1,1,1,1]))) [] rfl rfl fun K hK => ?_
    try simp only [ltb]
    try simp only [ltb]
    simp only [get_encFds,hx,encFd_eq,encTy_eq,tyCells,hw,hla,hli,first5,first7,List.length_cons,List.length_nil,Nat.zero_add,length_encTys,length_encFds,List.length_map,go_sem,reduceIte,reduceAdd,reduceLT,reduceLeDiff,reduceMul,reduceEqDiff,reduceSub,reduceCtorEq,List.take_length]
    refine hK _ _ rfl ?_
    simp only [mwb,reduceAdd,reduceEqDiff]
    refine ex_region_w tt_ok 90 (rp 77 0 [1,1,1,1,1,1]) [] rfl rfl fun K hK => ?_
    try simp only [ltb]
    refine runX_cut 5 fun K1 hK1 => ?_
    simp only [ltb]
    simp only [get_encFds,hx,encFd_eq,encTy_eq,tyCells,hw,hla,hli,first5,first7,List.length_cons,List.length_nil,Nat.zero_add,length_encTys,length_encFds,List.length_map,go_sem,reduceIte,reduceAdd,reduceLT,reduceLeDiff,reduceMul,reduceEqDiff,reduceSub,reduceCtorEq,List.take_length]
    refine callF_ex (by have h := hrec f.ty (Ty.fld_part (List.mem_of_getElem? hx)); rw [encTy_eq, encTy_eq] at h; simp only [tyCells] at h; exact ⟨_, rfl, h⟩) ?_
    rintro _ rfl
    try simp only [get_encFds,hx,encFd_eq,encTy_eq,tyCells,hw,hla,hli,first5,first7,List.length_cons,List.length_nil,Nat.zero_add,length_encTys,length_encFds,List.length_map,go_sem,reduceIte,reduceAdd,reduceLT,reduceLeDiff,reduceMul,reduceEqDiff,reduceSub,reduceCtorEq,List.take_length]
    refine hK1 _ ?_
    try simp only [ltb]
    simp only [get_encFds,hx,encFd_eq,encTy_eq,tyCells,hw,hla,hli,first5,first7,List.length_cons,List.length_nil,Nat.zero_add,length_encTys,length_encFds,List.length_map,go_sem,reduceIte,reduceAdd,reduceLT,reduceLeDiff,reduceMul,reduceEqDiff,reduceSub,reduceCtorEq,List.take_length]
    refine hK _ _ rfl ?_
    simp only [mwb,reduceAdd,reduceEqDiff]
    refine ex_last_region_w tt_ok 90 (rp 83 0 [2,2,2,2,2,2]) [] (by kernel_rfl) rfl rfl fun K hK => ?_
    try simp only [ltb]
    try simp only [ltb]
    simp only [get_encFds,hx,encFd_eq,encTy_eq,tyCells,hw,hla,hli,first5,first7,List.length_cons,List.length_nil,Nat.zero_add,length_encTys,length_encFds,List.length_map,go_sem,reduceIte,reduceAdd,reduceLT,reduceLeDiff,reduceMul,reduceEqDiff,reduceSub,reduceCtorEq,List.take_length]
    refine hK _ _ rfl ?_
    simp only [mwb,reduceAdd,reduceEqDiff]
    show Go.Eng.Ex _ _ _ _ _ _
    refine ex_last_region_w tt_ok 90 (rp 10 0 (2::(rp 59 0 [2,2]))) [] (by kernel_rfl) rfl rfl fun K hK => ?_
    try simp only [ltb]
    try simp only [ltb]
    simp only [get_encFds,hx,encFd_eq,encTy_eq,tyCells,hw,hla,hli,first5,first7,List.length_cons,List.length_nil,Nat.zero_add,length_encTys,length_encFds,List.length_map,go_sem,reduceIte,reduceAdd,reduceLT,reduceLeDiff,reduceMul,reduceEqDiff,reduceSub,reduceCtorEq,List.take_length]
    refine hK _ _ rfl ?_
    simp only [mwb,reduceAdd,reduceEqDiff]
    refine ⟨i + 1, ?_, ?_, 5, [false,true,true,true,false,false,true,false,true,false,true], by omega, by simp only [maskFr,belowV,belowL,belowB,reduceLT,mkb], by simp only [maskFr,belowV,belowL,belowB,reduceLT,mkb], by (simp [rp,maskFr, encFds_map, List.take_add_one, hx, encFd_eq, encTy_eq, tyCells, Fd.subst_eq]; exact ⟨by omega, rfl, rfl, rfl, rfl, rfl, rfl, rfl⟩)⟩
    ·exact hlt
    ·omega
   ·have hge : ¬ i < t.flds.length := by simpa using hc69
    have hie : i = t.flds.length := by omega
    subst hie
    refine ex_exit ?_
    show Go.Eng.Ex _ _ _ _ _ _
    refine ex_region_w tt_ok 90 (rp 89 0 [1]) [] rfl rfl fun K hK => ?_
    try simp only [ltb]
    try simp only [ltb]
    simp only [length_encTys,length_encFds,List.length_map,go_sem,reduceIte,reduceAdd,reduceLT,reduceLeDiff,reduceMul,reduceEqDiff,reduceSub,reduceCtorEq,List.take_length]
    refine hK _ _ rfl ?_
    simp only [mwb,reduceAdd,reduceEqDiff]
    refine ex_ret ?_
    first
     | (refine ⟨.inl rfl, _, ?_, rfl⟩; rw [hTT, hsu, encTy_eq]; rfl)
     | (refine ⟨.inl rfl, .agg [num t.kind, str t.mod, str t.name, .slice (encTys (t.args.map (Ty.subst ns us))), .slice (encFds (t.flds.map (Fd.subst ns us)))], by rw [hTT, hsub]; rfl, ?_⟩; simp [retV, resL, resV, Tryz.f35, loadV, pickCells, tt25, pur, pur1, purCells, purCell, nilS, encTys_map, encFds_map, take_len_map])
theorem rsubst_ok (ns : List ByteArray) (us : List Ty) (hnl : ns.length ≤ 1048576) (hul : us.length ≤ 1048576) : ∀ (N : Nat) (t : Ty), t.size ≤ N → N ≤ 1048576 → FnOk Tryz.prog 35 [encTy t, .slice (ns.map str), .slice (encTys us)] (encTy (t.subst ns us)) := by
 intro N
 induction N with
 | zero => intro t h; have := t.size_pos; omega
 | succ N ih =>
  intro t hN hb
  have hpl := t.parts_length
  obtain ⟨_, rfl, h⟩ := rsubst_tot ns us t _ rfl hnl hul (by omega) (by omega) fun p hp => by
   obtain ⟨i, hi⟩ := List.mem_iff_getElem?.1 hp
   have e1 := sumBy_mem Ty.size hi
   have e2 := t.size_parts
   exact ih p (by omega) (by omega)
  exact h
end Go.Proofs.YtpjdfcigadnhcaaGreatDoor
end

section
namespace Go.Proofs.YtpjdfcigadnhcaaGreatDoor
open Go.Eng
open Nat (reduceAdd reduceLT reduceLeDiff reduceMul reduceEqDiff reduceSub)
variable [Glob]
section
variable {σ : Type} {M : σ → List Blk} {n k k1 k2 : Nat}
theorem walkP_ok (hn : ∀ s, (M s).length = n) (hk : k < n) (hk1 : k1 < n) (hk2 : k2 < n) (h1 : ∀ s, (M s)[k1]? = some (.box [.yld k])) (h2 : ∀ s, (M s)[k2]? = some (.box [.clo (.func 92) [] [.ptr k1 0, .ptr k2 0]])) (hb : ∀ s, (M s).all (belowB n) = true)
  (step : σ → Ty → σ × Bool) (G : σ → Prop) (hG : ∀ s u, G s → (step s u).2 = true → G (step s u).1) {B : Nat} (hB : B ≤ 1048576) (Pd : Ty → Prop) (hy : ∀ s u, G s → u.size ≤ B → Pd u → YOk Tryz.prog k [encTy u] (M s) (step s u).2 (M (step s u).1)) :
  ∀ (N : Nat) (t : Ty) (s : σ), G s → (∀ v ∈ t.nodes, Pd v) → t.size ≤ N → N ≤ B → FnOkS Tryz.prog 92 [encTy t, .ptr k1 0, .ptr k2 0] (M s) (bl (stepL step s t.nodes).2) (M (stepL step s t.nodes).1) := by
 have g0 : ∀ s (l : List Blk), (M s ++ l)[n]? = l[0]? := fun s l => by rw [List.getElem?_append_right (by rw [hn]; exact Nat.le_refl _), hn, Nat.sub_self]
 have g1 : ∀ s (l : List Blk), (M s ++ l)[n + 1]? = l[1]? := fun s l => by rw [List.getElem?_append_right (by rw [hn]; omega), hn, Nat.add_sub_cancel_left]
 have gk1 : ∀ s (l : List Blk), (M s ++ l)[k1]? = some (.box [.yld k]) := fun s l => by rw [List.getElem?_append_left (by rw [hn]; exact hk1)]; exact h1 s
 have gk2 : ∀ s (l : List Blk), (M s ++ l)[k2]? = some (.box [.clo (.func 92) [] [.ptr k1 0, .ptr k2 0]]) := fun s l => by rw [List.getElem?_append_left (by rw [hn]; exact hk2)]; exact h2 s
 have gs : ∀ s (l : List Blk) X, (M s ++ l).set n X = M s ++ l.set 0 X := fun s l X => by rw [List.set_append_right _ _ (by rw [hn]; exact Nat.le_refl _), hn, Nat.sub_self]
 have gt : ∀ s (l : List Blk), (M s ++ l).take n = M s := fun s l => by rw [← hn s, List.take_left]
 have gt' : ∀ s, (M s).take n = M s := fun s => by rw [List.take_of_length_le (by rw [hn]; exact Nat.le_refl _)]
 have fy : ∀ s u (l : List Blk), G s → u.size ≤ B → Pd u → YOk Tryz.prog k [encTy u] (M s ++ l) (step s u).2 (M (step s u).1 ++ l) := fun s u l hg hu hp => by
  refine (hy s u hg hu hp).frame (by rw [hn]; exact hk) ?_ (by rw [hn]; exact hb s) (by rw [hn, hn]) (by rw [hn]; exact hb _) l
  rw [encTy_eq]; simp [belowV, belowL, tyCells]
 intro N
 induction N with
 | zero => intro t s hg hP h; have := t.size_pos; omega
 | succ N ih =>
  intro t s hg hP hN hNB
  have hpl := t.parts_length
  have hps := t.size_parts
  have hpn := length_le_sum Ty.size Ty.size_pos t.parts
  have hne := t.nodes_eq
  have hp := sparts_ok t (by omega)
  have hyt := fun l => fy s t l hg (by omega) (hP t (by rw [t.nodes_eq]; simp))
  have ihf : ∀ u s (l : List Blk), G s → (∀ v ∈ u.nodes, Pd v) → u.size ≤ N → FnOkS Tryz.prog 92 [encTy u, .ptr k1 0, .ptr k2 0] (M s ++ l) (bl (stepL step s u.nodes).2) (M (stepL step s u.nodes).1 ++ l) := fun u s l hg hq hu => by
   refine (ih u s hg hq hu (by omega)).frame ?_ (by rw [hn]; exact hb s) rfl (by rw [hn, hn]) (by rw [hn]; exact hb _) l
   rw [encTy_eq, hn]; simp [belowV, belowL, tyCells, hk1, hk2]
  simp only [encTy_eq,tyCells] at ihf
  refine fns_ok tt_ok (fn := Tryz.f92) n (by rw [hn]; exact Nat.le_refl _) Tryz.func92 rfl Tryz.call92 ?_
  simp only [ltb,startSt,Tryz.ntmps92,List.length_cons,List.length_nil,reduceAdd,reduceSub,List.replicate_succ,List.replicate_zero]
  rw [encTy_eq] at hp hyt ⊢
  simp only [tyCells] at hp hyt ⊢
  refine tri_seq_region tt_ok fun K hK => ?_
  simp only [hn,go_sem]
  refine hK _ ?_
  refine tri_seq ?_
  refine tri_seq_region tt_ok fun K hK => ?_
  simp only [gk1,g0,go_sem,reduceAdd]
  refine .inl ⟨_, _, hyt _, ?_⟩
  try simp only [go_sem,reduceIte,reduceAdd,reduceLT,reduceLeDiff,reduceMul,reduceEqDiff,reduceSub,reduceCtorEq]
  refine hK _ ?_
  cases hbb : (step s t).2 with
  | false =>
   refine tri_cond rfl ?_
   refine tri_seq_region tt_ok fun K hK => ?_
   simp only [go_sem]
   refine hK _ ?_
   refine tri_ret ⟨.inl rfl, ?_⟩
   have hst : stepL step s t.nodes = ((step s t).1, false) := by rw [hne]; simp [stepL, hbb]
   rw [hst]
   exact ⟨rfl, rfl, by dsimp only; rw [gt]; exact hb _, (gt _ _).symm⟩
  | true =>
   refine tri_cond rfl (tri_skip ?_)
   show Tri _ _ _ _ _ _
   refine tri_seq ?_
   refine tri_seq_region tt_ok fun K hK => ?_
   simp only [g0,go_sem,reduceAdd]
   refine .inl ⟨_, _, by simp only [go_sem], hp, ?_⟩
   try simp only [length_encTys,go_sem]
   refine hK _ ?_
   obtain ⟨ps, hps'⟩ : ∃ ps, ps = t.parts := ⟨_, rfl⟩
   rw [← hps'] at hps hpn hne ⊢
   have hPp : ∀ u ∈ ps, ∀ v ∈ u.nodes, Pd v := fun u hu v hv => hP v (by rw [hne]; exact List.mem_cons_of_mem _ (List.mem_flatMap.2 ⟨u, hu, hv⟩))
   refine tri_block (tri_loop_inv (fun N st => ∃ (i : Nat) (s' : σ), G s' ∧ N = ps.length - i ∧ i ≤ ps.length ∧ stepL step s (t :: (ps.take i).flatMap Ty.nodes) = (s', true) ∧
    st = { fr := [.undef, .ptr k1 0, .ptr k2 0, .undef, .undef, .undef, .undef, .undef, .undef, .undef, .undef, .undef, .slice (encTys ps), num ps.length, num i] ++ List.replicate 8 .undef, mem := M s' }) ps.length ?_ ?_)
   ·refine ⟨n, (false::true::true::(rp 9 false [true,true,true])), by rw [hn]; exact Nat.le_refl _, by simp only [maskFr,belowV,hk1,hk2,mkb], by dsimp only; rw [gt]; exact hb _, 0, (step s t).1, hG s t hg hbb, by omega, by omega, by simp [stepL, hbb], ?_⟩
    dsimp only; rw [gt]; rfl
   ·rintro N' st ⟨i, s', hg', rfl, hi, hsi, rfl⟩
    simp only [ltb,List.replicate_succ,List.replicate_zero]
    by_cases hlt : i < ps.length
    ·have hd := lt_dec hlt
     refine tri_seq_region tt_ok fun K hK => ?_
     simp only [hd,go_sem]
     refine hK _ ?_
     refine tri_seq (tri_cond rfl (tri_skip ?_))
     refine tri_seq (tri_block ?_)
     obtain ⟨u, hu⟩ : ∃ u, ps[i]? = some u := ⟨_, List.getElem?_eq_getElem hlt⟩
     have hus := sumBy_mem Ty.size hu
     have hrec := fun l => ihf u s' l hg' (hPp u (List.mem_of_getElem? hu)) (by omega)
     have htk : (ps.take (i + 1)).flatMap Ty.nodes = (ps.take i).flatMap Ty.nodes ++ u.nodes := by rw [List.take_add_one, hu]; simp
     have hnx : stepL step s (t :: (ps.take (i + 1)).flatMap Ty.nodes) = stepL step s' u.nodes := by
      rw [htk, ← List.cons_append, stepL_append, hsi]; simp
     refine tri_seq_region tt_ok fun K hK => ?_
     simp only [get_encTys,hu,encTy_eq,tyCells,hn,g0,gs,go_sem,reduceAdd]
     refine hK _ ?_
     refine tri_seq_region tt_ok fun K hK => ?_
     simp only [gk2,g0,go_sem,reduceAdd]
     refine .inr <| .inl ⟨_, _, hrec _, ?_⟩
     try simp only [go_sem]
     refine hK _ ?_
     cases hbu : (stepL step s' u.nodes).2 with
     | false =>
      refine tri_cond rfl ?_
      refine tri_seq_region tt_ok fun K hK => ?_
      simp only [go_sem]
      refine hK _ ?_
      refine tri_ret ⟨.inl rfl, ?_⟩
      have hst : stepL step s t.nodes = ((stepL step s' u.nodes).1, false) := by
       have hsplit : ps.flatMap Ty.nodes = (ps.take (i + 1)).flatMap Ty.nodes ++ (ps.drop (i + 1)).flatMap Ty.nodes := by rw [← List.flatMap_append, List.take_append_drop]
       rw [hne, hsplit, ← List.cons_append, stepL_append, hnx, hbu]; simp
      rw [hst]
      exact ⟨rfl, rfl, by dsimp only; rw [gt]; exact hb _, (gt _ _).symm⟩
     | true =>
      refine tri_cond rfl (tri_skip ?_)
      show Tri _ _ _ _ _ _
      refine tri_last_region tt_ok fun K hK => ?_
      simp only [go_sem]
      refine hK _ ?_
      have hw2 := i64_succ i (by omega)
      rw [hw2]
      refine ⟨ps.length - (i + 1), by omega, n, (false::true::true::(rp 9 false [true,true,true])), by rw [hn]; exact Nat.le_refl _, by simp only [maskFr,belowV,hk1,hk2,mkb], by dsimp only; rw [gt]; exact hb _, i + 1, (stepL step s' u.nodes).1, stepL_good step hG _ _ hg' hbu, rfl, hlt, by rw [hnx, ← hbu], ?_⟩
      dsimp only; rw [gt]; rfl
    ·have hd := ge_dec hlt
     refine tri_seq_region tt_ok fun K hK => ?_
     simp only [hd,go_sem]
     refine hK _ ?_
     refine tri_seq (tri_cond rfl (tri_exit ?_))
     have hie : i = ps.length := by omega
     subst hie
     show Tri _ _ _ _ _ _
     refine tri_seq_region tt_ok fun K hK => ?_
     simp only [go_sem]
     refine hK _ ?_
     refine tri_ret ⟨.inl rfl, ?_⟩
     rw [List.take_length] at hsi
     rw [hne, hsi]
     exact ⟨rfl, rfl, by dsimp only; rw [gt']; exact hb _, (gt' _).symm⟩
end

section
variable {σ : Type} {M : σ → List Blk} {n k kt : Nat}
theorem iterP_ok (hn : ∀ s, (M s).length = n) (hk : k < n) (hkt : kt < n) {t : Ty} (h1 : ∀ s, (M s)[kt]? = some (.box (tyCells t))) (hb : ∀ s, (M s).all (belowB n) = true)
  (step : σ → Ty → σ × Bool) (G : σ → Prop) (hG : ∀ s u, G s → (step s u).2 = true → G (step s u).1) {B : Nat} (hB : B ≤ 1048576) (Pd : Ty → Prop) (hy : ∀ s u, G s → u.size ≤ B → Pd u → YOk Tryz.prog k [encTy u] (M s) (step s u).2 (M (step s u).1)) (ht : t.size ≤ B) (hP : ∀ v ∈ t.nodes, Pd v) (s : σ) (hs : G s) :
  FnOkS Tryz.prog 91 [.yld k, .ptr kt 0] (M s) (.tup []) (M (stepL step s t.nodes).1) := by
 have g0 : ∀ s (l : List Blk), (M s ++ l)[n]? = l[0]? := fun s l => by rw [List.getElem?_append_right (by rw [hn]; exact Nat.le_refl _), hn, Nat.sub_self]
 have g1 : ∀ s (l : List Blk), (M s ++ l)[n + 1]? = l[1]? := fun s l => by rw [List.getElem?_append_right (by rw [hn]; omega), hn, Nat.add_sub_cancel_left]
 have gkt : ∀ s (l : List Blk), (M s ++ l)[kt]? = some (.box (tyCells t)) := fun s l => by rw [List.getElem?_append_left (by rw [hn]; exact hkt)]; exact h1 s
 have gs : ∀ s (l : List Blk) X, (M s ++ l).set (n + 1) X = M s ++ l.set 1 X := fun s l X => by rw [List.set_append_right _ _ (by rw [hn]; omega), hn, Nat.add_sub_cancel_left]
 have gt : ∀ s (l : List Blk), (M s ++ l).take n = M s := fun s l => by rw [← hn s, List.take_left]
 have hw : ∀ s, G s → FnOkS Tryz.prog 92 [encTy t, .ptr n 0, .ptr (n + 1) 0] (M s ++ [.box [.yld k], .box [.clo (.func 92) [] [.ptr n 0, .ptr (n + 1) 0]]]) (bl (stepL step s t.nodes).2) (M (stepL step s t.nodes).1 ++ [.box [.yld k], .box [.clo (.func 92) [] [.ptr n 0, .ptr (n + 1) 0]]]) := fun s hs => by
  refine walkP_ok (M := fun s => M s ++ [.box [.yld k], .box [.clo (.func 92) [] [.ptr n 0, .ptr (n + 1) 0]]]) (n := n + 2) (k := k) (k1 := n) (k2 := n + 1) (fun s => by simp [hn]) (by omega) (by omega) (by omega) (fun s => g0 _ _) (fun s => g1 _ _) (fun s => ?_) step G hG hB Pd (fun s u hg hu hq => ?_) t.size t s hs hP (Nat.le_refl _) ht
  ·rw [List.all_append, Bool.and_eq_true]
   refine ⟨belowBs_mono (by omega) (hb s), ?_⟩
   simp [belowB, belowV, belowL]; omega
  ·refine (hy s u hg hu hq).frame (by rw [hn]; exact hk) ?_ (by rw [hn]; exact hb s) (by rw [hn, hn]) (by rw [hn]; exact hb _) _
   rw [encTy_eq]; simp [belowV, belowL, tyCells]
 refine fns_ok tt_ok (fn := Tryz.f91) n (by rw [hn]; exact Nat.le_refl _) Tryz.func91 rfl Tryz.call91 ?_
 simp only [ltb,startSt,Tryz.ntmps91,List.length_cons,List.length_nil,reduceAdd,reduceSub,List.replicate_succ,List.replicate_zero]
 have hws := hw s hs
 rw [encTy_eq] at hws
 simp only [tyCells] at hws gkt
 refine tri_seq_region tt_ok fun K hK => ?_
 simp only [hn,go_sem]
 refine hK _ ?_
 refine tri_seq_region tt_ok fun K hK => ?_
 simp only [hn,List.length_append,List.append_assoc,go_sem]
 refine hK _ ?_
 refine tri_seq_region tt_ok fun K hK => ?_
 simp only [g1,gs,go_sem]
 refine hK _ ?_
 refine tri_last_region tt_ok fun K hK => ?_
 simp only [g1,gkt,go_sem,reduceAdd]
 refine .inr <| .inl ⟨_, _, hws, ?_⟩
 try simp only [go_sem]
 refine hK _ ?_
 refine ⟨.inr rfl, rfl, rfl, ?_, ?_⟩
 ·dsimp only; rw [gt]; exact hb _
 ·dsimp only; rw [gt]



theorem triP_types {n0 : Nat} {st : St} {Q : Exit → St → Prop} {f : Operand} {params : Array Tmp} {assign body : Code} {t : Ty} (pre : σ → List Blk) (s0 : σ) (n kt : Nat) (hmem : st.mem = pre s0) (hn : ∀ s, (pre s).length = n) (hkt : kt < n)
  (ht : ∀ s, (pre s)[kt]? = some (.box (tyCells t))) (hb : ∀ s, (pre s).all (belowB (n + 1)) = true) (hfr : st.fr.all (belowV (n + 1)) = true) (hf : st.eval f = .clo (.func 91) [] [.ptr kt 0]) (hp : params.size = 1) (step : σ → Ty → σ × Option Code) {B : Nat} (hB : B ≤ 1048576) (hsz : t.size ≤ B) (Pd : Ty → Prop) (hPt : ∀ v ∈ t.nodes, Pd v)
  (hbody : ∀ s u, u.size ≤ B → Pd u → ∀ (l : Nat) (LR LB : Blk), belowB (n + 1) LR = true → belowB (n + 1) LB = true → Tri Tryz.prog (some l) (n + 1) assign { fr := setPs params.toList [encTy u] st.fr, mem := pre s ++ [LR] } fun ex st1 => ex = .normal ∧ st1.mem[n]? = some LR ∧
   Tri Tryz.prog (some l) (n + 1) body { st1 with mem := st1.mem.set n LB } fun ex st2 => jumpOf ex = some (step s u).2 ∧ st2.mem[n]? = some LB ∧ st2.mem.take n = pre (step s u).1)
  (hq : match (stepJ step s0 t.nodes).2 with
   | none => Q .normal { st with mem := pre (stepJ step s0 t.nodes).1 ++ [.dead] }
   | some c => Tri Tryz.prog none n0 c { st with mem := pre (stepJ step s0 t.nodes).1 ++ [.dead] } Q) : Tri Tryz.prog none n0 (.rangeFunc f params assign body) st Q := by
 have hlen : st.mem.length = n := by rw [hmem, hn]
 have gn : ∀ s X, (pre s ++ [X])[n]? = some X := fun s X => by rw [List.getElem?_append_right (by rw [hn]; exact Nat.le_refl _), hn, Nat.sub_self]; rfl
 have gk : ∀ s X, (pre s ++ [X])[kt]? = some (.box (tyCells t)) := fun s X => by rw [List.getElem?_append_left (by rw [hn]; exact hkt)]; exact ht s
 have gset : ∀ s (X Y : Blk), (pre s ++ [X]).set n Y = pre s ++ [Y] := fun s X Y => by rw [List.set_append_right _ _ (by rw [hn]; exact Nat.le_refl _), hn, Nat.sub_self]; rfl
 have hball : ∀ (s : σ) (a : LoopState) (b : Option Code), (pre s ++ [Blk.loop a b st.fr params assign body]).all (belowB (n + 1)) = true := fun s a b => by
  rw [List.all_append, Bool.and_eq_true]
  exact ⟨hb s, by simp only [List.all_cons,List.all_nil,Bool.and_true,belowB]; exact hfr⟩
 have it := iterP_ok (M := fun s : σ × Option Code => pre s.1 ++ [.loop (if s.2.isNone then .ready else .done) s.2 st.fr params assign body]) (n := n + 1) (k := n) (kt := kt) (t := t) (fun s => by simp [hn]) (by omega) (by omega) (fun s => gk _ _) (fun s => hball _ _ _)
  (stepB step) (fun s => s.2 = none) (fun s u hs h => by simpa [stepB] using h) hB Pd (fun s u hs hu hq => by
   obtain ⟨s, j⟩ := s
   simp only at hs; subst hs
   refine yok_of_body (fr := st.fr) (params := params) (assign := assign) (body := body) (gn _ _) (by simp [hp]) fun l => ?_
   have hl : (pre s ++ [Blk.loop .ready none st.fr params assign body]).length = n + 1 := by simp [hn]
   simp only [Option.isNone_none,if_true,hl]
   refine Tri.mono (hbody s u hu hq l (.loop .ready none st.fr params assign body) (.loop .busy none st.fr params assign body) hfr hfr) ?_
   rintro ex st1 ⟨h1, h2, h3⟩
   refine ⟨h1, h2, Tri.mono h3 ?_⟩
   rintro ex st2 ⟨h4, h5, h6⟩
   refine ⟨_, h4, rfl, h5, ?_, ?_⟩
   ·rw [take_set (hn _) h5 h6]; exact hball _ _ _
   ·rw [take_set (hn _) h5 h6]; rfl) hsz hPt (s0, none) rfl
 rw [stepJ_L] at it
 refine tri_rangeFunc (g := 91) (vs := [.yld n, .ptr kt 0]) (by rw [hf, hlen]; rfl) (by rw [hmem]; exact it) ?_
 rw [hlen]
 refine ⟨_, _, _, _, _, _, gn _ _, ?_, ?_⟩
 ·cases (stepJ step s0 t.nodes).2 <;> simp
 ·generalize hj : (stepJ step s0 t.nodes).2 = j at hq
  cases j with
  | none => dsimp only at hq ⊢; rw [gset]; exact hq
  | some c => dsimp only at hq ⊢; rw [gset]; exact hq
end

end Go.Proofs.YtpjdfcigadnhcaaGreatDoor
end

section
namespace Go.Proofs.YtpjdfcigadnhcaaGreatDoor
open Go.Eng
variable [Glob]
def usV (u : Us) : Value := .agg #[.string u.1, .string u.2]
theorem usV_inj {u v : Us} (h : usV u = usV v) : u = v := by
 unfold usV at h
 injection h with h
 have := congrArg Array.toList h
 simp only [List.cons.injEq,Value.string.injEq,and_true] at this
 exact Prod.ext this.1 this.2
theorem eqUs (u v : Us) : scRunP Tryz.prog (Op.equal 65 (usV u) (usV v)) = some (decide (u = v)) := by
 show scRunP Tryz.prog (Op.equal 65 (.agg #[.string u.1, .string u.2]) (.agg #[.string v.1, .string v.2])) = _
 rw [eq65, us_beq]
theorem findAsk_us (u : Us) : ∀ (kvs : List (Value × Nat × V)) (n : Nat), (∀ e ∈ kvs, ∃ x, e.1 = usV x) →
  (findAskV Tryz.prog 65 (usV u) kvs n = some none ∧ ∀ e ∈ kvs, e.1 ≠ usV u) ∨ ∃ i e, kvs[i]? = some e ∧ e.1 = usV u ∧ findAskV Tryz.prog 65 (usV u) kvs n = some (some (n + i, e.2.2))
 | [], n, _ => .inl ⟨rfl, by simp⟩
 | e :: r, n, h => by
  obtain ⟨x, hx⟩ := h e (by simp)
  have h1 : scRunP Tryz.prog (Op.equal 65 (usV u) e.1) = some (decide (u = x)) := by rw [hx]; exact eqUs u x
  by_cases he : u = x
  ·refine .inr ⟨0, e, rfl, by rw [hx, he], ?_⟩
   rw [decide_eq_true he] at h1
   simp only [findAskV,h1,Nat.add_zero]
  ·rw [decide_eq_false he] at h1
   rcases findAsk_us u r (n + 1) (fun e' he' => h e' (by simp [he'])) with ⟨h2, h3⟩ | ⟨i, e', h2, h3, h4⟩
   ·refine .inl ⟨by simp only [findAskV,h1]; exact h2, fun e' he' => ?_⟩
    rcases List.mem_cons.1 he' with rfl | he'
    ·rw [hx]; exact fun q => he (usV_inj q).symm
    ·exact h3 e' he'
   ·refine .inr ⟨i + 1, e', by simpa using h2, h3, ?_⟩
    simp only [findAskV,h1]
    rw [h4, show n + 1 + i = n + (i + 1) by omega]
theorem find_us (u : Us) (kvs : List (Value × Nat × V)) (h : ∀ e ∈ kvs, ∃ x, e.1 = usV x) :
  (findV Tryz.prog 65 (usV u) kvs = some none ∧ ∀ e ∈ kvs, e.1 ≠ usV u) ∨ ∃ i e, kvs[i]? = some e ∧ e.1 = usV u ∧ findV Tryz.prog 65 (usV u) kvs = some (some (i, e.2.2)) := by
 have key : findV Tryz.prog 65 (usV u) kvs = findAskV Tryz.prog 65 (usV u) kvs 0 := by
  unfold findV
  rw [Tryz.underlying65]
  dsimp only
  cases kvs with
  | nil => rfl
  | cons e r =>
   obtain ⟨x, hx⟩ := h e (by simp)
   simp only [findNowV,hx,usV,Instr.sameNow]
 rw [key]
 rcases findAsk_us u kvs 0 h with h1 | ⟨i, e, h1, h2, h3⟩
 ·exact .inl h1
 ·exact .inr ⟨i, e, h1, h2, by rw [h3, Nat.zero_add]⟩
theorem keyOk_us (u : Us) : keyOk Tryz.prog 65 (usV u) = true := by
 obtain ⟨a, b⟩ := u
 kernel_rfl
theorem bits_us (u : Us) : Instr.sameBits 10000 (usV u) (usV u) = true := by
 have h : ∀ s : ByteArray, Instr.sameBits 9999 (.string s) (.string s) = true := fun s => (baBeq_iff s s).2 rfl
 show Instr.sameBits (9999 + 1) (usV u) (usV u) = true
 unfold usV
 rw [Instr.sameBits]
 simp [h]
theorem map115 : mapDesc Tryz.prog 115 = some (65, 4) := by kernel_rfl
theorem insert_us (u : Us) {kvs : List (Value × Nat × V)} {cl : Nat} (h : ∀ e ∈ kvs, ∃ x, e.1 = usV x) (v : V) :
  (insertAt Tryz.prog 65 (usV u) v kvs cl = some (kvs ++ [(usV u, cl, v)], cl + 1) ∧ ∀ e ∈ kvs, e.1 ≠ usV u) ∨ ∃ i e, kvs[i]? = some e ∧ e.1 = usV u ∧ insertAt Tryz.prog 65 (usV u) v kvs cl = some (kvs.set i (usV u, e.2.1, v), cl) := by
 unfold insertAt
 rcases find_us u kvs h with ⟨h1, h2⟩ | ⟨i, e, h1, h2, h3⟩
 ·rw [h1]; exact .inl ⟨rfl, h2⟩
 ·refine .inr ⟨i, e, h1, h2, ?_⟩
  rw [h3]; dsimp only; rw [h1]; dsimp only
  rw [h2, if_pos (bits_us u)]
theorem insertV_us (u : Us) {kvs kvs' : List (Value × Nat × V)} {cl cl' : Nat} {v : V} (hi : insertAt Tryz.prog 65 (usV u) v kvs cl = some (kvs', cl')) {mem : List Blk} {b : Nat} (hm : mem[b]? = some (.map kvs cl)) :
  insertV Tryz.prog mem 115 (.mp b) (.agg [str u.1, str u.2]) v = some (mem.set b (.map kvs' cl')) := by
 have ht : toVal (.agg [str u.1, str u.2]) = some (usV u) := rfl
 unfold insertV
 rw [map115]
 dsimp only
 rw [ht]
 dsimp only
 rw [if_pos (keyOk_us u), hm]
 dsimp only
 rw [hi]
def UGood (s : List (Value × Nat × V) × Nat) : Prop :=
 (∀ e ∈ s.1, (∃ x, e.1 = usV x) ∧ e.2.2 = bl true ∧ e.2.1 < s.2) ∧ (s.1.map fun e => e.2.1).Nodup ∧ (s.1.map fun e => e.1).Nodup
theorem UGood.nil : UGood ([], 0) := ⟨fun e he => by simp at he, by simp, by simp⟩
theorem UGood.below {s : List (Value × Nat × V) × Nat} (h : UGood s) (n : Nat) : (s.1.all fun e => belowV n e.2.2) = true := List.all_eq_true.2 fun e he => by
 rw [(h.1 e he).2.1]; rfl
theorem UGood.ins {s : List (Value × Nat × V) × Nat} (h : UGood s) (u : Us) : ∃ s', UGood s' ∧ insertAt Tryz.prog 65 (usV u) (bl true) s.1 s.2 = some s' ∧
  (∀ k, (∃ e ∈ s'.1, e.1 = usV k) ↔ k = u ∨ ∃ e ∈ s.1, e.1 = usV k) ∧ s'.1.length ≤ s.1.length + 1 := by
 obtain ⟨h1, h2, h3⟩ := h
 rcases insert_us (cl := s.2) u (fun e he => (h1 e he).1) (bl true) with ⟨hi, hno⟩ | ⟨i, e, he, hk, hi⟩
 ·refine ⟨_, ⟨fun e he => ?_, ?_, ?_⟩, hi, fun k => ?_, by simp⟩
  ·rcases List.mem_append.1 he with he | he
   ·obtain ⟨p1, p2, p3⟩ := h1 e he
    exact ⟨p1, p2, Nat.lt_succ_of_lt p3⟩
   ·rw [List.mem_singleton] at he; subst he
    exact ⟨⟨u, rfl⟩, rfl, Nat.lt_succ_self _⟩
  ·simp only [List.map_append,List.map_cons,List.map_nil]
   rw [List.nodup_append]
   refine ⟨h2, by simp, fun a ha b hb => ?_⟩
   rw [List.mem_singleton] at hb; subst hb
   obtain ⟨e, he, rfl⟩ := List.mem_map.1 ha
   exact Nat.ne_of_lt (h1 e he).2.2
  ·simp only [List.map_append,List.map_cons,List.map_nil]
   rw [List.nodup_append]
   refine ⟨h3, by simp, fun a ha b hb => ?_⟩
   rw [List.mem_singleton] at hb; subst hb
   obtain ⟨e, he, rfl⟩ := List.mem_map.1 ha
   exact hno e he
  ·constructor
   ·rintro ⟨e, he, hk⟩
    rcases List.mem_append.1 he with he | he
    ·exact .inr ⟨e, he, hk⟩
    ·rw [List.mem_singleton] at he; subst he
     exact .inl (usV_inj hk).symm
   ·rintro (rfl | ⟨e, he, hk⟩)
    ·exact ⟨_, List.mem_append_right _ (List.mem_singleton.2 rfl), rfl⟩
    ·exact ⟨e, List.mem_append_left _ he, hk⟩
 ·have hlt := (List.getElem?_eq_some_iff.1 he).1
  have hm := List.mem_of_getElem? he
  have q : ∀ {β : Type} (f : Value × Nat × V → β), f (usV u, e.2.1, bl true) = f e → (s.1.set i (usV u, e.2.1, bl true)).map f = s.1.map f := fun f hf => by
   rw [List.map_set, hf]
   apply List.ext_getElem?
   intro j
   rw [List.getElem?_set]
   split
   ·rename_i hij; subst hij
    rw [if_pos (by simpa using hlt), List.getElem?_map, he]; rfl
   ·rfl
  refine ⟨_, ⟨fun e' he' => ?_, ?_, ?_⟩, hi, fun k => ?_, by simp⟩
  ·rcases List.mem_or_eq_of_mem_set he' with he' | rfl
   ·exact h1 e' he'
   ·exact ⟨⟨u, rfl⟩, rfl, (h1 e hm).2.2⟩
  ·have := q (fun e => e.2.1) rfl
   dsimp only at this ⊢
   rw [this]; exact h2
  ·have := q (fun e => e.1) hk.symm
   dsimp only at this ⊢
   rw [this]; exact h3
  ·have q1 := q (fun e => e.1) hk.symm
   have q2 : ∀ l : List (Value × Nat × V), (∃ e ∈ l, e.1 = usV k) ↔ usV k ∈ l.map fun e => e.1 := fun l => by simp [List.mem_map, eq_comm]
   rw [q2, q1, ← q2]
   constructor
   ·exact .inr
   ·rintro (rfl | h)
    ·exact ⟨e, hm, hk⟩
    ·exact h
open Classical in
noncomputable def insU (s : { s // UGood s }) (u : Us) : { s // UGood s } := ⟨Classical.choose (s.2.ins u), (Classical.choose_spec (s.2.ins u)).1⟩
theorem insU_ok (s : { s // UGood s }) (u : Us) : insertAt Tryz.prog 65 (usV u) (bl true) s.1.1 s.1.2 = some (insU s u).1 ∧
  (∀ k, (∃ e ∈ (insU s u).1.1, e.1 = usV k) ↔ k = u ∨ ∃ e ∈ s.1.1, e.1 = usV k) ∧ (insU s u).1.1.length ≤ s.1.1.length + 1 := (Classical.choose_spec (s.2.ins u)).2
noncomputable def stepU (s : { s // UGood s }) (t : Ty) : { s // UGood s } := if decide (t.kind = 10) = true then insU s (t.mod, t.name) else s
theorem stepU_fold : ∀ (l : List Ty) (s : { s // UGood s }),
  (∀ k, (∃ e ∈ (l.foldl stepU s).1.1, e.1 = usV k) ↔ (∃ t ∈ l, k ∈ usOf t) ∨ ∃ e ∈ s.1.1, e.1 = usV k) ∧ (l.foldl stepU s).1.1.length ≤ s.1.1.length + l.length
 | [], s => ⟨fun k => by simp, by simp⟩
 | t :: r, s => by
  obtain ⟨h1, h2⟩ := stepU_fold r (stepU s t)
  rw [List.foldl_cons]
  by_cases h9 : t.kind = 10
  ·have e0 : stepU s t = insU s (t.mod, t.name) := by unfold stepU; rw [if_pos (decide_eq_true h9)]
   have e1 : usOf t = [(t.mod, t.name)] := if_pos h9
   obtain ⟨-, h3, h4⟩ := insU_ok s (t.mod, t.name)
   rw [e0] at h1 h2 ⊢
   refine ⟨fun k => ?_, by rw [List.length_cons]; omega⟩
   rw [h1 k, h3 k]
   simp only [List.mem_cons,exists_eq_or_imp,e1,List.mem_singleton,List.not_mem_nil,or_false]
   constructor
   ·rintro (h | h | h)
    ·exact .inl (.inr h)
    ·exact .inl (.inl h)
    ·exact .inr h
   ·rintro ((h | h) | h)
    ·exact .inr (.inl h)
    ·exact .inl h
    ·exact .inr (.inr h)
  ·have e0 : stepU s t = s := by unfold stepU; rw [if_neg (by simpa using h9)]
   have e1 : usOf t = [] := if_neg h9
   rw [e0] at h1 h2 ⊢
   refine ⟨fun k => ?_, by rw [List.length_cons]; omega⟩
   rw [h1 k]
   simp only [List.mem_cons,exists_eq_or_imp,e1,List.not_mem_nil,false_or]
noncomputable def useMap (t : Ty) : { s // UGood s } := t.nodes.foldl stepU ⟨([], 0), UGood.nil⟩
def keyU (e : Value × Nat × V) : Us := match e.1 with
 | .agg cs => match cs.toList with
  | [.string a, .string b] => (a, b)
  | _ => (⟨#[]⟩, ⟨#[]⟩)
 | _ => (⟨#[]⟩, ⟨#[]⟩)
theorem keyU_of {e : Value × Nat × V} {x : Us} (h : e.1 = usV x) : keyU e = x := by unfold keyU; rw [h]; rfl
theorem UGood.nodup {s : List (Value × Nat × V) × Nat} (h : UGood s) : (s.1.map keyU).Nodup := by
 have e : s.1.map (fun e => e.1) = (s.1.map keyU).map usV := by
  rw [List.map_map]
  refine List.map_congr_left fun e he => ?_
  obtain ⟨⟨x, hx⟩, -⟩ := h.1 e he
  simp only [Function.comp,keyU_of hx,hx]
 have h3 := h.2.2
 rw [e] at h3
 exact (List.pairwise_map.1 h3).imp fun hne he => hne (by rw [he])
theorem useMap_mem (t : Ty) (x : Us) : x ∈ (useMap t).1.1.map keyU ↔ ∃ u ∈ t.nodes, x ∈ usOf u := by
 have h1 := (stepU_fold t.nodes ⟨([], 0), UGood.nil⟩).1 x
 have h2 : (∃ e ∈ (useMap t).1.1, e.1 = usV x) ↔ ∃ u ∈ t.nodes, x ∈ usOf u := by
  rw [useMap, h1]; simp
 rw [← h2, List.mem_map]
 constructor
 ·rintro ⟨e, he, rfl⟩
  obtain ⟨⟨y, hy⟩, -⟩ := (useMap t).2.1 e he
  exact ⟨e, he, by rw [keyU_of hy, hy]⟩
 ·rintro ⟨e, he, hx⟩
  exact ⟨e, he, keyU_of hx⟩
theorem useMap_length (t : Ty) : (useMap t).1.1.length ≤ t.size := by
 have := (stepU_fold t.nodes ⟨([], 0), UGood.nil⟩).2
 rw [Ty.nodes_length _ t (Nat.le_refl _)] at this
 simpa [useMap] using this
end Go.Proofs.YtpjdfcigadnhcaaGreatDoor
end

section
namespace Go.Proofs.YtpjdfcigadnhcaaGreatDoor
open Go.Eng
open Nat (reduceAdd reduceLT reduceLeDiff reduceMul reduceEqDiff reduceSub)
variable [Glob]
set_option maxHeartbeats 4000000
set_option maxRecDepth 100000
abbrev Ent := Value × Nat × V
theorem pull_out {l : List Ent} {e : Ent} (hn : (l.map fun e => e.2.1).Nodup) (he : e ∈ l) : l.Perm (e :: l.filter fun x => !(x.2.1 == e.2.1)) := by
 induction l with
 | nil => simp at he
 | cons a r ih =>
  simp only [List.map_cons,List.nodup_cons] at hn
  rcases List.mem_cons.1 he with rfl | he
  ·rw [List.filter_cons, if_neg (by simp)]
   have : r.filter (fun x => !(x.2.1 == e.2.1)) = r := List.filter_eq_self.2 fun x hx => by
    simp only [Bool.not_eq_true',beq_eq_false_iff_ne]
    exact fun h => hn.1 (List.mem_map.2 ⟨x, hx, h⟩)
   rw [this]
  ·have hne : ¬ a.2.1 = e.2.1 := fun h => hn.1 (List.mem_map.2 ⟨e, he, h.symm⟩)
   rw [List.filter_cons, if_pos (by simpa using hne)]
   exact ((ih hn.2 he).cons a).trans (List.Perm.swap ..)
theorem find_born {kvs : List Ent} {e : Ent} (hn : (kvs.map fun e => e.2.1).Nodup) (he : e ∈ kvs) : kvs.find? (fun x => x.2.1 == e.2.1) = some e := by
 induction kvs with
 | nil => simp at he
 | cons a r ih =>
  simp only [List.map_cons,List.nodup_cons] at hn
  rcases List.mem_cons.1 he with rfl | he
  ·simp
  ·have hne : ¬ a.2.1 = e.2.1 := fun h => hn.1 (List.mem_map.2 ⟨e, he, h.symm⟩)
   rw [List.find?_cons, show (a.2.1 == e.2.1) = false by simpa using hne]
   exact ih hn.2 he
theorem left_push (kvs : List Ent) (seen : List Nat) (b : Nat) : Go.Eng.leftOf kvs (seen ++ [b]) = (Go.Eng.leftOf kvs seen).filter fun x => !(x.2.1 == b) := by
 unfold Go.Eng.leftOf
 rw [List.filter_filter]
 congr 1
 funext x
 simp only [List.contains_eq_any_beq,List.any_append,List.any_cons,List.any_nil,Bool.or_false,Bool.not_or]
 rw [Bool.and_comm]
section
variable {σ : Type} {M : σ → List Blk} {n k kc kb : Nat} {kvs : List Ent} {clock : Nat}
theorem ukeys_it (hn : ∀ s, (M s).length = n) (hk : k < n) (hkc : kc < n) (hkb : kb < n) (h1 : ∀ s, (M s)[kc]? = some (.box [.mp kb])) (h2 : ∀ s, (M s)[kb]? = some (.map kvs clock)) (hb : ∀ s, (M s).all (belowB n) = true) (hg : UGood (kvs, clock))
  (step : σ → Us → σ) (G : Nat → σ → Prop) (hy : ∀ i s u, i < kvs.length → G i s → YOk Tryz.prog k [encU u] (M s) true (M (step s u)) ∧ G (i + 1) (step s u)) (s0 : σ) (h0 : G 0 s0) :
  FnOkR Tryz.prog 124 [.yld k, .ptr kc 0] (M s0) fun r m => r = .tup [] ∧ ∃ l : List Us, l.Perm (kvs.map keyU) ∧ m = M (l.foldl step s0) ∧ G kvs.length (l.foldl step s0) := by
 have g0 : ∀ s (l : List Blk), (M s ++ l)[n]? = l[0]? := fun s l => by rw [List.getElem?_append_right (by rw [hn]; exact Nat.le_refl _), hn, Nat.sub_self]
 have gk : ∀ s (l : List Blk), (M s ++ l)[kb]? = some (.map kvs clock) := fun s l => by rw [List.getElem?_append_left (by rw [hn]; exact hkb)]; exact h2 s
 have gs : ∀ s (l : List Blk) X, (M s ++ l).set n X = M s ++ l.set 0 X := fun s l X => by rw [List.set_append_right _ _ (by rw [hn]; omega), hn, Nat.sub_self]
 have g1 : ∀ s (l : List Blk), (M s ++ l)[n + 1]? = l[1]? := fun s l => by rw [List.getElem?_append_right (by rw [hn]; omega), hn, Nat.add_sub_cancel_left]
 have gs1 : ∀ s (l : List Blk) X, (M s ++ l).set (n + 1) X = M s ++ l.set 1 X := fun s l X => by rw [List.set_append_right _ _ (by rw [hn]; omega), hn, Nat.add_sub_cancel_left]
 have gt : ∀ s (l : List Blk), (M s ++ l).take n = M s := fun s l => by rw [← hn s, List.take_left]
 refine fnr_ok tt_ok (fn := Tryz.f124) Tryz.func124 rfl Tryz.call124 ?_
 rw [hn]
 simp only [ltb,startSt,Tryz.ntmps124,List.length_cons,List.length_nil,reduceAdd,reduceSub,List.replicate_succ,List.replicate_zero]
 refine tri_seq_region tt_ok fun K hK => ?_
 simp only [hn,h1,h2,map115,rangeBlk,go_sem,reduceIte,reduceAdd,reduceLT,reduceLeDiff,reduceMul,reduceEqDiff,reduceSub,reduceCtorEq]
 refine hK _ ?_
 have hcl : ∀ e ∈ kvs, e.2.1 < clock := fun e he => (hg.1 e he).2.2
 have hlast : ∀ seen : List Nat, stuckAt kvs seen clock = false := fun seen => by
  unfold stuckAt
  cases hk0 : kvs with
  | nil => simp
  | cons a r =>
   have : ¬ a.2.1 ≥ clock := by have := hcl a (by rw [hk0]; exact List.mem_cons_self ..); omega
   simp [this]
 have hold : ∀ seen : List Nat, oldOf kvs seen clock = Go.Eng.leftOf kvs seen := fun seen => by
  unfold oldOf
  refine List.filter_eq_self.2 fun e he => ?_
  have := hcl e (List.mem_filter.1 he).1
  simpa using this
 have hnew : ∀ seen : List Nat, newOf kvs seen clock = [] := fun seen => by
  unfold newOf
  refine List.filter_eq_nil_iff.2 fun e he => ?_
  have := hcl e (List.mem_filter.1 he).1
  simpa using this
 refine tri_block (tri_loop_inv (fun N st => ∃ (done : List Ent) (s : σ), N = (Go.Eng.leftOf kvs (done.map fun e => e.2.1)).length ∧ (done ++ Go.Eng.leftOf kvs (done.map fun e => e.2.1)).Perm kvs ∧ s = (done.map keyU).foldl step s0 ∧ G done.length s ∧
  st = { fr := [.yld k, .ptr kc 0, .undef, .undef, .undef, .ptr n 0] ++ List.replicate 8 .undef, mem := M s ++ [.miter kb clock (done.map fun e => e.2.1) clock] }) kvs.length ?_ ?_)
 ·have hl0 : Go.Eng.leftOf kvs [] = kvs := by unfold Go.Eng.leftOf; simp
  refine ⟨n + 1, [true,true,false,false,false,true], by omega, by simp [rp,maskFr, belowV]; omega, ?_, [], s0, by rw [List.map_nil, hl0], by rw [List.map_nil, hl0]; exact List.Perm.refl _, rfl, h0, ?_⟩
  ·dsimp only
   rw [List.take_of_length_le (by simp [hn]), List.all_append, Bool.and_eq_true]
   exact ⟨belowBs_mono (by omega) (hb s0), by simp [belowB]; omega⟩
  ·dsimp only
   rw [List.take_of_length_le (by simp [hn])]
   rfl
 ·rintro N st ⟨done, s, rfl, hperm, hs, hG, rfl⟩
  simp only [ltb,List.replicate_succ,List.replicate_zero]
  generalize hleft : Go.Eng.leftOf kvs (done.map fun e => e.2.1) = left at hperm
  have hnd : (left.map fun e => e.2.1).Nodup := by
   have := (hperm.map fun e => e.2.1).nodup_iff.2 hg.2.1
   rw [List.map_append, List.nodup_append] at this
   exact this.2.1
  refine tri_seq_region tt_ok fun K hK => ?_
  simp only [hn,g0,gk,gs,hlast,hold,hnew,hleft,nextQ,go_sem,reduceIte,reduceAdd,reduceLT,reduceLeDiff,reduceMul,reduceEqDiff,reduceSub,reduceCtorEq]
  simp only [overV,nextE,List.getElem?_cons_zero]
  refine ⟨fun hz => ?_, fun e he => ?_⟩
  ·subst hz
   rw [List.append_nil] at hperm
   refine hK _ ?_
   refine tri_seq (tri_cond rfl (tri_exit ?_))
   have hlen : done.length = kvs.length := hperm.length_eq
   refine ⟨.inr rfl, .tup [], n, Nat.le_refl _, rfl, rfl, ?_, rfl, done.map keyU, hperm.map _, ?_, ?_⟩
   ·dsimp only; rw [gt]; exact hb _
   ·dsimp only; rw [gt, hs]
   ·rw [← hs, ← hlen]; exact hG
  ·have hek : e ∈ kvs := (List.mem_filter.1 (hleft ▸ he : e ∈ Go.Eng.leftOf kvs (done.map fun e => e.2.1))).1
   obtain ⟨⟨u, hu⟩, -⟩ := hg.1 e hek
   have hku : keyU e = u := keyU_of hu
   have habs : absV e.1 = .agg [str u.1, str u.2] := by rw [hu]; rfl
   have hfind := find_born hg.2.1 hek
   have hcur : ∀ l, curV (M s ++ Blk.miter kb clock (done.map (fun e => e.2.1) ++ [e.2.1]) clock :: l) (.ptr n 0) = some (.tup [.agg [str u.1, str u.2], e.2.2]) := fun l => by
    simp only [curV,g0,List.getElem?_cons_zero,gk,if_true,List.getLast?_concat,hfind,habs]
   rw [habs]
   refine hK _ ?_
   refine tri_seq (tri_cond rfl (tri_skip ?_))
   refine tri_block ?_
   have hlt : done.length < kvs.length := by
    have := hperm.length_eq
    have h3 := List.length_pos_of_mem he
    rw [List.length_append] at this; omega
   obtain ⟨hyu, hG'⟩ := hy done.length s u hlt hG
   refine tri_seq_region tt_ok fun K hK => ?_
   simp only [hn,hcur,g1,gs1,List.length_append,List.append_assoc,go_sem,reduceIte,reduceAdd,reduceLT,reduceLeDiff,reduceMul,reduceEqDiff,reduceSub,reduceCtorEq]
   refine hK _ ?_
   have hyf := hyu.frame (by rw [hn]; exact hk) (by simp [encU, belowV, belowL]) (by rw [hn]; exact hb s) (by rw [hn, hn]) (by rw [hn]; exact hb _) [.miter kb clock (done.map (fun e => e.2.1) ++ [e.2.1]) clock, .box [str u.1, str u.2]]
   simp only [encU] at hyf
   refine tri_seq_region tt_ok fun K hK => ?_
   simp only [hn,g1,List.append_assoc,go_sem,reduceIte,reduceAdd,reduceLT,reduceLeDiff,reduceMul,reduceEqDiff,reduceSub,reduceCtorEq]
   refine .inl ⟨_, _, hyf, ?_⟩
   try simp only [go_sem,reduceIte,reduceAdd,reduceLT,reduceLeDiff,reduceMul,reduceEqDiff,reduceSub,reduceCtorEq]
   refine hK _ ?_
   refine tri_cond rfl (tri_skip ?_)
   have hsn : (done ++ [e]).map (fun e => e.2.1) = done.map (fun e => e.2.1) ++ [e.2.1] := by simp
   have hl2 : Go.Eng.leftOf kvs ((done ++ [e]).map fun e => e.2.1) = left.filter fun x => !(x.2.1 == e.2.1) := by rw [hsn, left_push, hleft]
   have hpo := pull_out hnd he
   refine ⟨_, ?_, n + 1, [true,true,false,false,false,true], by omega, by simp [rp,maskFr, belowV]; omega, ?_, done ++ [e], step s u, rfl, ?_, ?_, ?_, ?_⟩
   ·rw [hl2]
    have := hpo.length_eq
    rw [List.length_cons] at this
    exact Nat.lt_of_lt_of_eq (Nat.lt_succ_self _) this.symm
   ·dsimp only
    rw [show ∀ l : List Blk, (M (step s u) ++ l).take (n + 1) = M (step s u) ++ l.take 1 from fun l => by rw [List.take_append, hn, List.take_of_length_le (by rw [hn]; omega), Nat.add_sub_cancel_left]]
    rw [List.all_append, Bool.and_eq_true]
    exact ⟨belowBs_mono (by omega) (hb _), by simp [belowB]; omega⟩
   ·rw [hl2, List.append_assoc]
    exact ((List.Perm.append_left done hpo.symm)).trans hperm
   ·rw [hs, List.map_append, List.foldl_append, List.map_cons, List.map_nil, List.foldl_cons, List.foldl_nil, hku]
   ·rw [List.length_append]; exact hG'
   ·dsimp only
    rw [show ∀ l : List Blk, (M (step s u) ++ l).take (n + 1) = M (step s u) ++ l.take 1 from fun l => by rw [List.take_append, hn, List.take_of_length_le (by rw [hn]; omega), Nat.add_sub_cancel_left], hsn]
    rfl
end
section
variable {σ : Type}
theorem tri_ukeys {n0 : Nat} {st : St} {Q : Exit → St → Prop} {f : Operand} {params : Array Tmp} {assign body : Code} {kvs : List Ent} {clock : Nat} (pre : σ → List Blk) (s0 : σ) (n kc kb : Nat) (hmem : st.mem = pre s0) (hn : ∀ s, (pre s).length = n) (hkc : kc < n) (hkb : kb < n)
  (h1 : ∀ s, (pre s)[kc]? = some (.box [.mp kb])) (h2 : ∀ s, (pre s)[kb]? = some (.map kvs clock)) (hb : ∀ s, (pre s).all (belowB (n + 1)) = true) (hg : UGood (kvs, clock)) (hfr : st.fr.all (belowV (n + 1)) = true) (hf : st.eval f = .clo (.func 124) [] [.ptr kc 0]) (hp : params.size = 1)
  (step : σ → Us → σ) (G : Nat → σ → Prop)
  (hbody : ∀ i s u, i < kvs.length → G i s → G (i + 1) (step s u) ∧ ∀ (l : Nat) (LR LB : Blk), belowB (n + 1) LR = true → belowB (n + 1) LB = true → Tri Tryz.prog (some l) (n + 1) assign { fr := setPs params.toList [encU u] st.fr, mem := pre s ++ [LR] } fun ex st1 => ex = .normal ∧ st1.mem[n]? = some LR ∧
   Tri Tryz.prog (some l) (n + 1) body { st1 with mem := st1.mem.set n LB } fun ex st2 => jumpOf ex = some none ∧ st2.mem[n]? = some LB ∧ st2.mem.take n = pre (step s u))
  (h0 : G 0 s0) (hq : ∀ l : List Us, l.Perm (kvs.map keyU) → G kvs.length (l.foldl step s0) → Q .normal { st with mem := pre (l.foldl step s0) ++ [.dead] }) : Tri Tryz.prog none n0 (.rangeFunc f params assign body) st Q := by
 have hlen : st.mem.length = n := by rw [hmem, hn]
 have gn : ∀ s X, (pre s ++ [X])[n]? = some X := fun s X => by rw [List.getElem?_append_right (by rw [hn]; exact Nat.le_refl _), hn, Nat.sub_self]; rfl
 have gl : ∀ s X j, j < n → (pre s ++ [X])[j]? = (pre s)[j]? := fun s X j hj => List.getElem?_append_left (by rw [hn]; exact hj)
 have gset : ∀ s (X Y : Blk), (pre s ++ [X]).set n Y = pre s ++ [Y] := fun s X Y => by rw [List.set_append_right _ _ (by rw [hn]; exact Nat.le_refl _), hn, Nat.sub_self]; rfl
 have hball : ∀ (s : σ) (a : LoopState) (b : Option Code), (pre s ++ [Blk.loop a b st.fr params assign body]).all (belowB (n + 1)) = true := fun s a b => by
  rw [List.all_append, Bool.and_eq_true]
  exact ⟨hb s, by simp only [List.all_cons,List.all_nil,Bool.and_true,belowB]; exact hfr⟩
 have it := ukeys_it (M := fun s : σ => pre s ++ [.loop .ready none st.fr params assign body]) (n := n + 1) (k := n) (kc := kc) (kb := kb) (kvs := kvs) (clock := clock) (fun s => by simp [hn]) (by omega) (by omega) (by omega) (fun s => by rw [gl _ _ _ hkc]; exact h1 s) (fun s => by rw [gl _ _ _ hkb]; exact h2 s) (fun s => hball _ _ _) hg
  step G (fun i s u hi hG => by
   obtain ⟨hG', hbd⟩ := hbody i s u hi hG
   refine ⟨?_, hG'⟩
   refine yok_of_body (fr := st.fr) (params := params) (assign := assign) (body := body) (gn _ _) (by simp [hp]) fun l => ?_
   have hl : (pre s ++ [Blk.loop .ready none st.fr params assign body]).length = n + 1 := by simp [hn]
   simp only [hl]
   refine Tri.mono (hbd l (.loop .ready none st.fr params assign body) (.loop .busy none st.fr params assign body) hfr hfr) ?_
   rintro ex st1 ⟨h1, h2, h3⟩
   refine ⟨h1, h2, Tri.mono h3 ?_⟩
   rintro ex st2 ⟨h4, h5, h6⟩
   refine ⟨_, h4, rfl, h5, ?_, ?_⟩
   ·rw [take_set (hn _) h5 h6]; exact hball _ _ _
   ·rw [take_set (hn _) h5 h6]; rfl) s0 h0
 refine tri_rangeFuncR (g := 124) (vs := [.yld n, .ptr kc 0]) (by rw [hf, hlen]; rfl) (by rw [hmem]; exact it) ?_
 rintro r mem2 ⟨-, l, hl, rfl, hG⟩
 rw [hlen]
 refine ⟨.ready, none, _, _, _, _, gn _ _, by simp, ?_⟩
 dsimp only
 rw [gset]
 exact hq l hl hG
end
theorem foldl_push (l : List Us) : ∀ a : List Us, l.foldl (fun acc u => acc ++ [u]) a = a ++ l := by
 induction l with
 | nil => simp
 | cons u r ih => intro a; rw [List.foldl_cons, ih]; simp
theorem useq_ok (m : List Blk) (kc kb : Nat) {kvs : List Ent} {clock : Nat} (hkc : m[kc]? = some (.box [.mp kb])) (hkb : m[kb]? = some (.map kvs clock)) (hg : UGood (kvs, clock)) (hlen : kvs.length ≤ 1048576) (hb : m.all (belowB m.length) = true) :
  FnOkR Tryz.prog 171 [.sc (.slice none 0 0), .clo (.func 124) [] [.ptr kc 0]] m fun r m' => ∃ l : List Us, l.Perm (kvs.map keyU) ∧ r = .ms (m.length + 1) l.length 0 l.length ∧ m' = m ++ [.box [.ms (m.length + 1) l.length 0 l.length], .rows l.length 2 (l.map encU)] := by
 have hlc : kc < m.length := (List.getElem?_eq_some_iff.1 hkc).1
 have hlb : kb < m.length := (List.getElem?_eq_some_iff.1 hkb).1
 have a0 : ∀ l : List Blk, (m ++ l)[m.length]? = l[0]? := fun l => by rw [List.getElem?_append_right (Nat.le_refl _), Nat.sub_self]
 have a1 : ∀ l : List Blk, (m ++ l)[m.length + 1]? = l[1]? := fun l => by rw [List.getElem?_append_right (by omega), Nat.add_sub_cancel_left]
 have a2 : ∀ l : List Blk, (m ++ l)[m.length + 2]? = l[2]? := fun l => by rw [List.getElem?_append_right (by omega), Nat.add_sub_cancel_left]
 have a3 : ∀ l : List Blk, (m ++ l)[m.length + 3]? = l[3]? := fun l => by rw [List.getElem?_append_right (by omega), Nat.add_sub_cancel_left]
 have a4 : ∀ l : List Blk, (m ++ l)[m.length + 4]? = l[4]? := fun l => by rw [List.getElem?_append_right (by omega), Nat.add_sub_cancel_left]
 have s0 : ∀ (l : List Blk) X, (m ++ l).set m.length X = m ++ l.set 0 X := fun l X => by rw [List.set_append_right _ _ (Nat.le_refl _), Nat.sub_self]
 have s1 : ∀ (l : List Blk) X, (m ++ l).set (m.length + 1) X = m ++ l.set 1 X := fun l X => by rw [List.set_append_right _ _ (by omega), Nat.add_sub_cancel_left]
 have s2 : ∀ (l : List Blk) X, (m ++ l).set (m.length + 2) X = m ++ l.set 2 X := fun l X => by rw [List.set_append_right _ _ (by omega), Nat.add_sub_cancel_left]
 have s3 : ∀ (l : List Blk) X, (m ++ l).set (m.length + 3) X = m ++ l.set 3 X := fun l X => by rw [List.set_append_right _ _ (by omega), Nat.add_sub_cancel_left]
 refine fnr_ok tt_ok (fn := Tryz.f171) Tryz.func171 rfl Tryz.call171 ?_
 simp only [ltb,startSt,Tryz.ntmps171,List.length_cons,List.length_nil,reduceAdd,reduceSub,List.replicate_succ,List.replicate_zero]
 refine tri_seq_region tt_ok fun K hK => ?_
 simp only [go_sem,reduceIte,reduceAdd,reduceLT,reduceLeDiff,reduceMul,reduceEqDiff,reduceSub,reduceCtorEq]
 refine hK _ ?_
 refine tri_seq ?_
 refine tri_seq_region tt_ok fun K hK => ?_
 simp only [go_sem,reduceIte,reduceAdd,reduceLT,reduceLeDiff,reduceMul,reduceEqDiff,reduceSub,reduceCtorEq]
 refine hK _ ?_
 refine tri_nilBox m.length 0 0 2 (by dsimp only; rw [a0]; rfl) rfl ?_
 dsimp only
 simp only [ltb,s0,List.set_cons_zero,List.append_assoc,List.length_append,List.length_cons,List.length_nil,Nat.zero_add,reduceAdd]
 refine tri_block (tri_ukeys (fun l : List Us => m ++ [.box [.ms (m.length + 1) l.length 0 l.length], .rows l.length 2 (l.map encU)]) [] (m.length + 2) kc kb rfl (fun l => by simp) (by omega) (by omega) (fun l => by rw [List.getElem?_append_left hlc]; exact hkc) (fun l => by rw [List.getElem?_append_left hlb]; exact hkb) (fun l => ?_) hg ?_ rfl rfl (fun l u => l ++ [u]) (fun i l => l.length = i) ?_ rfl ?_)
 ·rw [List.all_append, Bool.and_eq_true]
  exact ⟨belowBs_mono (by omega) hb, by simp [belowB, belowV] <;> omega⟩
 ·simp [belowV, belowL] <;> omega
 ·intro i acc u hi hG
  refine ⟨by simp [hG], fun l LR LB hLR hLB => ?_⟩
  have hacc : acc.length + 1 ≤ 34359738368 := by omega
  have hf2 : firstOk [V.agg [V.sc (.string u.1), V.sc (.string u.2)]] 0 2 = true := rfl
  simp only [setPs,List.set_cons_succ,List.set_cons_zero,encU]
  refine tri_last_region tt_ok fun K hK => ?_
  simp only [a3,s3,List.length_append,List.append_assoc,go_sem,reduceIte,reduceAdd,reduceLT,reduceLeDiff,reduceMul,reduceEqDiff,reduceSub,reduceCtorEq]
  refine hK _ ?_
  refine ⟨rfl, by dsimp only; rw [a2]; rfl, tri_block ?_⟩
  simp only [s2,List.set_cons_succ,List.set_cons_zero]
  have hml : (acc.map encU).length = acc.length := List.length_map ..
  refine tri_last_region tt_ok fun K hK => ?_
  simp only [a0,a1,a3,a4,s0,s1,hf2,hml,hacc,List.length_append,List.append_assoc,go_sem,reduceIte,reduceAdd,reduceLT,reduceLeDiff,reduceMul,reduceEqDiff,reduceSub,reduceCtorEq]
  refine hK _ ?_
  refine ⟨rfl, by dsimp only; rw [a2]; rfl, ?_⟩
  dsimp only
  rw [List.take_append, List.take_of_length_le (by omega), Nat.add_sub_cancel_left]
  simp [encU]
 ·intro l hl hG
  rw [foldl_push, List.nil_append] at hG ⊢
  show Tri _ _ _ _ _ _
  refine tri_seq_region tt_ok fun K hK => ?_
  simp only [a0,List.append_assoc,go_sem,reduceIte,reduceAdd,reduceLT,reduceLeDiff,reduceMul,reduceEqDiff,reduceSub,reduceCtorEq]
  refine hK _ ?_
  have ht : ∀ l : List Blk, (m ++ l).take (m.length + 2) = m ++ l.take 2 := fun l => by rw [List.take_append, List.take_of_length_le (by omega), Nat.add_sub_cancel_left]
  refine tri_ret ⟨.inl rfl, .ms (m.length + 1) l.length 0 l.length, m.length + 2, by omega, rfl, by simp [belowV], ?_, l, hl, rfl, ?_⟩
  ·dsimp only
   rw [ht, List.all_append, Bool.and_eq_true]
   exact ⟨belowBs_mono (by omega) hb, by simp [belowB, belowV]⟩
  ·dsimp only
   rw [ht]; rfl
end Go.Proofs.YtpjdfcigadnhcaaGreatDoor
end
