/-
  CONTRACTS: CheckExpr of the program.
  CONTRACTS: a declaration behind others.
  CONTRACTS: EqualTypes of the program.
  CONTRACTS: the reference's EqualTypeLists and EqualTypes.
  CONTRACTS: transparent, in both halves; the sizes of declarations and modules.
  CONTRACTS: ModuleSize: the program's.
  CONTRACTS: modules.
  CONTRACTS: slices.EqualFunc on expressions, labels, parameters and declarations.
  CONTRACTS: the comparisons of labels, parameters, expressions.
  CONTRACTS: the EqualExprs of the reference.
  CONTRACTS: ModuleSize: the reference's.
  CONTRACTS: fewTypes.
  CONTRACTS: fewTypes and the law SyntaxSizes itself.
  CONTRACTS: equality of expressions by size; parameters and declarations.
  CONTRACTS: declarations of the program, imports, modules.
  THE LAW SyntaxEquality itself.
  THE LAW SyntaxEquality, A: what it does at every argument of the bound, in every world of the shape.
  CLOSING, B: a world for the witness.
-/
import Derived.Test.YtpjdfcigadnhcaaGreatDoorQ5
import Derived.Test.YtpjdfcigadnhcaaGreatDoorCards
import Derived.Test.YtpjdfcigadnhcaaGreatDoorTie
import Derived.Lib.LaidTab
set_option linter.all false
section
namespace Go.Proofs.YtpjdfcigadnhcaaGreatDoor
open Go.Eng
open Nat (reduceAdd reduceLT reduceLeDiff reduceMul reduceEqDiff reduceSub)
variable [Glob]
set_option maxHeartbeats 4000000
set_option maxRecDepth 100000
def holes7 : List Blk := [.hole, .hole, .map fmAll 17, .hole, .hole, .hole, .hole]
theorem exprNode_n (hG : Glob.g = some 0) (x : Ex) (hw : x.wt ≤ 1048576) : ∃ n : Int, FnOkS Tryz.prog 59 [encEx x, .mp 2] holes7 (num n) holes7 := by
 obtain ⟨_, ⟨n, rfl⟩, h⟩ := exprNode_tot hG .hole .hole .hole .hole .hole .hole fmAll 17 (fun n _ => ⟨rfl, rfl, rfl, rfl, rfl, rfl⟩) fmAll_ok x hw
 exact ⟨n, h⟩
open Classical in
noncomputable def enOf (hG : Glob.g = some 0) (x : Ex) : Int := if h : x.wt ≤ 1048576 then Classical.choose (exprNode_n hG x h) else 0
theorem enOf_ok (hG : Glob.g = some 0) (x : Ex) (hw : x.wt ≤ 1048576) : FnOkS Tryz.prog 59 [encEx x, .mp 2] holes7 (num (enOf hG x)) holes7 := by
 unfold enOf
 rw [dif_pos hw]
 exact Classical.choose_spec (exprNode_n hG x hw)
theorem exprNode_ok (hG : Glob.g = some 0) (b0 b1 b3 b4 b5 b6 : Blk) (hb : ∀ n, 7 ≤ n → belowB n b0 = true ∧ belowB n b1 = true ∧ belowB n b3 = true ∧ belowB n b4 = true ∧ belowB n b5 = true ∧ belowB n b6 = true) (x : Ex) (hw : x.wt ≤ 1048576) :
  FnOkS Tryz.prog 59 [encEx x, .mp 2] [b0, b1, .map fmAll 17, b3, b4, b5, b6] (num (enOf hG x)) [b0, b1, .map fmAll 17, b3, b4, b5, b6] := by
 obtain ⟨_, ⟨n, rfl⟩, h⟩ := exprNode_tot hG b0 b1 b3 b4 b5 b6 fmAll 17 hb fmAll_ok x hw
 refine FnOkS.agree (by kernel_rfl) h (enOf_ok hG x hw) fun E w xs hs hx => ⟨E.only 2, hs.only (k := 2) (kvs := fmAll) (cl := 17) rfl (fun e he => List.all_eq_true.1 (fmAll_ok.below 0) e he) rfl (fun j B hj hB => ?_), hx.only fun v hv => ?_⟩
 ·rcases j with _ | _ | _ | _ | _ | _ | _ | j
  ·cases hB; rfl
  ·cases hB; rfl
  ·exact absurd rfl hj
  ·cases hB; rfl
  ·cases hB; rfl
  ·cases hB; rfl
  ·cases hB; rfl
  ·simp [holes7] at hB
 ·simp only [List.mem_cons,List.not_mem_nil,or_false] at hv
  rcases hv with rfl | rfl
  ·left; rw [encEx_eq]; rfl
  ·right; rfl
noncomputable def firstX {α : Type} (f : α → Int) : List α → Int
 | [] => 0
 | u :: r => if decide (f u = 0) = true then firstX f r else f u
theorem stepJ_firstX {α : Type} (f : α → Int) (c : Code) : ∀ (l : List α) (s : Int), stepJ (fun (s : Int) u => if decide (f u = 0) = true then (s, none) else (f u, some c)) s l = if decide (firstX f l = 0) = true then (s, none) else (firstX f l, some c)
 | [], s => by simp [stepJ, firstX]
 | u :: r, s => by
  by_cases h : f u = 0
  ·simp only [stepJ,firstX,h,decide_true,if_true]
   exact stepJ_firstX f c r s
  ·have hd : decide (f u = 0) = false := decide_eq_false h
   simp [stepJ, firstX, h]
noncomputable def ceRes (hG : Glob.g = some 0) (e : Ex) : Int := if decide (4096 < (e.size : Int)) || decide (32 < (e.depth : Int)) then 7 else firstX (enOf hG) e.nodes
theorem checkExpr_ok (hG : Glob.g = some 0) (e : Ex) (he : e.wt ≤ 1048576) : FnOk Tryz.prog 22 [encEx e] (num (ceRes hG e)) := by
 have hbw := e.bulk_le_wt
 have h18 := sesize_ok e (by omega)
 have h57 := exDepth_ok e.bulk e (Nat.le_refl _) (by omega)
 have h53 := fun B0 B1 B2 B3 h => exprs_ok e [B0, B1, B2, B3] h
 have hP : ∀ v ∈ e.nodes, v.wt ≤ 1048576 := fun v hv => by have := Ex.wt_nodes hv; omega
 refine fn_ok tt_ok (fn := Tryz.f22) Tryz.func22 rfl Tryz.call22 ?_
 simp only [ltb,startSt,Tryz.ntmps22,List.length_cons,List.length_nil,reduceAdd,reduceSub,List.replicate_succ,List.replicate_zero]
 rw [encEx_eq] at h18 h57 h53 ⊢
 simp only [exCells] at h18 h57 h53 ⊢
 refine tri_seq_region tt_ok fun K hK => ?_
 simp only [go_sem]
 refine hK _ ?_
 refine tri_seq ?_
 have res : ceRes hG e = if decide (4096 < (e.size : Int)) || decide (32 < (e.depth : Int)) then 7 else firstX (enOf hG) e.nodes := rfl
 cases c1 : decide (4096 < (e.size : Int)) with
 | true =>
  rw [c1] at res
  refine tri_seq_region tt_ok fun K hK => ?_
  simp only [go_sem,reduceAdd]
  refine .inl ⟨_, _, by simp only [go_sem], h18, ?_⟩
  try simp only [c1,go_sem]
  refine hK _ ?_
  refine tri_cond rfl ?_
  refine tri_seq_region tt_ok fun K hK => ?_
  simp only [go_sem]
  refine hK _ ?_
  refine tri_ret ⟨.inl rfl, ?_⟩
  rw [res]; rfl
 | false =>
  rw [c1] at res
  cases c2 : decide (32 < (e.depth : Int)) with
  | true =>
   rw [c2] at res
   refine tri_seq_region tt_ok fun K hK => ?_
   simp only [go_sem,reduceAdd]
   refine .inl ⟨_, _, by simp only [go_sem], h18, ?_⟩
   try simp only [c1,go_sem,reduceAdd]
   refine .inl ⟨_, _, by simp only [go_sem], h57, ?_⟩
   try simp only [c2,go_sem]
   refine hK _ ?_
   refine tri_cond rfl ?_
   refine tri_seq_region tt_ok fun K hK => ?_
   simp only [go_sem]
   refine hK _ ?_
   refine tri_ret ⟨.inl rfl, ?_⟩
   rw [res]; rfl
  | false =>
   rw [c2] at res
   refine tri_seq_region tt_ok fun K hK => ?_
   simp only [go_sem,reduceAdd]
   refine .inl ⟨_, _, by simp only [go_sem], h18, ?_⟩
   try simp only [c1,go_sem,reduceAdd]
   refine .inl ⟨_, _, by simp only [go_sem], h57, ?_⟩
   try simp only [c2,go_sem]
   refine hK _ ?_
   refine tri_cond rfl (tri_skip ?_)
   show Tri _ _ _ _ _ _
   refine tri_seq_region tt_ok fun K hK => ?_
   simp only [go_sem]
   refine .inr <| .inl ⟨_, _, forms_ok _ _ (fun n hn => ⟨rfl, rfl⟩), ?_⟩
   try simp only [go_sem,reduceAdd]
   refine hK _ ?_
   refine tri_seq ?_
   refine tri_seq_region tt_ok fun K hK => ?_
   simp only [go_sem,reduceAdd]
   refine .inr <| .inl ⟨_, _, h53 _ _ _ _ rfl, ?_⟩
   try simp only [go_sem,reduceAdd]
   refine hK _ ?_
   refine tri_block (triP_exprs (t := e) (B := 1048576) (fun s : Int => [.box (exCells e), .box [num s], .map fmAll 17, .box [.mp 2], .box (exCells e)]) 0 5 4 rfl (fun _ => rfl) (by omega) (fun _ => rfl) (fun _ => rfl) rfl rfl rfl (fun s u => if decide (enOf hG u = 0) = true then (s, none) else (enOf hG u, some .ret)) (by omega) (by omega) (fun v => v.wt ≤ 1048576) hP ?_ ?_)
   ·intro s u hu hm l LR LB hLR hLB
    have hn := exprNode_ok hG (.box (exCells e)) (.box [num s]) (.box [.mp 2]) (.box (exCells e)) LB (.box (exCells u)) (fun n hn => ⟨rfl, rfl, by simp only [belowB,List.all_cons,List.all_nil,belowV,Bool.and_true,decide_eq_true_eq]; omega, rfl, belowB_mono (by omega) hLB, rfl⟩) u hm
    rw [encEx_eq] at hn ⊢
    simp only [exCells] at hn
    simp only [ltb,setPs,exCells,List.set_cons_succ,List.set_cons_zero]
    refine tri_last_region tt_ok fun K hK => ?_
    simp only [go_sem,reduceAdd]
    refine hK _ ?_
    refine ⟨rfl, rfl, tri_block ?_⟩
    simp only [List.set_cons_succ,List.set_cons_zero]
    refine tri_seq_region tt_ok fun K hK => ?_
    simp only [go_sem,reduceAdd]
    refine .inr <| .inl ⟨_, _, hn, ?_⟩
    try simp only [go_sem]
    refine hK _ ?_
    refine tri_seq ?_
    cases c3 : decide (enOf hG u = 0) with
    | true =>
     refine tri_last_region tt_ok fun K hK => ?_
     simp only [c3,go_sem]
     refine hK _ ?_
     refine tri_cond rfl (tri_skip ?_)
     exact ⟨rfl, rfl, rfl⟩
    | false =>
     refine tri_last_region tt_ok fun K hK => ?_
     simp only [c3,go_sem]
     refine hK _ ?_
     refine tri_cond rfl ?_
     refine tri_seq_region tt_ok fun K hK => ?_
     simp only [go_sem]
     refine hK _ ?_
     exact tri_ret ⟨rfl, rfl, rfl⟩
   ·rw [stepJ_firstX]
    simp only [Bool.or_self,Bool.false_eq_true,if_false] at res
    rw [res]
    cases c4 : decide (firstX (enOf hG) e.nodes = 0) with
    | true =>
     have e0 : firstX (enOf hG) e.nodes = 0 := of_decide_eq_true c4
     simp only [if_true]
     show Tri _ _ _ _ _ _
     refine tri_seq_region tt_ok fun K hK => ?_
     simp only [go_sem]
     refine hK _ ?_
     refine tri_ret ⟨.inl rfl, ?_⟩
     rw [e0]; rfl
    | false =>
     simp only [Bool.false_eq_true,if_false]
     exact tri_ret ⟨.inl rfl, rfl⟩
end Go.Proofs.YtpjdfcigadnhcaaGreatDoor
end

section
namespace Go.Proofs.YtpjdfcigadnhcaaGreatDoor
open Go.Eng
open Nat (reduceAdd reduceLT reduceLeDiff reduceMul reduceEqDiff reduceSub)
variable [Glob]
set_option maxHeartbeats 4000000
set_option maxRecDepth 100000
attribute [local irreducible] runM stepM valD stepOp stepD callF callS
def StrMap (kvs : List (Value × Nat × V)) : Prop := ∀ e ∈ kvs, isStrK e.1 ∧ ∃ b : Bool, e.2.2 = bl b
theorem StrMap.below {kvs : List (Value × Nat × V)} (h : StrMap kvs) (n : Nat) : (kvs.all fun e => belowV n e.2.2) = true := List.all_eq_true.2 fun e he => by
 obtain ⟨-, b, e1⟩ := h e he
 rw [e1]; rfl
theorem StrMap.nil : StrMap [] := fun e he => by cases he
theorem key96 : ∃ et, KeyT Tryz.prog 96 9 et isStrK := ⟨4, keyT_str (by kernel_rfl) (by kernel_rfl)⟩
theorem StrMap.ins {kvs : List (Value × Nat × V)} (h : StrMap kvs) (cl : Nat) (s : ByteArray) : ∃ kvs' cl', StrMap kvs' ∧ ∀ (mem : List Blk) (b : Nat), mem[b]? = some (.map kvs cl) → insertV Tryz.prog mem 96 (.mp b) (str s) (bl true) = some (mem.set b (.map kvs' cl')) := by
 obtain ⟨et, hK⟩ := key96
 rcases insert_at (cl := cl) hK (k := .string s) ⟨s, rfl⟩ (fun e he => (h e he).1) (bl true) with ⟨h1, -⟩ | ⟨i, e, -, -, h1⟩
 ·refine ⟨_, _, fun e he => ?_, fun mem b hm => insertV_at hK ⟨s, rfl⟩ rfl h1 hm⟩
  rcases List.mem_append.1 he with he | he
  ·exact h e he
  ·rw [List.mem_singleton] at he; subst he
   exact ⟨⟨s, rfl⟩, true, rfl⟩
 ·refine ⟨_, _, fun e' he => ?_, fun mem b hm => insertV_at hK ⟨s, rfl⟩ rfl h1 hm⟩
  rcases List.mem_or_eq_of_mem_set he with he | rfl
  ·exact h e' he
  ·exact ⟨⟨s, rfl⟩, true, rfl⟩
theorem lenM96 (B0 : Blk) (kvs : List (Value × Nat × V)) (cl : Nat) : lenM [B0, .map kvs cl] #[96] Tryz.prog [.mp 1] = some (num kvs.length) := by
 unfold lenM
 simp only [List.getElem?_cons_succ,List.getElem?_cons_zero]
 have h : mapDesc Tryz.prog 96 = some (9, 4) := by kernel_rfl
 simp [h]
theorem Dc.expr_lens (d : Dc) : d.expr.types.length < d.wt ∧ d.expr.labels.length < d.wt ∧ d.expr.kids.length < d.wt := by
 have h1 := d.expr.own_len
 have h2 := d.expr.kids_length
 have h3 := d.expr.bulk_le_wt
 have h4 : d.wt = 1 + d.name.size + d.note.size + sumBy Pm.wt d.params + d.lower.wt + d.upper.wt + d.type.wt + d.expr.wt + d.mod.size + d.target.size := rfl
 omega
theorem decl_tot (hG : Glob.g = some 0) (d : Dc) (bs : List Dc) (hw : d.wt ≤ 1048576) (hbl : bs.length ≤ 1048576) : ∃ r, isN r ∧ FnOk Tryz.prog 77 [encDc d, .slice (bs.map encDc)] r := by
 refine fn_ex tt_ok (fn := Tryz.f77) Tryz.func77 rfl Tryz.call77 ?_
 simp only [ltb,startSt,Tryz.ntmps77,List.length_cons,List.length_nil,reduceAdd,reduceSub,List.replicate_succ,List.replicate_zero]
 have hwd : d.wt = 1 + d.name.size + d.note.size + sumBy Pm.wt d.params + d.lower.wt + d.upper.wt + d.type.wt + d.expr.wt + d.mod.size + d.target.size := rfl
 obtain ⟨h1, h2, h3⟩ := d.expr_lens
 have hp : d.params.length ≤ 1048576 := by have := length_le_sum Pm.wt (fun l => by unfold Pm.wt; omega) d.params; omega
 simp only [ltb,encDc,tyCells,exCells]
 have hT9 : Tryz.prog.underlying 9 = some .string := by kernel_rfl
 have sl : ∀ (a : ByteArray) (ty : TypeId), liftL Tryz.prog (Builtin.len_ #[9] ty) [.sc (.string a)] = some (num a.size) := fun a ty => ev_slen (P := Tryz.prog) (tt := tt) (T := 9) a hT9 ty
 refine ex_region_w tt_ok 90 [0,0,2,0,2] [] rfl rfl fun K hK => ?_
 simp only [ltb,go_sem,reduceLT]
 refine hK _ _ rfl ?_
 simp only [mwb,reduceAdd,reduceEqDiff]
 refine ex_seq ?_
 refine ex_block ?_
 refine ex_region_w tt_ok 90 (rp 14 0 [2,1,1,1]) [] rfl rfl fun K hK => ?_
 refine runX_cut 2 fun K1 hK1 => ?_
 simp only [ltb,go_sem,reduceAdd,reduceLT]
 refine callF_ex (by have h := declared_tot d hp (by omega) (by omega) (by omega); simp only [ltb,encDc,tyCells,exCells] at h; exact h) ?_
 rintro _ ⟨r1, rfl⟩
 try simp only [go_sem]
 refine hK1 _ ?_
 simp only [ltb,go_sem,reduceLT,reduceEqDiff]
 refine hK _ _ rfl ?_
 simp only [mwb,reduceAdd,reduceEqDiff]
 refine ex_if rfl (fun hc14 => ?_) (fun hc14 => ?_)
 ·refine ex_region_w tt_ok 90 [0,0,0,0,2] [] rfl rfl fun K hK => ?_
  simp only [ltb,go_sem]
  refine hK _ _ rfl ?_
  simp only [mwb,reduceAdd]
  exact ex_ret ⟨.inl rfl, _, ⟨_, rfl⟩, rfl⟩
 ·refine ex_region_w tt_ok 90 (rp 18 0 (2::(rp 10 1 []))) [(4, 23)] rfl rfl fun K hK => ?_
  refine runX_cut 5 fun K1 hK1 => ?_
  simp only [ltb]
  simp only [List.length_map,go_sem,reduceAdd,reduceLT,reduceLeDiff,reduceEqDiff]
  refine hK1 _ ?_
  refine runX_case 23 (by rfl) fun b hb3_4 => ?_
  cases b
  ·try simp only [ltb]
   simp only [sl,go_sem,reduceAdd,reduceLT,reduceLeDiff,reduceEqDiff]
   refine hK _ _ rfl ?_
   simp only [mwb,reduceAdd,reduceEqDiff]
   refine ex_if rfl (fun hc18 => ?_) (fun hc18 => ?_)
   ·refine ex_region_w tt_ok 90 [0,0,0,0,2] [] rfl rfl fun K hK => ?_
    simp only [ltb,go_sem]
    refine hK _ _ rfl ?_
    simp only [mwb,reduceAdd]
    exact ex_ret ⟨.inl rfl, _, ⟨_, rfl⟩, rfl⟩
   ·refine ex_region_w tt_ok 90 (rp 29 0 [2,1,1,1]) [] rfl rfl fun K hK => ?_
    refine runX_cut 2 fun K1 hK1 => ?_
    simp only [ltb,go_sem,reduceAdd,reduceLT]
    refine callF_ex (by have h := titled_tot hG d hp (by omega); simp only [ltb,encDc,tyCells,exCells] at h; exact h) ?_
    rintro _ ⟨r2, rfl⟩
    try simp only [go_sem]
    refine hK1 _ ?_
    simp only [ltb,go_sem,reduceLT,reduceEqDiff]
    refine hK _ _ rfl ?_
    simp only [mwb,reduceAdd,reduceEqDiff]
    refine ex_if rfl (fun hc29 => ?_) (fun hc29 => ?_)
    ·refine ex_region_w tt_ok 90 [0,0,0,0,2] [] rfl rfl fun K hK => ?_
     simp only [ltb,go_sem]
     refine hK _ _ rfl ?_
     simp only [mwb,reduceAdd]
     exact ex_ret ⟨.inl rfl, _, ⟨_, rfl⟩, rfl⟩
    ·refine ex_region_w tt_ok 90 (rp 33 0 [2,1,1,1]) [] rfl rfl fun K hK => ?_
     refine runX_cut 3 fun K1 hK1 => ?_
     simp only [ltb,go_sem,reduceLT,reduceEqDiff]
     refine callS_ex (containsDc_tot _ (by simp only [List.all_cons,List.all_nil,bB_box,belowV,List.length_cons,List.length_nil,reduceAdd,Bool.and_self]) 117 0 (by simp only [List.length_cons,List.length_nil]; decide) bs (fun x => dc1_tot d x) hbl) ?_
     rintro _ ⟨r3, rfl⟩
     try simp only [go_sem]
     refine hK1 _ ?_
     simp only [ltb,go_sem,reduceLT,reduceEqDiff]
     refine hK _ _ rfl ?_
     simp only [mwb,reduceAdd,reduceEqDiff]
     refine ex_if rfl (fun hc33 => ?_) (fun hc33 => ?_)
     ·refine ex_region_w tt_ok 90 [0,0,0,0,2] [] rfl rfl fun K hK => ?_
      simp only [ltb,go_sem]
      refine hK _ _ rfl ?_
      simp only [mwb,reduceAdd]
      exact ex_ret ⟨.inl rfl, _, ⟨_, rfl⟩, rfl⟩
     ·refine ex_skip ?_
      show Go.Eng.Ex _ _ _ _ _ _
      refine ex_region_w tt_ok 90 (0::0::0::0::0::2::(rp 31 0 [1])) [] rfl rfl fun K hK => ?_
      simp only [ltb,go_sem,reduceAdd,reduceLT]
      refine hK _ _ rfl ?_
      simp only [mwb,reduceAdd,reduceEqDiff]
      refine ex_seq ?_
      refine ex_region_w tt_ok 90 (rp 38 0 [1,2,2,2]) [] rfl rfl fun K hK => ?_
      try simp only [ltb]
      simp only [List.length_map,go_sem,reduceAdd,reduceLT,reduceLeDiff,reduceEqDiff]
      refine hK _ _ rfl ?_
      simp only [mwb,reduceAdd,reduceEqDiff]
      refine ex_block ?_
      refine ex_loopF (fun a : Nat × List (Value × Nat × V) × Nat => { fr := [.undef, .undef, .ptr 0 0, .undef, num 0, .mp 1, .undef, .undef, .undef, .undef, .undef, .undef, .undef, .undef, .undef, .undef, .undef, .undef, .undef, .undef, .undef, .undef, .undef, .undef, .undef, .undef, .undef, .undef, .undef, .undef, .undef, .undef, .undef, .undef, .undef, .undef, .undef, .undef, .undef, .slice (d.params.map encPm), num d.params.length, num a.1, .undef, .undef, .undef, .undef, .undef, .undef, .undef, .undef, .undef, .undef, .undef, .undef, .undef, .undef, .undef, .undef, .undef, .undef, .undef, .undef, .undef, .undef, .undef, .undef, .undef, .undef, .undef, .undef, .undef, .undef, .undef, .undef, .undef, .undef, .undef, .undef, .undef, .undef, .undef, .undef, .undef, .undef, .undef, .undef, .undef, .undef, .undef, .undef], mem := [.box [num d.kind, str d.name, bl d.exported, bl d.deprecated, str d.note, .slice (d.params.map encPm), num d.lower.kind, str d.lower.mod, str d.lower.name, .slice (encTys d.lower.args), .slice (encFds d.lower.flds), num d.upper.kind, str d.upper.mod, str d.upper.name, .slice (encTys d.upper.args), .slice (encFds d.upper.flds), num d.type.kind, str d.type.mod, str d.type.name, .slice (encTys d.type.args), .slice (encFds d.type.flds), num d.expr.kind, str d.expr.mod, str d.expr.name, str d.expr.text, num d.expr.num, .slice (encTys d.expr.types), .slice (d.expr.labels.map encLb), .slice (encExs d.expr.kids), str d.mod, str d.target], .map a.2.1 a.2.2] }) (fun a => d.params.length - a.1) (fun a => a.1 ≤ d.params.length ∧ StrMap a.2.1) ((0, [], 0)) 2 (false::false::true::false::true::true::(rp 33 false [true,true,true])) (by omega) (by simp only [maskFr,belowV,reduceLT,mkb]) (by simp only [List.all_cons,List.all_nil,belowV,belowB,Bool.and_self,List.take_succ_cons,List.take_nil]) (by simp only [maskFr,mkb]; rfl) (⟨Nat.zero_le _, StrMap.nil⟩) ?_
      rintro ⟨i, kvs, cl⟩ ⟨hi, hsm⟩
      dsimp only at hi hsm
      dsimp only
      refine ex_region_w tt_ok 90 (rp 42 0 [2]) [] rfl rfl fun K hK => ?_
      simp only [ltb,go_sem,reduceAdd,reduceLT]
      refine hK _ _ rfl ?_
      simp only [mwb,reduceAdd]
      refine ex_seq ?_
      refine ex_if rfl (fun hc42 => ?_) (fun hc42 => ?_)
      ·have hlt : i < d.params.length := by simpa using hc42
       obtain ⟨p, hx⟩ : ∃ p, d.params[i]? = some p := ⟨_, List.getElem?_eq_getElem hlt⟩
       obtain ⟨kvs', cl', hsm', hi'⟩ := hsm.ins cl p.name
       have hins := fun B0 B2 => hi' [B0, .map kvs cl, B2] 1 rfl
       have hw1 := i64_succ i (by omega)
       have hsmb := hsm'.below 2
       refine ex_skip ?_
       show Go.Eng.Ex _ _ _ _ _ _
       refine ex_seq ?_
       refine ex_block ?_
       refine ex_region_w tt_ok 90 (0::0::0::0::0::0::0::2::(rp 35 0 [1,1])) [] rfl rfl fun K hK => ?_
       try simp only [ltb]
       simp only [List.getElem?_map,hx,encPm,tyCells,go_sem,reduceAdd,reduceLT,reduceEqDiff]
       refine hK _ _ rfl ?_
       simp only [mwb,reduceAdd,reduceEqDiff]
       refine ex_last_region_w tt_ok 90 (rp 45 0 [2,2,2]) [] (by kernel_rfl) rfl rfl fun K hK => ?_
       try simp only [ltb]
       simp only [hins,go_sem,reduceAdd,reduceLT,reduceLeDiff,reduceEqDiff]
       refine hK _ _ rfl ?_
       simp only [mwb,reduceAdd,reduceEqDiff]
       show Go.Eng.Ex _ _ _ _ _ _
       refine ex_last_region_w tt_ok 90 (rp 41 0 [2,0,0,0,0,0,0,2]) [] (by kernel_rfl) rfl rfl fun K hK => ?_
       try simp only [ltb]
       simp only [hw1,go_sem,reduceAdd,reduceLT]
       refine hK _ _ rfl ?_
       simp only [mwb,reduceAdd,reduceEqDiff]
       refine ⟨(i + 1, kvs', cl'), ?_, ?_, 2, (false::false::true::false::true::true::(rp 33 false [true,true,true])), by omega, by simp only [maskFr,belowV,reduceLT,mkb], by simp only [ltb,hsmb,List.all_cons,List.all_nil,belowV,belowB,Bool.and_self], by simp only [maskFr,mkb]⟩
       ·exact ⟨hlt, hsm'⟩
       ·dsimp only; omega
      ·have hlen := fun B0 => lenM96 B0 kvs cl
       refine ex_exit ?_
       show Go.Eng.Ex _ _ _ _ _ _
       refine ex_seq ?_
       refine ex_region_w tt_ok 90 (rp 49 0 [1,1,1,1,1,2]) [] rfl rfl fun K hK => ?_
       try simp only [ltb]
       simp only [hlen,List.length_map,go_sem,reduceAdd,reduceLT,reduceLeDiff,reduceEqDiff]
       refine hK _ _ rfl ?_
       simp only [mwb,reduceAdd,reduceEqDiff]
       refine ex_if rfl (fun hc54 => ?_) (fun hc54 => ?_)
       ·refine ex_region_w tt_ok 90 [0,0,0,0,2] [] rfl rfl fun K hK => ?_
        simp only [ltb,go_sem,reduceAdd]
        refine hK _ _ rfl ?_
        simp only [mwb,reduceAdd]
        exact ex_ret ⟨.inl rfl, _, ⟨_, rfl⟩, rfl⟩
       ·refine ex_skip ?_
        show Go.Eng.Ex _ _ _ _ _ _
        have hsm2 := hsm.below 3
        refine ex_region_w tt_ok 90 (rp 8 0 (2::(rp 46 0 [1,1,1,1,1,1,1]))) [] rfl rfl fun K hK => ?_
        simp only [ltb,go_sem,reduceAdd,reduceLT,reduceLeDiff,reduceMul,reduceEqDiff]
        refine hK _ _ rfl ?_
        simp only [mwb,reduceAdd,reduceEqDiff]
        refine ex_seq ?_
        refine ex_region_w tt_ok 90 (rp 62 0 [1,2,2,2]) [] rfl rfl fun K hK => ?_
        try simp only [ltb]
        simp only [List.length_map,go_sem,reduceAdd,reduceLT,reduceLeDiff,reduceEqDiff]
        refine hK _ _ rfl ?_
        simp only [mwb,reduceAdd,reduceEqDiff]
        refine ex_block ?_
        refine ex_loopF (fun a : Nat × Nat × List Ty => { fr := [.undef, .undef, .ptr 0 0, .undef, num 0, .undef, .undef, .undef, .ms 2 a.2.1 0 a.2.2.length, .undef, .undef, .undef, .undef, .undef, .undef, .undef, .undef, .undef, .undef, .undef, .undef, .undef, .undef, .undef, .undef, .undef, .undef, .undef, .undef, .undef, .undef, .undef, .undef, .undef, .undef, .undef, .undef, .undef, .undef, .undef, .undef, .undef, .undef, .undef, .undef, .undef, .undef, .undef, .undef, .undef, .undef, .undef, .undef, .undef, .undef, .undef, .undef, .undef, .undef, .undef, .undef, .undef, .undef, .slice (d.params.map encPm), num d.params.length, num a.1, .undef, .undef, .undef, .undef, .undef, .undef, .undef, .undef, .undef, .undef, .undef, .undef, .undef, .undef, .undef, .undef, .undef, .undef, .undef, .undef, .undef, .undef, .undef, .undef], mem := [.box [num d.kind, str d.name, bl d.exported, bl d.deprecated, str d.note, .slice (d.params.map encPm), num d.lower.kind, str d.lower.mod, str d.lower.name, .slice (encTys d.lower.args), .slice (encFds d.lower.flds), num d.upper.kind, str d.upper.mod, str d.upper.name, .slice (encTys d.upper.args), .slice (encFds d.upper.flds), num d.type.kind, str d.type.mod, str d.type.name, .slice (encTys d.type.args), .slice (encFds d.type.flds), num d.expr.kind, str d.expr.mod, str d.expr.name, str d.expr.text, num d.expr.num, .slice (encTys d.expr.types), .slice (d.expr.labels.map encLb), .slice (encExs d.expr.kids), str d.mod, str d.target], .map kvs cl, .rows a.2.1 5 (encTys a.2.2)] }) (fun a => d.params.length - a.1) (fun a => a.1 ≤ d.params.length ∧ a.2.2.length = a.1 + 3 ∧ ∀ u ∈ a.2.2, u.wt ≤ 1048576) ((0, 0, [d.lower, d.upper, d.type])) 3 (false::false::true::false::true::false::false::false::true::(rp 54 false [true,true,true])) (by omega) (by simp only [maskFr,belowV,reduceLT,mkb]) (by simp only [hsm2,List.all_cons,List.all_nil,belowV,belowB,Bool.and_self,List.take_succ_cons,List.take_nil]) (by simp only [maskFr,encTys,encTy_eq,tyCells,mkb]; rfl) (⟨Nat.zero_le _, rfl, by intro u hu; simp only [List.mem_cons,List.not_mem_nil,or_false] at hu; rcases hu with rfl | rfl | rfl <;> omega⟩) ?_
        rintro ⟨j, ver, acc⟩ ⟨hj, hacc, hall⟩
        dsimp only at hj hacc hall
        dsimp only
        refine ex_region_w tt_ok 90 (rp 66 0 [2]) [] rfl rfl fun K hK => ?_
        simp only [ltb,go_sem,reduceAdd,reduceLT]
        refine hK _ _ rfl ?_
        simp only [mwb,reduceAdd]
        refine ex_seq ?_
        refine ex_if rfl (fun hc66 => ?_) (fun hc66 => ?_)
        ·have hlt : j < d.params.length := by simpa using hc66
         obtain ⟨p, hx⟩ : ∃ p, d.params[j]? = some p := ⟨_, List.getElem?_eq_getElem hlt⟩
         have hw1 := i64_succ j (by omega)
         have hal : acc.length ≤ 34359738367 := by omega
         have hpw := sumBy_mem Pm.wt hx
         have hpb : p.wt = 1 + p.name.size + p.bound.wt := rfl
         refine ex_skip ?_
         show Go.Eng.Ex _ _ _ _ _ _
         refine ex_seq ?_
         refine ex_block ?_
         refine ex_region_w tt_ok 90 (rp 10 0 (2::(rp 56 0 [1,1]))) [] rfl rfl fun K hK => ?_
         try simp only [ltb]
         simp only [List.getElem?_map,hx,encPm,tyCells,go_sem,reduceAdd,reduceLT,reduceEqDiff]
         refine hK _ _ rfl ?_
         simp only [mwb,reduceAdd,reduceEqDiff]
         refine ex_last_region_w tt_ok 90 (rp 8 0 (2::(rp 60 0 [2,2,2,2,2]))) [] (by kernel_rfl) rfl rfl fun K hK => ?_
         try simp only [ltb]
         simp only [hal,length_encTys,go_sem,reduceAdd,reduceLT,reduceLeDiff,reduceMul,reduceEqDiff]
         refine hK _ _ rfl ?_
         simp only [mwb,reduceAdd,reduceEqDiff]
         show Go.Eng.Ex _ _ _ _ _ _
         refine ex_last_region_w tt_ok 90 (rp 65 0 (2::(rp 8 0 [2]))) [] (by kernel_rfl) rfl rfl fun K hK => ?_
         try simp only [ltb]
         simp only [hw1,go_sem,reduceAdd,reduceLT]
         refine hK _ _ rfl ?_
         simp only [mwb,reduceAdd,reduceEqDiff]
         refine ⟨(j + 1, ver + 1, acc ++ [p.bound]), ?_, ?_, 3, (false::false::true::false::true::false::false::false::true::(rp 54 false [true,true,true])), by omega, by simp only [maskFr,belowV,reduceLT,mkb], by simp only [ltb,hsm2,List.all_cons,List.all_nil,belowV,belowB,Bool.and_self], by simp [rp,maskFr, encTys_map, encTy_eq, tyCells]⟩
         ·refine ⟨hlt, by simp [hacc], fun u hu => ?_⟩
          rcases List.mem_append.1 hu with hu | hu
          ·exact hall u hu
          ·rw [List.mem_singleton] at hu; subst hu; omega
         ·dsimp only; omega
        ·refine ex_exit ?_
         show Go.Eng.Ex _ _ _ _ _ _
         refine ex_seq ?_
         refine ex_region_w tt_ok 90 (rp 75 0 [2,2,2]) [] rfl rfl fun K hK => ?_
         simp only [ltb,go_sem,reduceAdd,reduceLT]
         refine hK _ _ rfl ?_
         simp only [mwb,reduceAdd,reduceEqDiff]
         refine ex_block ?_
         refine ex_range 77 (acc.length) 3 (false::false::true::false::true::(rp 9 false (true::false::false::false::true::(rp 10 false (true::false::false::false::true::(rp 8 false (true::(rp 11 false (true::(rp 11 false (true::(rp 8 false [true,true,true])))))))))))) (by omega) (by simp only [maskFr,belowV,reduceLT,mkb]) (by simp only [hsm2,List.all_cons,List.all_nil,belowV,belowB,Bool.and_self,List.take_succ_cons,List.take_nil]) (by rfl) fun i hii => ?_
         simp only [maskFr,List.set_cons_zero,List.set_cons_succ,mkb]
         refine ex_region_w tt_ok 90 (rp 78 0 [2]) [] rfl rfl fun K hK => ?_
         simp only [ltb,go_sem,reduceAdd,reduceLT]
         refine hK _ _ rfl ?_
         simp only [mwb,reduceAdd]
         refine ex_seq ?_
         refine ex_if rfl (fun hc78 => ?_) (fun hc78 => ?_)
         ·have hlti : i < (acc.length) := by simpa using hc78
          rw [hc78]
          obtain ⟨u, hu⟩ : ∃ u, acc[i]? = some u := ⟨_, List.getElem?_eq_getElem hlti⟩
          have hil : ((i : Nat) : Int) < ((acc.length : Nat) : Int) := by omega
          refine ex_skip ?_
          show Go.Eng.Ex _ _ _ _ _ _
          refine ex_seq ?_
          refine ex_block ?_
          refine ex_region_w tt_ok 90 (rp 12 0 (2::(rp 66 0 [1,1]))) [] rfl rfl fun K hK => ?_
          try simp only [ltb]
          simp only [hil,get_encTys,hu,encTy_eq,tyCells,go_sem,reduceAdd,reduceLT,reduceEqDiff]
          refine hK _ _ rfl ?_
          simp only [mwb,reduceAdd,reduceEqDiff]
          refine ex_region_w tt_ok 90 (rp 13 0 (2::(rp 67 0 [1,1]))) [] rfl rfl fun K hK => ?_
          refine runX_cut 2 fun K1 hK1 => ?_
          simp only [ltb,go_sem,reduceAdd,reduceLT]
          refine callF_ex (by have h := checkType_ok hG u (by have := u.size_le_wt; have := hall u (List.mem_of_getElem? hu); omega) (Ty.mods (by have := hall u (List.mem_of_getElem? hu); omega)); rw [encTy_eq] at h; simp only [tyCells] at h; exact isN_of h) ?_
          rintro _ ⟨r4, rfl⟩
          try simp only [go_sem]
          refine hK1 _ ?_
          simp only [ltb,go_sem,reduceAdd,reduceLT,reduceEqDiff]
          refine hK _ _ rfl ?_
          simp only [mwb,reduceAdd,reduceEqDiff]
          refine ex_region_w tt_ok 90 (rp 83 0 [1,2]) [] rfl rfl fun K hK => ?_
          simp only [ltb,go_sem,reduceAdd,reduceLT]
          refine hK _ _ rfl ?_
          simp only [mwb,reduceAdd,reduceEqDiff]
          refine ex_if rfl (fun hc84 => ?_) (fun hc84 => ?_)
          ·refine ex_region_w tt_ok 90 (0::0::0::0::2::(rp 80 0 [1])) [] rfl rfl fun K hK => ?_
           simp only [ltb,go_sem,reduceAdd,reduceLT]
           refine hK _ _ rfl ?_
           simp only [mwb,reduceAdd,reduceEqDiff]
           exact ex_ret ⟨.inl rfl, _, ⟨_, rfl⟩, rfl⟩
          ·refine ex_skip ?_
           show Go.Eng.Ex _ _ _ _ _ _
           refine ex_last_region_w tt_ok 90 (rp 77 0 (2::(rp 8 0 [2]))) [] (by kernel_rfl) rfl rfl fun K hK => ?_
           simp only [ltb,go_sem,reduceAdd,reduceLT]
           refine hK _ _ rfl ?_
           simp only [mwb,reduceAdd,reduceEqDiff]
           have hwi := i64_succ i (by omega)
           refine ⟨hlti, 3, (false::false::true::false::true::(rp 9 false (true::false::false::false::true::(rp 10 false (true::false::false::false::true::(rp 8 false (true::(rp 11 false (true::(rp 11 false (true::(rp 8 false [true,true,true])))))))))))), by omega, by simp only [maskFr,belowV,reduceLT,mkb], by simp only [ltb,hsm2,List.all_cons,List.all_nil,belowV,belowB,Bool.and_self], ?_⟩
           simp only [hwi,maskFr,mkb]
         ·have hgei : ¬ i < (acc.length) := by simpa using hc78
          refine ex_exit ?_
          show Go.Eng.Ex _ _ _ _ _ _
          refine ex_region_w tt_ok 90 (0::0::0::0::2::(rp 82 0 [1,1,1])) [] rfl rfl fun K hK => ?_
          refine runX_cut 3 fun K1 hK1 => ?_
          simp only [ltb,go_sem,reduceAdd,reduceLT,reduceLeDiff,reduceEqDiff]
          refine callF_ex (by have h := checkExpr_ok hG d.expr (by omega); rw [encEx_eq] at h; simp only [exCells] at h; exact isN_of h) ?_
          rintro _ ⟨r5, rfl⟩
          try simp only [go_sem]
          refine hK1 _ ?_
          simp only [ltb,go_sem,reduceAdd,reduceLT,reduceEqDiff]
          refine hK _ _ rfl ?_
          simp only [mwb,reduceAdd,reduceEqDiff]
          exact ex_ret ⟨.inl rfl, _, ⟨_, rfl⟩, rfl⟩
  ·simp only [ltb,go_sem,reduceLT,reduceEqDiff]
   refine hK _ _ rfl ?_
   simp only [mwb,reduceAdd,reduceEqDiff]
   refine ex_cond rfl ?_
   refine ex_region_w tt_ok 90 [0,0,0,0,2] [] rfl rfl fun K hK => ?_
   simp only [ltb,go_sem]
   refine hK _ _ rfl ?_
   simp only [mwb,reduceAdd]
   exact ex_ret ⟨.inl rfl, _, ⟨_, rfl⟩, rfl⟩
end Go.Proofs.YtpjdfcigadnhcaaGreatDoor
end

section
namespace Go.Proofs.YtpjdfcigadnhcaaGreatDoor
open Go.Eng
open Nat (reduceAdd reduceLT reduceLeDiff reduceMul reduceEqDiff reduceSub)
variable [Glob]
theorem Ty.ext_iff (t u : Ty) : t = u ↔ t.kind = u.kind ∧ t.mod = u.mod ∧ t.name = u.name ∧ t.args = u.args ∧ t.flds = u.flds := by
 obtain ⟨k, m, n, ts, fs⟩ := t
 obtain ⟨k', m', n', ts', fs'⟩ := u
 simp [Ty.kind, Ty.mod, Ty.name, Ty.args, Ty.flds]
theorem Fd.ext_iff (t u : Fd) : t = u ↔ t.name = u.name ∧ t.opt = u.opt ∧ t.ty = u.ty := by
 obtain ⟨n, t, o⟩ := t
 obtain ⟨n', t', o'⟩ := u
 simp only [Fd.name,Fd.opt,Fd.ty,Fd.mk.injEq]
 exact ⟨fun h => ⟨h.1, h.2.2, h.2.1⟩, fun h => ⟨h.1, h.2.2, h.2.1⟩⟩

theorem eqFd_ok (t u : Fd) (h : FnOk Tryz.prog 24 [encTy t.ty, encTy u.ty] (bl (eqb t.ty u.ty))) : FnOk Tryz.prog 65 [encFd t, encFd u] (bl (eqb t u)) := by
 refine fn_ok tt_ok (fn := Tryz.f65) Tryz.func65 rfl Tryz.call65 ?_
 simp only [ltb,startSt,Tryz.ntmps65,List.length_cons,List.length_nil,reduceAdd,reduceSub,List.replicate_succ,List.replicate_zero]
 rw [encTy_eq, encTy_eq] at h
 rw [encFd_eq, encFd_eq]
 simp only [ltb,tyCells] at h ⊢
 have e1 := bytes_eq t.name u.name
 have hT : Tryz.prog.underlying 4 = some .bool := by kernel_rfl
 have e2 := fun x y => ev_beql (P := Tryz.prog) (T := 4) x y hT
 refine tri_seq_region tt_ok fun K hK => ?_
 simp only [go_sem,reduceIte,reduceAdd,reduceLT,reduceLeDiff,reduceMul,reduceEqDiff,reduceSub,reduceCtorEq]
 refine hK _ ?_
 by_cases h1 : t.name = u.name
 ·rw [eqb_true h1] at e1
  by_cases h2 : t.opt = u.opt
  ·have e3 : (t.opt == u.opt) = true := by simpa using h2
   refine tri_seq_region tt_ok fun K hK => ?_
   simp only [e1,e2,e3,go_sem,reduceIte,reduceAdd,reduceLT,reduceLeDiff,reduceMul,reduceEqDiff,reduceSub,reduceCtorEq]
   refine .inl ⟨_, _, by simp only [go_sem,reduceIte,reduceAdd,reduceLT,reduceLeDiff,reduceMul,reduceEqDiff,reduceSub,reduceCtorEq,List.take_length], h, ?_⟩
   try simp only [go_sem,reduceIte,reduceAdd,reduceLT,reduceLeDiff,reduceMul,reduceEqDiff,reduceSub,reduceCtorEq]
   refine hK _ ?_
   refine tri_ret ⟨.inl rfl, ?_⟩
   have hr : eqb t u = eqb t.ty u.ty := by
    by_cases h3 : t.ty = u.ty
    ·rw [eqb_true h3, eqb_true ((Fd.ext_iff t u).2 ⟨h1, h2, h3⟩)]
    ·rw [eqb_false h3, eqb_false fun e => h3 ((Fd.ext_iff t u).1 e).2.2]
   rw [hr]; rfl
  ·have e3 : (t.opt == u.opt) = false := by simpa using h2
   refine tri_seq_region tt_ok fun K hK => ?_
   simp only [e1,e2,e3,go_sem,reduceIte,reduceAdd,reduceLT,reduceLeDiff,reduceMul,reduceEqDiff,reduceSub,reduceCtorEq]
   refine hK _ ?_
   refine tri_ret ⟨.inl rfl, ?_⟩
   rw [eqb_false fun e => h2 ((Fd.ext_iff t u).1 e).2.1]; rfl
 ·rw [eqb_false h1] at e1
  refine tri_seq_region tt_ok fun K hK => ?_
  simp only [e1,go_sem,reduceIte,reduceAdd,reduceLT,reduceLeDiff,reduceMul,reduceEqDiff,reduceSub,reduceCtorEq]
  refine hK _ ?_
  refine tri_ret ⟨.inl rfl, ?_⟩
  rw [eqb_false fun e => h1 ((Fd.ext_iff t u).1 e).1]; rfl
theorem Ty.args_size {t a : Ty} {i : Nat} (h : t.args[i]? = some a) : a.size < t.size := by
 have h1 : t.parts[i]? = some a := by
  unfold Ty.parts
  rw [List.getElem?_append_left (List.getElem?_eq_some_iff.1 h).1]; exact h
 have := sumBy_mem Ty.size h1; have := t.size_parts; omega
theorem Ty.flds_size {t : Ty} {f : Fd} {i : Nat} (h : t.flds[i]? = some f) : f.ty.size < t.size := by
 have h1 : t.parts[t.args.length + i]? = some f.ty := by
  unfold Ty.parts
  rw [List.getElem?_append_right (by omega), Nat.add_sub_cancel_left, List.getElem?_map, h]; rfl
 have := sumBy_mem Ty.size h1; have := t.size_parts; omega

theorem seqTy_ok : ∀ (N : Nat) (t u : Ty), t.size ≤ N → N ≤ 1048576 → FnOk Tryz.prog 24 [encTy t, encTy u] (bl (eqb t u)) := by
 intro N
 induction N with
 | zero => intro t u h; have := t.size_pos; omega
 | succ N ih =>
  intro t u hN hb
  have hpl := t.parts_length
  have hA := equalTys_ok 24 t.args u.args (by omega) fun i a b ha _ => ih a b (by have := Ty.args_size ha; omega) (by omega)
  have hF := equalFds_ok 65 t.flds u.flds (by omega) fun i a b ha _ => eqFd_ok a b (ih a.ty b.ty (by have := Ty.flds_size ha; omega) (by omega))
  refine fn_ok tt_ok (fn := Tryz.f24) Tryz.func24 rfl Tryz.call24 ?_
  simp only [ltb,startSt,Tryz.ntmps24,List.length_cons,List.length_nil,reduceAdd,reduceSub,List.replicate_succ,List.replicate_zero]
  rw [encTy_eq, encTy_eq]
  simp only [tyCells]
  have e2 := bytes_eq t.mod u.mod
  have e3 := bytes_eq t.name u.name
  refine tri_seq_region tt_ok fun K hK => ?_
  simp only [go_sem,reduceIte,reduceAdd,reduceLT,reduceLeDiff,reduceMul,reduceEqDiff,reduceSub,reduceCtorEq]
  refine hK _ ?_
  by_cases h1 : t.kind = u.kind
  ·have d1 : decide (t.kind = u.kind) = true := decide_eq_true h1
   by_cases h2 : t.mod = u.mod
   ·rw [eqb_true h2] at e2
    by_cases h3 : t.name = u.name
    ·rw [eqb_true h3] at e3
     by_cases h4 : t.args = u.args
     ·rw [eqb_true h4] at hA
      by_cases h5 : t.flds = u.flds
      ·rw [eqb_true h5] at hF
       refine tri_seq_region tt_ok fun K hK => ?_
       simp only [d1,e2,e3,go_sem,reduceIte,reduceAdd,reduceLT,reduceLeDiff,reduceMul,reduceEqDiff,reduceSub,reduceCtorEq]
       refine .inl ⟨_, _, by simp only [go_sem,reduceIte,reduceAdd,reduceLT,reduceLeDiff,reduceMul,reduceEqDiff,reduceSub,reduceCtorEq,List.take_length], hA, ?_⟩
       try simp only [go_sem,reduceIte,reduceAdd,reduceLT,reduceLeDiff,reduceMul,reduceEqDiff,reduceSub,reduceCtorEq]
       refine .inl ⟨_, _, by simp only [go_sem,reduceIte,reduceAdd,reduceLT,reduceLeDiff,reduceMul,reduceEqDiff,reduceSub,reduceCtorEq,List.take_length], hF, ?_⟩
       try simp only [go_sem,reduceIte,reduceAdd,reduceLT,reduceLeDiff,reduceMul,reduceEqDiff,reduceSub,reduceCtorEq]
       refine hK _ ?_
       refine tri_ret ⟨.inl rfl, ?_⟩
       rw [eqb_true ((Ty.ext_iff t u).2 ⟨h1, h2, h3, h4, h5⟩)]; rfl
      ·rw [eqb_false h5] at hF
       refine tri_seq_region tt_ok fun K hK => ?_
       simp only [d1,e2,e3,go_sem,reduceIte,reduceAdd,reduceLT,reduceLeDiff,reduceMul,reduceEqDiff,reduceSub,reduceCtorEq]
       refine .inl ⟨_, _, by simp only [go_sem,reduceIte,reduceAdd,reduceLT,reduceLeDiff,reduceMul,reduceEqDiff,reduceSub,reduceCtorEq,List.take_length], hA, ?_⟩
       try simp only [go_sem,reduceIte,reduceAdd,reduceLT,reduceLeDiff,reduceMul,reduceEqDiff,reduceSub,reduceCtorEq]
       refine .inl ⟨_, _, by simp only [go_sem,reduceIte,reduceAdd,reduceLT,reduceLeDiff,reduceMul,reduceEqDiff,reduceSub,reduceCtorEq,List.take_length], hF, ?_⟩
       try simp only [go_sem,reduceIte,reduceAdd,reduceLT,reduceLeDiff,reduceMul,reduceEqDiff,reduceSub,reduceCtorEq]
       refine hK _ ?_
       refine tri_ret ⟨.inl rfl, ?_⟩
       rw [eqb_false fun e => h5 ((Ty.ext_iff t u).1 e).2.2.2.2]; rfl
     ·rw [eqb_false h4] at hA
      refine tri_seq_region tt_ok fun K hK => ?_
      simp only [d1,e2,e3,go_sem,reduceIte,reduceAdd,reduceLT,reduceLeDiff,reduceMul,reduceEqDiff,reduceSub,reduceCtorEq]
      refine .inl ⟨_, _, by simp only [go_sem,reduceIte,reduceAdd,reduceLT,reduceLeDiff,reduceMul,reduceEqDiff,reduceSub,reduceCtorEq,List.take_length], hA, ?_⟩
      try simp only [go_sem,reduceIte,reduceAdd,reduceLT,reduceLeDiff,reduceMul,reduceEqDiff,reduceSub,reduceCtorEq]
      refine hK _ ?_
      refine tri_ret ⟨.inl rfl, ?_⟩
      rw [eqb_false fun e => h4 ((Ty.ext_iff t u).1 e).2.2.2.1]; rfl
    ·rw [eqb_false h3] at e3
     refine tri_seq_region tt_ok fun K hK => ?_
     simp only [d1,e2,e3,go_sem,reduceIte,reduceAdd,reduceLT,reduceLeDiff,reduceMul,reduceEqDiff,reduceSub,reduceCtorEq]
     refine hK _ ?_
     refine tri_ret ⟨.inl rfl, ?_⟩
     rw [eqb_false fun e => h3 ((Ty.ext_iff t u).1 e).2.2.1]; rfl
   ·rw [eqb_false h2] at e2
    refine tri_seq_region tt_ok fun K hK => ?_
    simp only [d1,e2,go_sem,reduceIte,reduceAdd,reduceLT,reduceLeDiff,reduceMul,reduceEqDiff,reduceSub,reduceCtorEq]
    refine hK _ ?_
    refine tri_ret ⟨.inl rfl, ?_⟩
    rw [eqb_false fun e => h2 ((Ty.ext_iff t u).1 e).2.1]; rfl
  ·have d1 : decide (t.kind = u.kind) = false := decide_eq_false h1
   refine tri_seq_region tt_ok fun K hK => ?_
   simp only [d1,go_sem,reduceIte,reduceAdd,reduceLT,reduceLeDiff,reduceMul,reduceEqDiff,reduceSub,reduceCtorEq]
   refine hK _ ?_
   refine tri_ret ⟨.inl rfl, ?_⟩
   rw [eqb_false fun e => h1 ((Ty.ext_iff t u).1 e).1]; rfl
end Go.Proofs.YtpjdfcigadnhcaaGreatDoor
end

section
namespace Go.Proofs.YtpjdfcigadnhcaaGreatDoor
open Go.Eng
open Nat (reduceAdd reduceLT reduceLeDiff reduceMul reduceEqDiff reduceSub)
variable [Glob]
set_option maxRecDepth 100000
set_option maxHeartbeats 2000000
attribute [local irreducible] runM stepM valD
theorem reqTys_ok (ts us : List Ty) (hl : ts.length ≤ 1048576) (hg : ∀ (i : Nat) (t u : Ty), ts[i]? = some t → us[i]? = some u → FnOk Tryz.prog 27 [encTy t, encTy u] (bl (eqb t u))) :
  FnOk Tryz.prog 68 [.slice (encTys ts), .slice (encTys us)] (bl (eqb ts us)) := by
 refine fn_ok tt_ok (fn := Tryz.f68) Tryz.func68 rfl Tryz.call68 ?_
 simp only [ltb,startSt,Tryz.ntmps68,List.length_cons,List.length_nil,reduceAdd,reduceSub,List.replicate_succ,List.replicate_zero]
 refine tri_seq_region tt_ok fun K hK => ?_
 simp only [go_sem]
 refine hK _ ?_
 refine tri_seq ?_
 by_cases hlen : ts.length = us.length
 ·have hd : (!decide ((ts.length : Int) = (us.length : Int))) = false := by simp [hlen]
  refine tri_seq_region tt_ok fun K hK => ?_
  simp only [length_encTys,hd,go_sem]
  refine hK _ ?_
  refine tri_cond rfl (tri_skip ?_)
  show Tri _ _ _ _ _ _
  refine tri_seq ?_
  refine tri_seq_region tt_ok fun K hK => ?_
  simp only [go_sem]
  refine hK _ ?_
  refine tri_block (tri_loop_inv (fun N st => ∃ (i : Nat), N = ts.length - i ∧ i ≤ ts.length ∧ ts.take i = us.take i ∧
   st = { fr := [.slice (encTys ts), .slice (encTys us), .undef, .undef, .undef, num i] ++ List.replicate 21 .undef, mem := [] }) ts.length ?_ ?_)
  ·exact ⟨0, [true,true,false,false,false,true], by omega, by simp only [maskFr,belowV,mkb], rfl, 0, by omega, by omega, by simp, rfl⟩
  ·rintro N' st ⟨i, rfl, hi, htk, rfl⟩
   simp only [ltb,List.replicate_succ,List.replicate_zero]
   refine tri_seq ?_
   by_cases hlt : i < ts.length
   ·have hd := lt_dec hlt
    refine tri_seq_region tt_ok fun K hK => ?_
    simp only [length_encTys,hd,go_sem]
    refine hK _ ?_
    refine tri_cond rfl (tri_skip ?_)
    refine tri_seq (tri_block ?_)
    obtain ⟨t, ht⟩ : ∃ t, ts[i]? = some t := ⟨_, List.getElem?_eq_getElem hlt⟩
    obtain ⟨u, hu⟩ : ∃ u, us[i]? = some u := ⟨_, List.getElem?_eq_getElem (by omega)⟩
    have hgi := hg i t u ht hu
    rw [encTy_eq, encTy_eq] at hgi
    simp only [tyCells] at hgi
    refine tri_seq_mixed tt_ok mixed_ok [⟨.n, 0, [], []⟩, ⟨.n, 0, [], []⟩, ⟨.r, 0, [], []⟩, ⟨.r, 0, [], []⟩, ⟨.n, 0, [], []⟩, ⟨.n, 0, [], []⟩, ⟨.r, 0, [], []⟩, ⟨.r, 0, [], []⟩, ⟨.n, 0, [], []⟩, ⟨.n, 0, [], []⟩] 0 (by kernel_rfl) fun K hK => ?_
    simp only [get_encTys,ht,hu,encTy_eq,tyCells,go_sem,reduceAdd,List.replicate]
    refine ⟨_, _, by simp only [go_sem], .inl (hgi), ?_⟩
    try simp only [go_sem]
    refine hK _ ?_
    have htk1 : ∀ h : t = u, ts.take (i + 1) = us.take (i + 1) := fun h => by rw [List.take_add_one, List.take_add_one, htk, ht, hu, h]
    by_cases htu : t = u
    ·rw [eqb_true htu]
     refine tri_cond rfl (tri_skip ?_)
     show Tri _ _ _ _ _ _
     refine tri_last_region tt_ok fun K hK => ?_
     simp only [go_sem]
     refine hK _ ?_
     have hw2 := i64_succ i (by omega)
     rw [hw2]
     exact ⟨ts.length - (i + 1), by omega, 0, [true,true,false,false,false,true], by omega, by simp only [maskFr,belowV,mkb], rfl, i + 1, rfl, hlt, htk1 htu, rfl⟩
    ·rw [eqb_false htu]
     refine tri_cond rfl ?_
     refine tri_seq_region tt_ok fun K hK => ?_
     simp only [go_sem]
     refine hK _ ?_
     refine tri_ret ⟨.inl rfl, ?_⟩
     rw [eqb_false (fun e => htu (by rw [e, hu] at ht; exact (Option.some.inj ht).symm))]
     rfl
   ·have hd := ge_dec hlt
    refine tri_seq_region tt_ok fun K hK => ?_
    simp only [length_encTys,hd,go_sem]
    refine hK _ ?_
    refine tri_cond rfl (tri_exit ?_)
    have hie : i = ts.length := by omega
    subst hie
    show Tri _ _ _ _ _ _
    refine tri_seq_region tt_ok fun K hK => ?_
    simp only [go_sem]
    refine hK _ ?_
    refine tri_ret ⟨.inl rfl, ?_⟩
    have he : ts = us := by
     rw [List.take_length] at htk
     rw [htk, hlen, List.take_length]
    rw [eqb_true he]; rfl
 ·have hd : (!decide ((ts.length : Int) = (us.length : Int))) = true := by simp; omega
  refine tri_seq_region tt_ok fun K hK => ?_
  simp only [length_encTys,hd,go_sem]
  refine hK _ ?_
  refine tri_cond rfl ?_
  refine tri_seq_region tt_ok fun K hK => ?_
  simp only [go_sem]
  refine hK _ ?_
  refine tri_ret ⟨.inl rfl, ?_⟩
  rw [eqb_false (fun e => hlen (by rw [e]))]; rfl

def findReg (id : Nat) : Code → Option (Array Oper)
 | .region j ops _ => if j = id then some ops else none
 | .seq a b => match findReg id a with | some x => some x | none => findReg id b
 | .cond _ a b => match findReg id a with | some x => some x | none => findReg id b
 | .block _ c => findReg id c
 | .loop c => findReg id c
 | _ => none
def bodyReg (id : Nat) (fn : Func) : Option (Array Oper) := match fn.body with | some b => findReg id b | none => none
def eqKeep (t u : Ty) (i : Nat) (b : Bool) (K : St → Prop) : Prop := ∀ fr : List V, maskFr ([false,false,true,true,false,true] ++ List.replicate 78 false ++ [true]) fr = [.undef, .undef, .ptr 0 0, .ptr 1 0, .undef, num i] ++ List.replicate 78 .undef ++ [bl b] ++ List.replicate 5 .undef →
 K { fr := fr, mem := [.box (tyCells t), .box (tyCells u)] }
section
variable {t u : Ty} {i : Nat} {f g : Fd} (hf : t.flds[i]? = some f) (hg : u.flds[i]? = some g) {a0 a b c d : V} {K : St → Prop} {ops : Array Oper} (ho : bodyReg 6 Tryz.f27 = some ops)
include hf hg ho in
theorem eqReg_name (h5 : ¬ f.name = g.name) (hK : eqKeep t u i true K) :
  runM Tryz.prog tt ops 2 ops.toList [⟨.n, 0, [], []⟩, ⟨.r, 0, [], []⟩, ⟨.n, 0, [], []⟩, ⟨.r, 0, [], []⟩, ⟨.n, 0, [], []⟩, ⟨.r, 0, [], []⟩, ⟨.n, 0, [], []⟩, ⟨.r, 0, [], []⟩, ⟨.n, 0, [], []⟩, ⟨.r, 0, [], []⟩, ⟨.n, 0, [], []⟩, ⟨.r, 0, [], []⟩, ⟨.n, 0, [], []⟩, ⟨.n, 0, [], []⟩, ⟨.n, 0, [], []⟩, ⟨.r, 0, [], []⟩, ⟨.n, 0, [], []⟩, ⟨.r, 0, [], []⟩, ⟨.n, 0, [], []⟩, ⟨.r, 0, [], []⟩, ⟨.n, 0, [], []⟩, ⟨.r, 0, [], []⟩, ⟨.n, 0, [], []⟩, ⟨.r, 0, [], []⟩, ⟨.n, 0, [], []⟩, ⟨.r, 0, [], []⟩, ⟨.n, 0, [], []⟩, ⟨.n, 0, [], []⟩, ⟨.n, 0, [], []⟩, ⟨.n, 0, [], []⟩, ⟨.r, 0, [], []⟩, ⟨.n, 0, [], []⟩, ⟨.r, 0, [], []⟩, ⟨.n, 0, [], []⟩, ⟨.r, 0, [], []⟩, ⟨.n, 0, [], []⟩, ⟨.r, 0, [], []⟩, ⟨.n, 0, [], []⟩, ⟨.r, 0, [], []⟩, ⟨.n, 0, [], []⟩, ⟨.r, 0, [], []⟩, ⟨.n, 0, [], []⟩, ⟨.n, 0, [], []⟩, ⟨.n, 0, [], []⟩] { fr := [.undef, .undef, .ptr 0 0, .ptr 1 0, .undef, num i] ++ List.replicate 28 .undef ++ [a0, a, b, c, d] ++ List.replicate 51 .undef, mem := [.box (tyCells t), .box (tyCells u)] ++ List.replicate 0 .hole } K := by
 simp only [bodyReg,Tryz.f27,findReg,reduceEqDiff,if_false,if_true,Option.some.injEq] at ho
 subst ho
 have e5 := bytes_eq f.name g.name
 have hT : Tryz.prog.underlying 4 = some .bool := by kernel_rfl
 have e6 := fun x y => ev_bneq (P := Tryz.prog) (T := 4) x y hT
 rw [eqb_false h5] at e5
 simp only [ltb,List.replicate_succ,List.replicate_zero,tyCells]
 refine runM_cut 5 (by simp) (by simp) fun K1 hK1 => ?_
 simp only [get_encFds,hf,encFd_eq,tyCells,go_sem,reduceAdd]
 refine hK1 _ ?_
 refine runM_cut 5 (by simp) (by simp) fun K1 hK1 => ?_
 simp only [get_encFds,hg,encFd_eq,tyCells,go_sem,reduceAdd,reduceLeDiff]
 refine hK1 _ ?_
 refine runM_cut 5 (by simp) (by simp) fun K1 hK1 => ?_
 simp only [e5,go_sem]
 refine hK1 _ ?_
 refine runM_cut 5 (by simp) (by simp) fun K1 hK1 => ?_
 simp only [go_sem]
 refine hK1 _ ?_
 refine runM_cut 5 (by simp) (by simp) fun K1 hK1 => ?_
 simp only [go_sem]
 refine hK1 _ ?_
 refine runM_cut 5 (by simp) (by simp) fun K1 hK1 => ?_
 simp only [go_sem]
 refine hK1 _ ?_
 refine runM_cut 5 (by simp) (by simp) fun K1 hK1 => ?_
 simp only [go_sem]
 refine hK1 _ ?_
 refine runM_cut 5 (by simp) (by simp) fun K1 hK1 => ?_
 simp only [go_sem]
 refine hK1 _ ?_
 simp only [go_sem]
 exact hK _ (by simp only [maskFr,List.replicate_succ,List.replicate_zero,List.cons_append,List.nil_append,mkb])
include hf hg ho in
theorem eqReg_opt (h5 : f.name = g.name) (h6 : ¬ f.opt = g.opt) (hK : eqKeep t u i true K) :
  runM Tryz.prog tt ops 2 ops.toList [⟨.n, 0, [], []⟩, ⟨.r, 0, [], []⟩, ⟨.n, 0, [], []⟩, ⟨.r, 0, [], []⟩, ⟨.n, 0, [], []⟩, ⟨.r, 0, [], []⟩, ⟨.n, 0, [], []⟩, ⟨.r, 0, [], []⟩, ⟨.n, 0, [], []⟩, ⟨.r, 0, [], []⟩, ⟨.n, 0, [], []⟩, ⟨.r, 0, [], []⟩, ⟨.n, 0, [], []⟩, ⟨.n, 0, [], []⟩, ⟨.n, 0, [], []⟩, ⟨.r, 0, [], []⟩, ⟨.n, 0, [], []⟩, ⟨.r, 0, [], []⟩, ⟨.n, 0, [], []⟩, ⟨.r, 0, [], []⟩, ⟨.n, 0, [], []⟩, ⟨.r, 0, [], []⟩, ⟨.n, 0, [], []⟩, ⟨.r, 0, [], []⟩, ⟨.n, 0, [], []⟩, ⟨.r, 0, [], []⟩, ⟨.n, 0, [], []⟩, ⟨.n, 0, [], []⟩, ⟨.n, 0, [], []⟩, ⟨.n, 0, [], []⟩, ⟨.r, 0, [], []⟩, ⟨.n, 0, [], []⟩, ⟨.r, 0, [], []⟩, ⟨.n, 0, [], []⟩, ⟨.r, 0, [], []⟩, ⟨.n, 0, [], []⟩, ⟨.r, 0, [], []⟩, ⟨.n, 0, [], []⟩, ⟨.r, 0, [], []⟩, ⟨.n, 0, [], []⟩, ⟨.r, 0, [], []⟩, ⟨.n, 0, [], []⟩, ⟨.n, 0, [], []⟩, ⟨.n, 0, [], []⟩] { fr := [.undef, .undef, .ptr 0 0, .ptr 1 0, .undef, num i] ++ List.replicate 28 .undef ++ [a0, a, b, c, d] ++ List.replicate 51 .undef, mem := [.box (tyCells t), .box (tyCells u)] ++ List.replicate 0 .hole } K := by
 simp only [bodyReg,Tryz.f27,findReg,reduceEqDiff,if_false,if_true,Option.some.injEq] at ho
 subst ho
 have e5 := bytes_eq f.name g.name
 have hT : Tryz.prog.underlying 4 = some .bool := by kernel_rfl
 have e6 := fun x y => ev_bneq (P := Tryz.prog) (T := 4) x y hT
 rw [eqb_true h5] at e5
 have e7 : (f.opt == g.opt) = false := by simpa using h6
 simp only [ltb,List.replicate_succ,List.replicate_zero,tyCells]
 refine runM_cut 5 (by simp) (by simp) fun K1 hK1 => ?_
 simp only [get_encFds,hf,encFd_eq,tyCells,go_sem,reduceAdd]
 refine hK1 _ ?_
 refine runM_cut 5 (by simp) (by simp) fun K1 hK1 => ?_
 simp only [get_encFds,hg,encFd_eq,tyCells,go_sem,reduceAdd,reduceLeDiff]
 refine hK1 _ ?_
 refine runM_cut 5 (by simp) (by simp) fun K1 hK1 => ?_
 simp only [e5,go_sem]
 refine hK1 _ ?_
 refine runM_cut 5 (by simp) (by simp) fun K1 hK1 => ?_
 simp only [get_encFds,hf,encFd_eq,tyCells,go_sem,reduceAdd]
 refine hK1 _ ?_
 refine runM_cut 5 (by simp) (by simp) fun K1 hK1 => ?_
 simp only [get_encFds,hg,encFd_eq,tyCells,go_sem,reduceAdd]
 refine hK1 _ ?_
 refine runM_cut 5 (by simp) (by simp) fun K1 hK1 => ?_
 simp only [e6,e7,go_sem]
 refine hK1 _ ?_
 refine runM_cut 5 (by simp) (by simp) fun K1 hK1 => ?_
 simp only [go_sem]
 refine hK1 _ ?_
 refine runM_cut 5 (by simp) (by simp) fun K1 hK1 => ?_
 simp only [go_sem]
 refine hK1 _ ?_
 simp only [go_sem]
 exact hK _ (by simp only [maskFr,List.replicate_succ,List.replicate_zero,List.cons_append,List.nil_append,mkb])
include hf hg ho in
theorem eqReg_ty (h5 : f.name = g.name) (h6 : f.opt = g.opt) (r : Bool) (hrec : FnOk Tryz.prog 27 [.agg (tyCells f.ty), .agg (tyCells g.ty)] (bl r)) (hK : eqKeep t u i (!r) K) :
  runM Tryz.prog tt ops 2 ops.toList [⟨.n, 0, [], []⟩, ⟨.r, 0, [], []⟩, ⟨.n, 0, [], []⟩, ⟨.r, 0, [], []⟩, ⟨.n, 0, [], []⟩, ⟨.r, 0, [], []⟩, ⟨.n, 0, [], []⟩, ⟨.r, 0, [], []⟩, ⟨.n, 0, [], []⟩, ⟨.r, 0, [], []⟩, ⟨.n, 0, [], []⟩, ⟨.r, 0, [], []⟩, ⟨.n, 0, [], []⟩, ⟨.n, 0, [], []⟩, ⟨.n, 0, [], []⟩, ⟨.r, 0, [], []⟩, ⟨.n, 0, [], []⟩, ⟨.r, 0, [], []⟩, ⟨.n, 0, [], []⟩, ⟨.r, 0, [], []⟩, ⟨.n, 0, [], []⟩, ⟨.r, 0, [], []⟩, ⟨.n, 0, [], []⟩, ⟨.r, 0, [], []⟩, ⟨.n, 0, [], []⟩, ⟨.r, 0, [], []⟩, ⟨.n, 0, [], []⟩, ⟨.n, 0, [], []⟩, ⟨.n, 0, [], []⟩, ⟨.n, 0, [], []⟩, ⟨.r, 0, [], []⟩, ⟨.n, 0, [], []⟩, ⟨.r, 0, [], []⟩, ⟨.n, 0, [], []⟩, ⟨.r, 0, [], []⟩, ⟨.n, 0, [], []⟩, ⟨.r, 0, [], []⟩, ⟨.n, 0, [], []⟩, ⟨.r, 0, [], []⟩, ⟨.n, 0, [], []⟩, ⟨.r, 0, [], []⟩, ⟨.n, 0, [], []⟩, ⟨.n, 0, [], []⟩, ⟨.n, 0, [], []⟩] { fr := [.undef, .undef, .ptr 0 0, .ptr 1 0, .undef, num i] ++ List.replicate 28 .undef ++ [a0, a, b, c, d] ++ List.replicate 51 .undef, mem := [.box (tyCells t), .box (tyCells u)] ++ List.replicate 0 .hole } K := by
 simp only [bodyReg,Tryz.f27,findReg,reduceEqDiff,if_false,if_true,Option.some.injEq] at ho
 subst ho
 have e5 := bytes_eq f.name g.name
 have hT : Tryz.prog.underlying 4 = some .bool := by kernel_rfl
 have e6 := fun x y => ev_bneq (P := Tryz.prog) (T := 4) x y hT
 rw [eqb_true h5] at e5
 have e7 : (f.opt == g.opt) = true := by simpa using h6
 simp only [tyCells] at hrec
 simp only [ltb,List.replicate_succ,List.replicate_zero,tyCells]
 refine runM_cut 5 (by simp) (by simp) fun K1 hK1 => ?_
 simp only [get_encFds,hf,encFd_eq,tyCells,go_sem,reduceAdd]
 refine hK1 _ ?_
 refine runM_cut 5 (by simp) (by simp) fun K1 hK1 => ?_
 simp only [get_encFds,hg,encFd_eq,tyCells,go_sem,reduceAdd,reduceLeDiff]
 refine hK1 _ ?_
 refine runM_cut 5 (by simp) (by simp) fun K1 hK1 => ?_
 simp only [e5,go_sem]
 refine hK1 _ ?_
 refine runM_cut 5 (by simp) (by simp) fun K1 hK1 => ?_
 simp only [get_encFds,hf,encFd_eq,tyCells,go_sem,reduceAdd]
 refine hK1 _ ?_
 refine runM_cut 5 (by simp) (by simp) fun K1 hK1 => ?_
 simp only [get_encFds,hg,encFd_eq,tyCells,go_sem,reduceAdd]
 refine hK1 _ ?_
 refine runM_cut 5 (by simp) (by simp) fun K1 hK1 => ?_
 simp only [e6,e7,go_sem]
 refine hK1 _ ?_
 refine runM_cut 5 (by simp) (by simp) fun K1 hK1 => ?_
 simp only [get_encFds,hf,encFd_eq,tyCells,go_sem,reduceAdd,reduceLeDiff]
 refine hK1 _ ?_
 refine runM_cut 5 (by simp) (by simp) fun K1 hK1 => ?_
 simp only [get_encFds,hg,encFd_eq,tyCells,go_sem,reduceAdd]
 refine hK1 _ ?_
 simp only [go_sem,reduceAdd,reduceLeDiff]
 refine ⟨_, _, by simp only [go_sem], .inl (hrec), ?_⟩
 try simp only [go_sem]
 exact hK _ (by simp only [maskFr,List.replicate_succ,List.replicate_zero,List.cons_append,List.nil_append,mkb])
end

theorem reqTy_ok : ∀ (N : Nat) (t u : Ty), t.size ≤ N → N ≤ 1048576 → FnOk Tryz.prog 27 [encTy t, encTy u] (bl (eqb t u)) := by
 intro N
 induction N with
 | zero => intro t u h; have := t.size_pos; omega
 | succ N ih =>
  intro t u hN hb
  have hpl := t.parts_length
  have hA := reqTys_ok t.args u.args (by omega) fun i a b ha _ => ih a b (by have := Ty.args_size ha; omega) (by omega)
  refine fn_ok tt_ok (fn := Tryz.f27) Tryz.func27 rfl Tryz.call27 ?_
  simp only [ltb,startSt,Tryz.ntmps27,List.length_cons,List.length_nil,reduceAdd,reduceSub,List.replicate_succ,List.replicate_zero]
  rw [encTy_eq, encTy_eq]
  simp only [tyCells]
  have e2 := bytes_eq t.mod u.mod
  have e3 := bytes_eq t.name u.name
  refine tri_seq_region tt_ok fun K hK => ?_
  simp only [go_sem]
  refine hK _ ?_
  refine tri_seq ?_
  by_cases hall : t.kind = u.kind ∧ t.mod = u.mod ∧ t.name = u.name ∧ t.flds.length = u.flds.length
  ·obtain ⟨h1, h2, h3, h4⟩ := hall
   have d1 : decide (t.kind = u.kind) = true := decide_eq_true h1
   rw [eqb_true h2] at e2
   rw [eqb_true h3] at e3
   have d4 : decide ((t.flds.length : Int) = (u.flds.length : Int)) = true := by simp [h4]
   refine tri_seq_region tt_ok fun K hK => ?_
   simp only [d1,e2,e3,d4,length_encFds,go_sem,reduceAdd,reduceLeDiff]
   refine hK _ ?_
   refine tri_cond rfl (tri_skip ?_)
   show Tri _ _ _ _ _ _
   refine tri_seq ?_
   refine tri_seq_region tt_ok fun K hK => ?_
   simp only [go_sem]
   refine hK _ ?_
   refine tri_block (tri_loop_inv (fun N st => ∃ (i : Nat), N = t.flds.length - i ∧ i ≤ t.flds.length ∧ t.flds.take i = u.flds.take i ∧
    st = { fr := [.undef, .undef, .ptr 0 0, .ptr 1 0, .undef, num i] ++ List.replicate 84 .undef, mem := [.box (tyCells t), .box (tyCells u)] }) t.flds.length ?_ ?_)
   ·exact ⟨2, [false,false,true,true,false,true], by omega, by simp only [maskFr,belowV,reduceLT,mkb], by simp only [List.all_cons,List.all_nil,belowV,belowB,Bool.and_self,List.take_succ_cons,List.take_nil], 0, by omega, by omega, by simp, rfl⟩
   ·rintro N' st ⟨i, rfl, hi, htk, rfl⟩
    simp only [ltb,List.replicate_succ,List.replicate_zero,tyCells]
    refine tri_seq ?_
    by_cases hlt : i < t.flds.length
    ·have hd := lt_dec hlt
     refine tri_seq_region tt_ok fun K hK => ?_
     simp only [length_encFds,hd,go_sem]
     refine hK _ ?_
     refine tri_cond rfl (tri_skip ?_)
     refine tri_seq (tri_block ?_)
     obtain ⟨f, hf⟩ : ∃ f, t.flds[i]? = some f := ⟨_, List.getElem?_eq_getElem hlt⟩
     obtain ⟨g, hg⟩ : ∃ g, u.flds[i]? = some g := ⟨_, List.getElem?_eq_getElem (by omega)⟩
     have hrec := ih f.ty g.ty (by have := Ty.flds_size hf; omega) (by omega)
     rw [encTy_eq, encTy_eq] at hrec
     have no : ¬ f = g → ¬ t = u := fun h e => h (by rw [e, hg] at hf; exact (Option.some.inj hf).symm)
     refine tri_seq_mixed tt_ok mixed_ok [⟨.n, 0, [], []⟩, ⟨.r, 0, [], []⟩, ⟨.n, 0, [], []⟩, ⟨.r, 0, [], []⟩, ⟨.n, 0, [], []⟩, ⟨.r, 0, [], []⟩, ⟨.n, 0, [], []⟩, ⟨.r, 0, [], []⟩, ⟨.n, 0, [], []⟩, ⟨.r, 0, [], []⟩, ⟨.n, 0, [], []⟩, ⟨.r, 0, [], []⟩, ⟨.n, 0, [], []⟩, ⟨.n, 0, [], []⟩, ⟨.n, 0, [], []⟩, ⟨.r, 0, [], []⟩, ⟨.n, 0, [], []⟩, ⟨.r, 0, [], []⟩, ⟨.n, 0, [], []⟩, ⟨.r, 0, [], []⟩, ⟨.n, 0, [], []⟩, ⟨.r, 0, [], []⟩, ⟨.n, 0, [], []⟩, ⟨.r, 0, [], []⟩, ⟨.n, 0, [], []⟩, ⟨.r, 0, [], []⟩, ⟨.n, 0, [], []⟩, ⟨.n, 0, [], []⟩, ⟨.n, 0, [], []⟩, ⟨.n, 0, [], []⟩, ⟨.r, 0, [], []⟩, ⟨.n, 0, [], []⟩, ⟨.r, 0, [], []⟩, ⟨.n, 0, [], []⟩, ⟨.r, 0, [], []⟩, ⟨.n, 0, [], []⟩, ⟨.r, 0, [], []⟩, ⟨.n, 0, [], []⟩, ⟨.r, 0, [], []⟩, ⟨.n, 0, [], []⟩, ⟨.r, 0, [], []⟩, ⟨.n, 0, [], []⟩, ⟨.n, 0, [], []⟩, ⟨.n, 0, [], []⟩] 0 (by kernel_rfl) fun K hK => ?_
     have keepT : ¬ t = u → eqKeep t u i true K := fun hne fr hfr => by
      refine hK _ ?_
      refine tri_mask 2 ([false,false,true,true,false,true] ++ List.replicate 78 false ++ [true]) (by omega) (by rw [hfr]; simp only [ltb,List.replicate_succ,List.replicate_zero,List.all_cons,List.all_nil,belowV,reduceLT,decide_true,Bool.and_self]) (by simp only [tyCells,List.all_cons,List.all_nil,belowV,belowB,Bool.and_self,List.take_succ_cons,List.take_nil]) ?_
      rw [hfr]
      simp only [ltb,List.replicate_succ,List.replicate_zero]
      refine tri_cond rfl ?_
      refine tri_seq_region tt_ok fun K hK => ?_
      simp only [go_sem]
      refine hK _ ?_
      refine tri_ret ⟨.inl rfl, ?_⟩
      rw [eqb_false hne]; rfl
     by_cases h5 : f.name = g.name
     ·by_cases h6 : f.opt = g.opt
      ·by_cases h7 : f.ty = g.ty
       ·rw [eqb_true h7] at hrec
        refine eqReg_ty hf hg rfl h5 h6 true hrec fun fr hfr => ?_
        refine hK _ ?_
        refine tri_mask 2 ([false,false,true,true,false,true] ++ List.replicate 78 false ++ [true]) (by omega) (by rw [hfr]; simp only [ltb,List.replicate_succ,List.replicate_zero,List.all_cons,List.all_nil,belowV,reduceLT,decide_true,Bool.and_self]) (by simp only [tyCells,List.all_cons,List.all_nil,belowV,belowB,Bool.and_self,List.take_succ_cons,List.take_nil]) ?_
        rw [hfr]
        simp only [ltb,List.replicate_succ,List.replicate_zero]
        refine tri_cond rfl (tri_skip ?_)
        show Tri _ _ _ _ _ _
        refine tri_last_region tt_ok fun K hK => ?_
        simp only [go_sem]
        refine hK _ ?_
        have hw2 := i64_succ i (by omega)
        rw [hw2]
        have hfg : f = g := (Fd.ext_iff f g).2 ⟨h5, h6, h7⟩
        exact ⟨t.flds.length - (i + 1), by omega, 2, [false,false,true,true,false,true], by omega, by simp only [maskFr,belowV,reduceLT,mkb], by simp only [tyCells,List.all_cons,List.all_nil,belowV,belowB,Bool.and_self,List.take_succ_cons,List.take_nil], i + 1, rfl, hlt, by rw [List.take_add_one, List.take_add_one, htk, hf, hg, hfg], rfl⟩
       ·rw [eqb_false h7] at hrec
        exact eqReg_ty hf hg rfl h5 h6 false hrec (keepT (no fun e => h7 ((Fd.ext_iff f g).1 e).2.2))
      ·exact eqReg_opt hf hg rfl h5 h6 (keepT (no fun e => h6 ((Fd.ext_iff f g).1 e).2.1))
     ·exact eqReg_name hf hg rfl h5 (keepT (no fun e => h5 ((Fd.ext_iff f g).1 e).1))
    ·have hd := ge_dec hlt
     refine tri_seq_region tt_ok fun K hK => ?_
     simp only [length_encFds,hd,go_sem]
     refine hK _ ?_
     refine tri_cond rfl (tri_exit ?_)
     have hie : i = t.flds.length := by omega
     subst hie
     show Tri _ _ _ _ _ _
     refine tri_seq_region tt_ok fun K hK => ?_
     simp only [go_sem,reduceAdd,reduceLeDiff]
     refine .inl ⟨_, _, by simp only [go_sem], hA, ?_⟩
     try simp only [go_sem]
     refine hK _ ?_
     refine tri_ret ⟨.inl rfl, ?_⟩
     have hfl : t.flds = u.flds := by
      rw [List.take_length] at htk
      rw [htk, h4, List.take_length]
     by_cases h8 : t.args = u.args
     ·rw [eqb_true h8, eqb_true ((Ty.ext_iff t u).2 ⟨h1, h2, h3, h8, hfl⟩)]; rfl
     ·rw [eqb_false h8, eqb_false fun e => h8 ((Ty.ext_iff t u).1 e).2.2.2.1]; rfl
  ·have fin : ∀ x, x = false → eqb t u = x := fun x hx => by
    rw [hx]
    refine eqb_false fun e => hall ?_
    obtain ⟨h1, h2, h3, -, h5⟩ := (Ty.ext_iff t u).1 e
    exact ⟨h1, h2, h3, by rw [h5]⟩
   rw [fin false rfl]
   have no : decide (t.kind = u.kind) = true → eqb t.mod u.mod = true → eqb t.name u.name = true → decide ((t.flds.length : Int) = (u.flds.length : Int)) = true → False := fun a b c d =>
    hall ⟨of_decide_eq_true a, eqb_iff.1 b, eqb_iff.1 c, by have := of_decide_eq_true d; omega⟩
   cases d1 : decide (t.kind = u.kind) with
   | false =>
    refine tri_seq_region tt_ok fun K hK => ?_
    simp only [d1,go_sem,reduceAdd,reduceLeDiff]
    refine hK _ ?_
    refine tri_cond rfl ?_
    refine tri_seq_region tt_ok fun K hK => ?_
    simp only [go_sem]
    refine hK _ ?_
    exact tri_ret ⟨.inl rfl, rfl⟩
   | true =>
    cases d2 : eqb t.mod u.mod with
    | false =>
     rw [d2] at e2
     refine tri_seq_region tt_ok fun K hK => ?_
     simp only [d1,e2,go_sem,reduceAdd,reduceLeDiff]
     refine hK _ ?_
     refine tri_cond rfl ?_
     refine tri_seq_region tt_ok fun K hK => ?_
     simp only [go_sem]
     refine hK _ ?_
     exact tri_ret ⟨.inl rfl, rfl⟩
    | true =>
     rw [d2] at e2
     cases d3 : eqb t.name u.name with
     | false =>
      rw [d3] at e3
      refine tri_seq_region tt_ok fun K hK => ?_
      simp only [d1,e2,e3,go_sem,reduceAdd,reduceLeDiff]
      refine hK _ ?_
      refine tri_cond rfl ?_
      refine tri_seq_region tt_ok fun K hK => ?_
      simp only [go_sem]
      refine hK _ ?_
      exact tri_ret ⟨.inl rfl, rfl⟩
     | true =>
      rw [d3] at e3
      cases d4 : decide ((t.flds.length : Int) = (u.flds.length : Int)) with
      | false =>
       refine tri_seq_region tt_ok fun K hK => ?_
       simp only [d1,e2,e3,d4,length_encFds,go_sem,reduceAdd,reduceLeDiff]
       refine hK _ ?_
       refine tri_cond rfl ?_
       refine tri_seq_region tt_ok fun K hK => ?_
       simp only [go_sem]
       refine hK _ ?_
       exact tri_ret ⟨.inl rfl, rfl⟩
      | true => exact (no d1 d2 d3 d4).elim
end Go.Proofs.YtpjdfcigadnhcaaGreatDoor
end

section
namespace Go.Proofs.YtpjdfcigadnhcaaGreatDoor
open Go.Eng
open Nat (reduceAdd reduceLT reduceLeDiff reduceMul reduceEqDiff reduceSub)
variable [Glob]
set_option maxRecDepth 100000
set_option maxHeartbeats 2000000
attribute [local irreducible] runM stepM valD
noncomputable def Dc.clear (d : Dc) : Bool := eqb d.lower d.upper && eqb d.upper d.type
theorem Dc.clear_ref (d : Dc) : (eqb d.lower d.type && eqb d.upper d.type) = d.clear := by
 rw [Bool.eq_iff_iff]
 simp only [Dc.clear,Bool.and_eq_true,eqb_iff]
 exact ⟨fun h => ⟨h.1.trans h.2.symm, h.2⟩, fun h => ⟨h.1.trans h.2, h.2⟩⟩
noncomputable def Dc.size (d : Dc) : Nat :=
 1 + d.params.length + (if d.kind = 0 then d.type.size + (if d.clear = true then 0 else d.lower.size + d.upper.size)
  else if d.kind = 1 then d.type.size + d.expr.size + sumBy (fun p => p.bound.size) d.params else 0)
theorem Dc.size_le (d : Dc) : d.size ≤ d.bulk := by
 have := Ex.size_le_bulk _ d.expr (Nat.le_refl _)
 unfold Dc.size Dc.bulk
 split
 ·split <;> omega
 ·split <;> omega
noncomputable def Md.size (m : Md) : Nat := 1 + m.imports.length + sumBy Dc.size m.decls

theorem sclear_ok (d : Dc) (hd : d.bulk ≤ 1048576) : FnOk Tryz.prog 55 [encDc d] (bl d.clear) := by
 unfold Dc.bulk at hd
 have hA := seqTy_ok d.lower.size d.lower d.upper (Nat.le_refl _) (by omega)
 have hB := seqTy_ok d.upper.size d.upper d.type (Nat.le_refl _) (by omega)
 rw [encTy_eq, encTy_eq] at hA hB
 simp only [tyCells] at hA hB
 refine fn_ok tt_ok (fn := Tryz.f55) Tryz.func55 rfl Tryz.call55 ?_
 simp only [ltb,startSt,Tryz.ntmps55,List.length_cons,List.length_nil,reduceAdd,reduceSub,List.replicate_succ,List.replicate_zero]
 rw [encDc_eq]
 simp only [ltb,dcCells,tyCells,exCells]
 refine tri_seq_region tt_ok fun K hK => ?_
 simp only [go_sem,reduceIte,reduceAdd,reduceLT,reduceLeDiff,reduceMul,reduceEqDiff,reduceSub,reduceCtorEq]
 refine hK _ ?_
 unfold Dc.clear
 cases h1 : eqb d.lower d.upper with
 | false =>
  rw [h1] at hA
  refine tri_seq_region tt_ok fun K hK => ?_
  simp only [go_sem,reduceIte,reduceAdd,reduceLT,reduceLeDiff,reduceMul,reduceEqDiff,reduceSub,reduceCtorEq]
  refine .inl ⟨_, _, by simp only [go_sem,reduceIte,reduceAdd,reduceLT,reduceLeDiff,reduceMul,reduceEqDiff,reduceSub,reduceCtorEq,List.take_length], hA, ?_⟩
  try simp only [go_sem,reduceIte,reduceAdd,reduceLT,reduceLeDiff,reduceMul,reduceEqDiff,reduceSub,reduceCtorEq]
  refine hK _ ?_
  exact tri_ret ⟨.inl rfl, rfl⟩
 | true =>
  rw [h1] at hA
  refine tri_seq_region tt_ok fun K hK => ?_
  simp only [go_sem,reduceIte,reduceAdd,reduceLT,reduceLeDiff,reduceMul,reduceEqDiff,reduceSub,reduceCtorEq]
  refine .inl ⟨_, _, by simp only [go_sem,reduceIte,reduceAdd,reduceLT,reduceLeDiff,reduceMul,reduceEqDiff,reduceSub,reduceCtorEq,List.take_length], hA, ?_⟩
  try simp only [go_sem,reduceIte,reduceAdd,reduceLT,reduceLeDiff,reduceMul,reduceEqDiff,reduceSub,reduceCtorEq]
  refine .inl ⟨_, _, by simp only [go_sem,reduceIte,reduceAdd,reduceLT,reduceLeDiff,reduceMul,reduceEqDiff,reduceSub,reduceCtorEq,List.take_length], hB, ?_⟩
  try simp only [go_sem,reduceIte,reduceAdd,reduceLT,reduceLeDiff,reduceMul,reduceEqDiff,reduceSub,reduceCtorEq]
  refine hK _ ?_
  exact tri_ret ⟨.inl rfl, rfl⟩
theorem rclear_ok (d : Dc) (hd : d.bulk ≤ 1048576) : FnOk Tryz.prog 50 [encDc d] (bl d.clear) := by
 unfold Dc.bulk at hd
 have hA := reqTy_ok d.lower.size d.lower d.type (Nat.le_refl _) (by omega)
 have hB := reqTy_ok d.upper.size d.upper d.type (Nat.le_refl _) (by omega)
 rw [encTy_eq, encTy_eq] at hA hB
 simp only [tyCells] at hA hB
 rw [← Dc.clear_ref]
 refine fn_ok tt_ok (fn := Tryz.f50) Tryz.func50 rfl Tryz.call50 ?_
 simp only [ltb,startSt,Tryz.ntmps50,List.length_cons,List.length_nil,reduceAdd,reduceSub,List.replicate_succ,List.replicate_zero]
 rw [encDc_eq]
 simp only [ltb,dcCells,tyCells,exCells]
 refine tri_seq_region tt_ok fun K hK => ?_
 simp only [go_sem,reduceIte,reduceAdd,reduceLT,reduceLeDiff,reduceMul,reduceEqDiff,reduceSub,reduceCtorEq]
 refine hK _ ?_
 cases h1 : eqb d.lower d.type with
 | false =>
  rw [h1] at hA
  refine tri_seq_region tt_ok fun K hK => ?_
  simp only [go_sem,reduceIte,reduceAdd,reduceLT,reduceLeDiff,reduceMul,reduceEqDiff,reduceSub,reduceCtorEq]
  refine .inl ⟨_, _, by simp only [go_sem,reduceIte,reduceAdd,reduceLT,reduceLeDiff,reduceMul,reduceEqDiff,reduceSub,reduceCtorEq,List.take_length], hA, ?_⟩
  try simp only [go_sem,reduceIte,reduceAdd,reduceLT,reduceLeDiff,reduceMul,reduceEqDiff,reduceSub,reduceCtorEq]
  refine hK _ ?_
  exact tri_ret ⟨.inl rfl, rfl⟩
 | true =>
  rw [h1] at hA
  refine tri_seq_region tt_ok fun K hK => ?_
  simp only [go_sem,reduceIte,reduceAdd,reduceLT,reduceLeDiff,reduceMul,reduceEqDiff,reduceSub,reduceCtorEq]
  refine .inl ⟨_, _, by simp only [go_sem,reduceIte,reduceAdd,reduceLT,reduceLeDiff,reduceMul,reduceEqDiff,reduceSub,reduceCtorEq,List.take_length], hA, ?_⟩
  try simp only [go_sem,reduceIte,reduceAdd,reduceLT,reduceLeDiff,reduceMul,reduceEqDiff,reduceSub,reduceCtorEq]
  refine .inl ⟨_, _, by simp only [go_sem,reduceIte,reduceAdd,reduceLT,reduceLeDiff,reduceMul,reduceEqDiff,reduceSub,reduceCtorEq,List.take_length], hB, ?_⟩
  try simp only [go_sem,reduceIte,reduceAdd,reduceLT,reduceLeDiff,reduceMul,reduceEqDiff,reduceSub,reduceCtorEq]
  refine hK _ ?_
  exact tri_ret ⟨.inl rfl, rfl⟩
end Go.Proofs.YtpjdfcigadnhcaaGreatDoor
end

section
namespace Go.Proofs.YtpjdfcigadnhcaaGreatDoor
open Go.Eng
open Nat (reduceAdd reduceLT reduceLeDiff reduceMul reduceEqDiff reduceSub)
variable [Glob]
set_option maxRecDepth 100000
set_option maxHeartbeats 4000000
attribute [local irreducible] runM stepM valD
theorem get_decls (l : List Dc) (i : Nat) {d : Dc} (h : l[i]? = some d) : (l.map encDc)[i]? = some (.agg (dcCells d)) := by rw [List.getElem?_map, h]; rfl
theorem get_params (l : List Pm) (i : Nat) {p : Pm} (h : l[i]? = some p) : (l.map encPm)[i]? = some (.agg ([str p.name, num p.variance] ++ tyCells p.bound)) := by rw [List.getElem?_map, h]; rfl

theorem smsize_ok (m : Md) (hm : m.bulk ≤ 1048576) : FnOk Tryz.prog 19 [encMd m] (num m.size) := by
 unfold Md.bulk at hm
 have hdl := length_le_sum Dc.bulk Dc.bulk_pos m.decls
 have hle : ∀ i, sumBy Dc.size (m.decls.take i) ≤ 1048576 := fun i => by
  have h1 := sumBy_take_le Dc.bulk m.decls i
  have h2 : ∀ l : List Dc, sumBy Dc.size l ≤ sumBy Dc.bulk l := fun l => by
   induction l with
   | nil => simp [sumBy]
   | cons a r ih => have := Dc.size_le a; simp only [sumBy]; omega
  have := h2 (m.decls.take i); omega
 refine fn_ok tt_ok (fn := Tryz.f19) Tryz.func19 rfl Tryz.call19 ?_
 simp only [ltb,startSt,Tryz.ntmps19,List.length_cons,List.length_nil,reduceAdd,reduceSub,List.replicate_succ,List.replicate_zero]
 rw [encMd_eq]
 simp only [mdCells]
 refine tri_seq_region tt_ok fun K hK => ?_
 simp only [go_sem]
 refine hK _ ?_
 refine tri_seq_region tt_ok fun K hK => ?_
 simp only [List.length_map,go_sem,reduceAdd,reduceLeDiff]
 refine hK _ ?_
 have hw1 := i64_c (1 + (m.imports.length : Int)) (1 + m.imports.length) (by omega) (by omega)
 rw [hw1]
 refine tri_seq ?_
 refine tri_seq_region tt_ok fun K hK => ?_
 simp only [List.length_map,go_sem]
 refine hK _ ?_
 refine tri_block (tri_loop_inv (fun N st => ∃ (i : Nat), N = m.decls.length - i ∧ i ≤ m.decls.length ∧
  st = { fr := [.undef, .undef, .undef, num ((1 + m.imports.length + sumBy Dc.size (m.decls.take i) : Nat)), .undef, .undef, .undef, .undef, .undef, .undef, .undef, .undef, .undef, .slice (m.decls.map encDc), num m.decls.length, num i] ++ List.replicate 56 .undef, mem := [] }) m.decls.length ?_ ?_)
 ·exact ⟨0, (false::false::false::true::(rp 9 false [true,true,true])), by omega, by simp only [maskFr,belowV,mkb], rfl, 0, by omega, by omega, rfl⟩
 ·rintro N' st ⟨i, rfl, hi, rfl⟩
  simp only [ltb,List.replicate_succ,List.replicate_zero]
  by_cases hlt : i < m.decls.length
  ·have hd := lt_dec hlt
   refine tri_seq_region tt_ok fun K hK => ?_
   simp only [hd,go_sem]
   refine hK _ ?_
   refine tri_seq (tri_cond rfl (tri_skip ?_))
   refine tri_seq (tri_block ?_)
   obtain ⟨d, hdd⟩ : ∃ d, m.decls[i]? = some d := ⟨_, List.getElem?_eq_getElem hlt⟩
   have hds := sumBy_mem Dc.bulk hdd
   have hdb : d.bulk = 1 + d.params.length + sumBy (fun p => p.bound.size) d.params + d.lower.size + d.upper.size + d.type.size + d.expr.bulk := rfl
   have hts := sumBy_take_succ Dc.size hdd
   have hsz := d.size_le
   have hT := stsize_ok d.type (by omega)
   have hL := stsize_ok d.lower (by omega)
   have hU := stsize_ok d.upper (by omega)
   have hE := sesize_ok d.expr (by omega)
   have hC := sclear_ok d (by omega)
   have hse := Ex.size_le_bulk _ d.expr (Nat.le_refl _)
   have hln := hle (i + 1)
   have hl0 := hle i
   rw [encTy_eq] at hT hL hU
   rw [encEx_eq] at hE
   rw [encDc_eq] at hC
   simp only [ltb,tyCells,exCells,dcCells] at hT hL hU hE hC
   have hdc := get_decls m.decls i hdd
   simp only [ltb,tyCells,exCells,dcCells] at hdc
   have hw2 := i64_succ i (by omega)
   have hw3 := i64_c (1 + (d.params.length : Int)) (1 + d.params.length) (by omega) (by omega)
   have hw4 := i64_c (((1 + m.imports.length + sumBy Dc.size (m.decls.take i) : Nat) : Int) + ((1 + d.params.length : Nat) : Int)) (1 + m.imports.length + sumBy Dc.size (m.decls.take i) + (1 + d.params.length)) (by omega) (by omega)
   obtain ⟨S, hS⟩ : ∃ S, S = 1 + m.imports.length + sumBy Dc.size (m.decls.take i) + (1 + d.params.length) := ⟨_, rfl⟩
   rw [← hS] at hw4
   refine tri_seq_region tt_ok fun K hK => ?_
   simp only [hdc,go_sem,reduceAdd]
   refine hK _ ?_
   refine tri_seq_region tt_ok fun K hK => ?_
   simp only [List.length_map,hw3,hw4,go_sem,reduceAdd,reduceLeDiff]
   refine hK _ ?_
   refine tri_seq_region tt_ok fun K hK => ?_
   simp only [go_sem,reduceAdd,reduceLeDiff]
   refine hK _ ?_
   refine tri_block ?_
   by_cases h0 : d.kind = 0
   ·have d0 : decide (d.kind = 0) = true := decide_eq_true h0
    refine tri_seq_region tt_ok fun K hK => ?_
    simp only [d0,go_sem]
    refine hK _ ?_
    refine tri_cond rfl ?_
    show Tri _ _ _ _ _ _
    refine tri_seq_region tt_ok fun K hK => ?_
    simp only [go_sem,reduceAdd,reduceLeDiff]
    refine .inl ⟨_, _, by simp only [go_sem], hT, ?_⟩
    try simp only [go_sem]
    refine hK _ ?_
    have hw5 := i64_c ((S : Int) + (d.type.size : Int)) (S + d.type.size) (by omega) (by omega)
    rw [hw5]
    cases hcl : d.clear with
    | true =>
     have hdz : d.size = 1 + d.params.length + d.type.size := by unfold Dc.size; rw [if_pos h0, if_pos hcl, Nat.add_zero]
     rw [hcl] at hC
     refine tri_seq_region tt_ok fun K hK => ?_
     simp only [go_sem,reduceAdd]
     refine .inl ⟨_, _, by simp only [go_sem], hC, ?_⟩
     try simp only [go_sem]
     refine hK _ ?_
     refine tri_cond rfl (tri_skip ?_)
     show Tri _ _ _ _ _ _
     refine tri_last_region tt_ok fun K hK => ?_
     simp only [go_sem]
     refine hK _ ?_
     rw [hw2]
     have hfin : S + d.type.size = 1 + m.imports.length + sumBy Dc.size (m.decls.take (i + 1)) := by omega
     rw [hfin]
     exact ⟨m.decls.length - (i + 1), by omega, 0, (false::false::false::true::(rp 9 false [true,true,true])), by omega, by simp only [maskFr,belowV,mkb], rfl, i + 1, rfl, hlt, by simp [rp,maskFr]⟩
    | false =>
     have hdz : d.size = 1 + d.params.length + (d.type.size + (d.lower.size + d.upper.size)) := by unfold Dc.size; rw [if_pos h0, if_neg (by rw [hcl]; simp)]
     rw [hcl] at hC
     refine tri_seq_region tt_ok fun K hK => ?_
     simp only [go_sem,reduceAdd]
     refine .inl ⟨_, _, by simp only [go_sem], hC, ?_⟩
     try simp only [go_sem]
     refine hK _ ?_
     refine tri_cond rfl ?_
     show Tri _ _ _ _ _ _
     refine tri_last_mixed tt_ok mixed_ok [⟨.n, 0, [], []⟩, ⟨.n, 0, [], []⟩, ⟨.r, 0, [], []⟩, ⟨.n, 0, [], []⟩, ⟨.n, 0, [], []⟩, ⟨.r, 0, [], []⟩, ⟨.n, 0, [], []⟩, ⟨.n, 0, [], []⟩, ⟨.n, 0, [], []⟩, ⟨.n, 0, [], []⟩] 0 (by kernel_rfl) fun K hK => ?_
     simp only [go_sem,reduceAdd,reduceLeDiff,List.replicate]
     refine ⟨_, _, by simp only [go_sem], .inl (hL), ?_⟩
     try simp only [go_sem,reduceAdd,reduceLeDiff]
     refine ⟨_, _, by simp only [go_sem], .inl (hU), ?_⟩
     try simp only [go_sem]
     refine hK _ ?_
     have hw6 := i64_c ((d.lower.size : Int) + (d.upper.size : Int)) (d.lower.size + d.upper.size) (by omega) (by omega)
     rw [hw6]
     have hw7 := i64_c (((S + d.type.size : Nat) : Int) + ((d.lower.size + d.upper.size : Nat) : Int)) (S + d.type.size + (d.lower.size + d.upper.size)) (by omega) (by omega)
     rw [hw7]
     show Tri _ _ _ _ _ _
     refine tri_last_region tt_ok fun K hK => ?_
     simp only [go_sem]
     refine hK _ ?_
     rw [hw2]
     have hfin : S + d.type.size + (d.lower.size + d.upper.size) = 1 + m.imports.length + sumBy Dc.size (m.decls.take (i + 1)) := by omega
     rw [hfin]
     exact ⟨m.decls.length - (i + 1), by omega, 0, (false::false::false::true::(rp 9 false [true,true,true])), by omega, by simp only [maskFr,belowV,mkb], rfl, i + 1, rfl, hlt, by simp [rp,maskFr]⟩
   ·have d0 : decide (d.kind = 0) = false := decide_eq_false h0
    refine tri_seq_region tt_ok fun K hK => ?_
    simp only [d0,go_sem]
    refine hK _ ?_
    refine tri_cond rfl ?_
    show Tri _ _ _ _ _ _
    by_cases h1 : d.kind = 1
    ·have d1 : decide (d.kind = 1) = true := decide_eq_true h1
     have hdz : d.size = 1 + d.params.length + (d.type.size + d.expr.size + sumBy (fun p => p.bound.size) d.params) := by unfold Dc.size; rw [if_neg h0, if_pos h1]
     refine tri_seq_region tt_ok fun K hK => ?_
     simp only [d1,go_sem]
     refine hK _ ?_
     refine tri_cond rfl ?_
     show Tri _ _ _ _ _ _
     refine tri_seq_mixed tt_ok mixed_ok [⟨.n, 0, [], []⟩, ⟨.n, 0, [], []⟩, ⟨.r, 0, [], []⟩, ⟨.n, 0, [], []⟩, ⟨.n, 0, [], []⟩, ⟨.r, 0, [], []⟩, ⟨.n, 0, [], []⟩, ⟨.n, 0, [], []⟩, ⟨.n, 0, [], []⟩, ⟨.n, 0, [], []⟩] 0 (by kernel_rfl) fun K hK => ?_
     simp only [go_sem,reduceAdd,reduceLeDiff,List.replicate]
     refine ⟨_, _, by simp only [go_sem], .inl (hT), ?_⟩
     try simp only [go_sem,reduceAdd,reduceLeDiff]
     refine ⟨_, _, by simp only [go_sem], .inl (hE), ?_⟩
     try simp only [go_sem]
     refine hK _ ?_
     have hw5 := i64_c ((d.type.size : Int) + (d.expr.size : Int)) (d.type.size + d.expr.size) (by omega) (by omega)
     rw [hw5]
     have hw6 := i64_c ((S : Int) + ((d.type.size + d.expr.size : Nat) : Int)) (S + (d.type.size + d.expr.size)) (by omega) (by omega)
     rw [hw6]
     obtain ⟨S1, hS1⟩ : ∃ S1, S1 = S + (d.type.size + d.expr.size) := ⟨_, rfl⟩
     rw [← hS1]
     refine tri_seq_region tt_ok fun K hK => ?_
     simp only [List.length_map,go_sem,reduceAdd,reduceLeDiff]
     refine hK _ ?_
     refine tri_block (tri_loop_inv (fun N st => ∃ (j : Nat), N = d.params.length - j ∧ j ≤ d.params.length ∧
      st = { fr := [.undef, .undef, .undef, num ((S1 + sumBy (fun p => p.bound.size) (d.params.take j) : Nat)), .undef, .undef, .undef, .undef, .undef, .undef, .undef, .undef, .undef, .slice (m.decls.map encDc), num m.decls.length, num i] ++ List.replicate 42 .undef ++ [.slice (d.params.map encPm), num d.params.length, num j] ++ List.replicate 11 .undef, mem := [] }) d.params.length ?_ ?_)
     ·exact ⟨0, (false::false::false::true::(rp 9 false [true,true,true])) ++ List.replicate 42 false ++ [true,true,true], by omega, by simp only [List.replicate_succ,List.replicate_zero,List.cons_append,List.nil_append,maskFr,belowV,mkb], rfl, 0, by omega, by omega, rfl⟩
     ·rintro N' st ⟨j, rfl, hj, rfl⟩
      simp only [ltb,List.replicate_succ,List.replicate_zero]
      by_cases hlt2 : j < d.params.length
      ·have hd2 := lt_dec hlt2
       obtain ⟨p, hp⟩ : ∃ p, d.params[j]? = some p := ⟨_, List.getElem?_eq_getElem hlt2⟩
       have hps := sumBy_mem (fun p : Pm => p.bound.size) hp
       have hpt := sumBy_take_succ (fun p : Pm => p.bound.size) hp
       have hpl := sumBy_take_le (fun p : Pm => p.bound.size) d.params (j + 1)
       have hP := stsize_ok p.bound (by omega)
       rw [encTy_eq] at hP
       simp only [tyCells] at hP
       have hpc := get_params d.params j hp
       simp only [ltb,tyCells] at hpc
       have hw7 := i64_c (((S1 + sumBy (fun p => p.bound.size) (d.params.take j) : Nat) : Int) + (p.bound.size : Int)) (S1 + sumBy (fun p => p.bound.size) (d.params.take (j + 1))) (by omega) (by omega)
       have hw8 := i64_succ j (by omega)
       refine tri_seq_region tt_ok fun K hK => ?_
       simp only [hd2,go_sem]
       refine hK _ ?_
       refine tri_seq (tri_cond rfl (tri_skip ?_))
       refine tri_seq (tri_block ?_)
       refine tri_seq_region tt_ok fun K hK => ?_
       simp only [hpc,go_sem,reduceAdd]
       refine hK _ ?_
       refine tri_last_region tt_ok fun K hK => ?_
       simp only [go_sem,reduceAdd]
       refine .inl ⟨_, _, by simp only [go_sem], hP, ?_⟩
       try simp only [go_sem]
       refine hK _ ?_
       rw [hw7]
       show Tri _ _ _ _ _ _
       refine tri_last_region tt_ok fun K hK => ?_
       simp only [go_sem]
       refine hK _ ?_
       rw [hw8]
       exact ⟨d.params.length - (j + 1), by omega, 0, (false::false::false::true::(rp 9 false [true,true,true])) ++ List.replicate 42 false ++ [true,true,true], by omega, by simp only [List.replicate_succ,List.replicate_zero,List.cons_append,List.nil_append,maskFr,belowV,mkb], rfl, j + 1, rfl, hlt2, by simp [rp,maskFr]⟩
      ·have hd2 := ge_dec hlt2
       have hje : j = d.params.length := by omega
       subst hje
       refine tri_seq_region tt_ok fun K hK => ?_
       simp only [hd2,go_sem]
       refine hK _ ?_
       refine tri_seq (tri_cond rfl (tri_exit ?_))
       rw [List.take_length]
       show Tri _ _ _ _ _ _
       refine tri_last_region tt_ok fun K hK => ?_
       simp only [go_sem]
       refine hK _ ?_
       rw [hw2]
       have hfin : S1 + sumBy (fun p => p.bound.size) d.params = 1 + m.imports.length + sumBy Dc.size (m.decls.take (i + 1)) := by omega
       rw [hfin]
       exact ⟨m.decls.length - (i + 1), by omega, 0, (false::false::false::true::(rp 9 false [true,true,true])), by omega, by simp only [maskFr,belowV,mkb], rfl, i + 1, rfl, hlt, by simp [rp,maskFr]⟩
    ·have d1 : decide (d.kind = 1) = false := decide_eq_false h1
     have hdz : d.size = 1 + d.params.length := by unfold Dc.size; rw [if_neg h0, if_neg h1]; rfl
     refine tri_seq_region tt_ok fun K hK => ?_
     simp only [d1,go_sem]
     refine hK _ ?_
     refine tri_cond rfl (tri_skip ?_)
     show Tri _ _ _ _ _ _
     refine tri_last_region tt_ok fun K hK => ?_
     simp only [go_sem]
     refine hK _ ?_
     rw [hw2]
     have hfin : S = 1 + m.imports.length + sumBy Dc.size (m.decls.take (i + 1)) := by omega
     rw [hfin]
     exact ⟨m.decls.length - (i + 1), by omega, 0, (false::false::false::true::(rp 9 false [true,true,true])), by omega, by simp only [maskFr,belowV,mkb], rfl, i + 1, rfl, hlt, by simp [rp,maskFr]⟩
  ·have hd := ge_dec hlt
   refine tri_seq_region tt_ok fun K hK => ?_
   simp only [hd,go_sem]
   refine hK _ ?_
   refine tri_seq (tri_cond rfl (tri_exit ?_))
   have hie : i = m.decls.length := by omega
   subst hie
   show Tri _ _ _ _ _ _
   refine tri_seq_region tt_ok fun K hK => ?_
   simp only [go_sem]
   refine hK _ ?_
   refine tri_ret ⟨.inl rfl, ?_⟩
   rw [List.take_length]
   rfl
end Go.Proofs.YtpjdfcigadnhcaaGreatDoor
end

section
namespace Go.Proofs.YtpjdfcigadnhcaaGreatDoor
open Go.Eng
open Nat (reduceAdd reduceLT reduceLeDiff reduceMul reduceEqDiff reduceSub)
variable [Glob]
set_option maxHeartbeats 4000000
set_option maxRecDepth 100000
attribute [local irreducible] runM stepM valD stepOp stepD callF callS
theorem cutTo {α : Type} (l : List α) (f : α → V) (size : Nat) (hs : ∀ a, (f a).cells.length = size) (i : Nat) (hi : i ≤ l.length) (mem : List Blk) : cutAt mem size 0 (some (i : Int)) (.slice (l.map f)) = some (.slice ((l.take i).map f)) := by
 unfold cutAt
 have h1 : firstOk (l.map f) (0 : Int).toNat size = true := by
  unfold firstOk; split
  ·rename_i h; simp at h; obtain ⟨t, -, rfl⟩ := h; simp [hs]
  ·rfl
 simp only [Option.getD_some]
 rw [if_pos ⟨Int.le_refl _, by omega, by simpa using hi, h1⟩]
 simp [List.map_take]
theorem head_tot (hG : Glob.g = some 0) (m : Md) (hw : m.wt ≤ 1048576) : ∃ r, isN r ∧ FnOk Tryz.prog 76 [encMd m] r := by
 refine fn_ex tt_ok (fn := Tryz.f76) Tryz.func76 rfl Tryz.call76 ?_
 simp only [ltb,startSt,Tryz.ntmps76,List.length_cons,List.length_nil,reduceAdd,reduceSub,List.replicate_succ,List.replicate_zero]
 have hmw : m.wt = 1 + m.path.size + sumBy Im.wt m.imports + sumBy Dc.wt m.decls := rfl
 have hmb := m.bulk_le_wt
 have hil : m.imports.length ≤ 1048576 := by have := length_le_sum Im.wt (fun l => by unfold Im.wt; omega) m.imports; omega
 simp only [encMd_eq,mdCells]
 refine ex_region_w tt_ok 59 [0,2,2] [] rfl rfl fun K hK => ?_
 simp only [ltb,go_sem,reduceLT]
 refine hK _ _ rfl ?_
 simp only [mwb,reduceAdd,reduceEqDiff]
 refine ex_seq ?_
 refine ex_block ?_
 refine ex_region_w tt_ok 59 [0,0,0,0,0,2,1,1,1,1] [] rfl rfl fun K hK => ?_
 refine runX_cut 3 fun K1 hK1 => ?_
 simp only [ltb,go_sem,reduceAdd,reduceLT,reduceLeDiff,reduceEqDiff]
 refine callF_ex (isPath_tot hG m.path (by omega)) ?_
 rintro _ ⟨r1, rfl⟩
 try simp only [go_sem]
 refine hK1 _ ?_
 simp only [ltb,go_sem,reduceLT,reduceEqDiff]
 refine hK _ _ rfl ?_
 simp only [mwb,reduceAdd,reduceEqDiff]
 refine ex_if rfl (fun hc5 => ?_) (fun hc5 => ?_)
 ·refine ex_region_w tt_ok 59 [0,0,2] [] rfl rfl fun K hK => ?_
  simp only [ltb,go_sem]
  refine hK _ _ rfl ?_
  simp only [mwb,reduceAdd]
  exact ex_ret ⟨.inl rfl, _, ⟨_, rfl⟩, rfl⟩
 ·refine ex_region_w tt_ok 59 (rp 10 0 (2::(rp 15 1 []))) [(4, 15), (10, 21)] rfl rfl fun K hK => ?_
  refine runX_cut 5 fun K1 hK1 => ?_
  simp only [ltb]
  simp only [List.length_map,go_sem,reduceAdd,reduceLT,reduceLeDiff,reduceEqDiff]
  refine hK1 _ ?_
  refine runX_case 15 (by rfl) fun b hb3_4 => ?_
  cases b
  ·refine runX_cut 6 fun K1 hK1 => ?_
   simp only [ltb]
   simp only [List.length_map,go_sem,reduceLT,reduceEqDiff]
   refine hK1 _ ?_
   refine runX_case 21 (by rfl) fun b hb3_10 => ?_
   cases b
   ·refine runX_cut 2 fun K1 hK1 => ?_
    simp only [ltb,go_sem,reduceAdd,reduceLT,reduceEqDiff]
    refine callF_ex (by have h := smsize_ok m (by omega); rw [encMd_eq] at h; simp only [mdCells] at h; exact isN_of h) ?_
    rintro _ ⟨r2, rfl⟩
    try simp only [go_sem]
    refine hK1 _ ?_
    simp only [ltb,go_sem,reduceLT,reduceEqDiff]
    refine hK _ _ rfl ?_
    simp only [mwb,reduceAdd,reduceEqDiff]
    refine ex_if rfl (fun hc10 => ?_) (fun hc10 => ?_)
    ·refine ex_region_w tt_ok 59 [0,0,2] [] rfl rfl fun K hK => ?_
     simp only [ltb,go_sem]
     refine hK _ _ rfl ?_
     simp only [mwb,reduceAdd]
     exact ex_ret ⟨.inl rfl, _, ⟨_, rfl⟩, rfl⟩
    ·refine ex_skip ?_
     show Go.Eng.Ex _ _ _ _ _ _
     refine ex_seq ?_
     refine ex_region_w tt_ok 59 (rp 26 0 [1,2,2,2]) [] rfl rfl fun K hK => ?_
     try simp only [ltb]
     simp only [List.length_map,go_sem,reduceAdd,reduceLT,reduceLeDiff,reduceEqDiff]
     refine hK _ _ rfl ?_
     simp only [mwb,reduceAdd,reduceEqDiff]
     refine ex_block ?_
     refine ex_range 29 (m.imports.length) 1 (false::true::true::false::false::true::false::false::false::false::true::(rp 16 false [true,true,true])) (by omega) (by simp only [maskFr,belowV,reduceLT,mkb]) (by simp only [List.all_cons,List.all_nil,belowV,belowB,Bool.and_self,List.take_succ_cons,List.take_nil]) (by rfl) fun i hii => ?_
     simp only [maskFr,List.set_cons_zero,List.set_cons_succ,mkb]
     refine ex_region_w tt_ok 59 (rp 30 0 [2]) [] rfl rfl fun K hK => ?_
     simp only [ltb,go_sem,reduceLT]
     refine hK _ _ rfl ?_
     simp only [mwb,reduceAdd]
     refine ex_seq ?_
     refine ex_if rfl (fun hc30 => ?_) (fun hc30 => ?_)
     ·have hlti : i < (m.imports.length) := by simpa using hc30
      obtain ⟨y, hx⟩ : ∃ y, m.imports[i]? = some y := ⟨_, List.getElem?_eq_getElem hlti⟩
      have hyw := sumBy_mem Im.wt hx
      have hyd : y.wt = 1 + y.path.size + y.alias.size := rfl
      have hcut := cutTo m.imports encIm 2 (fun _ => rfl) i (by omega)
      refine ex_skip ?_
      show Go.Eng.Ex _ _ _ _ _ _
      refine ex_seq ?_
      refine ex_block ?_
      refine ex_region_w tt_ok 59 (0::0::0::2::2::(rp 26 0 [1,1,1])) [] rfl rfl fun K hK => ?_
      try simp only [ltb]
      simp only [List.getElem?_map,hx,encIm,go_sem,reduceAdd,reduceLT,reduceEqDiff]
      refine hK _ _ rfl ?_
      simp only [mwb,reduceAdd,reduceEqDiff]
      refine ex_block ?_
      refine ex_region_w tt_ok 59 (rp 34 0 (2::(rp 10 1 []))) [(4, 39)] rfl rfl fun K hK => ?_
      refine runX_cut 3 fun K1 hK1 => ?_
      simp only [ltb,go_sem,reduceAdd,reduceLT,reduceLeDiff,reduceEqDiff]
      refine callF_ex (isPath_tot hG y.path (by omega)) ?_
      rintro _ ⟨r3, rfl⟩
      try simp only [go_sem]
      refine hK1 _ ?_
      refine runX_cut 2 fun K1 hK1 => ?_
      simp only [ltb,go_sem,reduceAdd,reduceLT,reduceEqDiff]
      refine hK1 _ ?_
      refine runX_case 39 (by rfl) fun b hb8_4 => ?_
      cases b
      ·refine runX_cut 3 fun K1 hK1 => ?_
       simp only [ltb,go_sem,reduceAdd,reduceLT,reduceEqDiff]
       refine callF_ex (isName_tot hG _) ?_
       rintro _ ⟨r4, rfl⟩
       try simp only [go_sem]
       refine hK1 _ ?_
       simp only [ltb,go_sem,reduceAdd,reduceLT,reduceEqDiff]
       refine hK _ _ rfl ?_
       simp only [mwb,reduceAdd,reduceEqDiff]
       refine ex_if rfl (fun hc34 => ?_) (fun hc34 => ?_)
       ·refine ex_region_w tt_ok 59 [0,0,2] [] rfl rfl fun K hK => ?_
        simp only [ltb,go_sem,reduceAdd]
        refine hK _ _ rfl ?_
        simp only [mwb,reduceAdd]
        exact ex_ret ⟨.inl rfl, _, ⟨_, rfl⟩, rfl⟩
       ·refine ex_region_w tt_ok 59 (rp 45 0 [2,1,1,1,1,1]) [] rfl rfl fun K hK => ?_
        simp only [ltb,go_sem,reduceAdd,reduceLT,reduceLeDiff,reduceEqDiff]
        refine hK _ _ rfl ?_
        simp only [mwb,reduceAdd,reduceEqDiff]
        refine ex_if rfl (fun hc45 => ?_) (fun hc45 => ?_)
        ·refine ex_region_w tt_ok 59 [0,0,2] [] rfl rfl fun K hK => ?_
         simp only [ltb,go_sem,reduceAdd]
         refine hK _ _ rfl ?_
         simp only [mwb,reduceAdd]
         exact ex_ret ⟨.inl rfl, _, ⟨_, rfl⟩, rfl⟩
        ·refine ex_region_w tt_ok 59 (rp 51 0 [2,1,1,1,1,1,1]) [] rfl rfl fun K hK => ?_
         refine runX_cut 6 fun K1 hK1 => ?_
         simp only [ltb]
         simp only [hcut,go_sem,reduceAdd,reduceLT,reduceLeDiff,reduceEqDiff]
         refine callS_ex (containsIm_tot _ (by simp only [List.all_cons,List.all_nil,bB_box,belowV,List.length_cons,List.length_nil,reduceAdd,Bool.and_self]) 113 1 (by simp only [List.length_cons,List.length_nil]; decide) (m.imports.take i) (fun x => im1_tot _ (fun n hn => by simp only [List.all_cons,List.all_nil,bB_box,belowV,Bool.and_self]) y x) (by rw [List.length_take]; omega)) ?_
         rintro _ ⟨r5, rfl⟩
         try simp only [go_sem]
         refine hK1 _ ?_
         simp only [ltb,go_sem,reduceAdd,reduceLT,reduceEqDiff]
         refine hK _ _ rfl ?_
         simp only [mwb,reduceAdd,reduceEqDiff]
         refine ex_if rfl (fun hc51 => ?_) (fun hc51 => ?_)
         ·refine ex_region_w tt_ok 59 [0,0,2] [] rfl rfl fun K hK => ?_
          simp only [ltb,go_sem,reduceAdd]
          refine hK _ _ rfl ?_
          simp only [mwb,reduceAdd]
          exact ex_ret ⟨.inl rfl, _, ⟨_, rfl⟩, rfl⟩
         ·refine ex_skip ?_
          show Go.Eng.Ex _ _ _ _ _ _
          refine ex_last_region_w tt_ok 59 (rp 29 0 (2::(rp 28 0 [2]))) [] (by kernel_rfl) rfl rfl fun K hK => ?_
          simp only [ltb,go_sem,reduceAdd,reduceLT]
          refine hK _ _ rfl ?_
          simp only [mwb,reduceAdd,reduceEqDiff]
          have hwi := i64_succ i (by omega)
          refine ⟨hlti, 1, (false::true::true::false::false::true::false::false::false::false::true::(rp 16 false [true,true,true])), by omega, by simp only [maskFr,belowV,reduceLT,mkb], by simp only [ltb,List.all_cons,List.all_nil,belowV,belowB,Bool.and_self], ?_⟩
          simp only [hwi,maskFr,mkb]
      ·simp only [ltb,go_sem,reduceAdd,reduceLT,reduceEqDiff]
       refine hK _ _ rfl ?_
       simp only [mwb,reduceAdd,reduceEqDiff]
       refine ex_cond rfl ?_
       refine ex_region_w tt_ok 59 [0,0,2] [] rfl rfl fun K hK => ?_
       simp only [ltb,go_sem,reduceAdd]
       refine hK _ _ rfl ?_
       simp only [mwb,reduceAdd]
       exact ex_ret ⟨.inl rfl, _, ⟨_, rfl⟩, rfl⟩
     ·have hgei : ¬ i < (m.imports.length) := by simpa using hc30
      refine ex_exit ?_
      show Go.Eng.Ex _ _ _ _ _ _
      refine ex_region_w tt_ok 59 [0,0,2] [] rfl rfl fun K hK => ?_
      simp only [ltb,go_sem]
      refine hK _ _ rfl ?_
      simp only [mwb,reduceAdd]
      exact ex_ret ⟨.inl rfl, _, ⟨_, rfl⟩, rfl⟩
   ·simp only [ltb,go_sem,reduceLT,reduceEqDiff]
    refine hK _ _ rfl ?_
    simp only [mwb,reduceAdd,reduceEqDiff]
    refine ex_cond rfl ?_
    refine ex_region_w tt_ok 59 [0,0,2] [] rfl rfl fun K hK => ?_
    simp only [ltb,go_sem]
    refine hK _ _ rfl ?_
    simp only [mwb,reduceAdd]
    exact ex_ret ⟨.inl rfl, _, ⟨_, rfl⟩, rfl⟩
  ·refine runX_cut 8 fun K1 hK1 => ?_
   simp only [ltb,go_sem,reduceLT,reduceEqDiff]
   refine hK1 _ ?_
   simp only [ltb,go_sem,reduceLT,reduceEqDiff]
   refine hK _ _ rfl ?_
   simp only [mwb,reduceAdd,reduceEqDiff]
   refine ex_cond rfl ?_
   refine ex_region_w tt_ok 59 [0,0,2] [] rfl rfl fun K hK => ?_
   simp only [ltb,go_sem]
   refine hK _ _ rfl ?_
   simp only [mwb,reduceAdd]
   exact ex_ret ⟨.inl rfl, _, ⟨_, rfl⟩, rfl⟩
theorem checkModule_tot (hG : Glob.g = some 0) (m : Md) (hw : m.wt ≤ 1048576) : ∃ r, (fun v => ∃ a b : Int, v = .tup [num a, num b]) r ∧ FnOk Tryz.prog 32 [encMd m] r := by
 refine fn_ex tt_ok (fn := Tryz.f32) Tryz.func32 rfl Tryz.call32 ?_
 simp only [ltb,startSt,Tryz.ntmps32,List.length_cons,List.length_nil,reduceAdd,reduceSub,List.replicate_succ,List.replicate_zero]
 have hmw : m.wt = 1 + m.path.size + sumBy Im.wt m.imports + sumBy Dc.wt m.decls := rfl
 have hdl : m.decls.length ≤ 1048576 := by have := length_le_sum Dc.wt (fun l => by unfold Dc.wt; omega) m.decls; omega
 simp only [encMd_eq,mdCells]
 refine ex_region_w tt_ok 32 [0,2,2,2] [] rfl rfl fun K hK => ?_
 simp only [ltb,go_sem,reduceLT]
 refine hK _ _ rfl ?_
 simp only [mwb,reduceAdd,reduceEqDiff]
 refine ex_seq ?_
 refine ex_region_w tt_ok 32 [0,0,0,0,2,0,0,0,1,1] [] rfl rfl fun K hK => ?_
 refine runX_cut 2 fun K1 hK1 => ?_
 simp only [ltb,go_sem,reduceAdd,reduceLT]
 refine callF_ex (by have h := head_tot hG m hw; rw [encMd_eq] at h; simp only [mdCells] at h; exact h) ?_
 rintro _ ⟨r1, rfl⟩
 try simp only [go_sem]
 refine hK1 _ ?_
 simp only [ltb,go_sem,reduceLT,reduceEqDiff]
 refine hK _ _ rfl ?_
 simp only [mwb,reduceAdd,reduceEqDiff]
 refine ex_region_w tt_ok 32 (rp 10 0 [1,2]) [] rfl rfl fun K hK => ?_
 simp only [ltb,go_sem,reduceLT]
 refine hK _ _ rfl ?_
 simp only [mwb,reduceAdd,reduceEqDiff]
 refine ex_if rfl (fun hc11 => ?_) (fun hc11 => ?_)
 ·refine ex_region_w tt_ok 32 [0,0,2,2,0,0,0,0,0,0,0,0,1] [] rfl rfl fun K hK => ?_
  simp only [ltb,go_sem,reduceLT,reduceEqDiff]
  refine hK _ _ rfl ?_
  simp only [mwb,reduceAdd,reduceEqDiff]
  exact ex_ret ⟨.inl rfl, _, ⟨_, _, rfl⟩, rfl⟩
 ·refine ex_skip ?_
  show Go.Eng.Ex _ _ _ _ _ _
  refine ex_seq ?_
  refine ex_region_w tt_ok 32 (rp 13 0 [1,2,2,2]) [] rfl rfl fun K hK => ?_
  try simp only [ltb]
  simp only [List.length_map,go_sem,reduceLT,reduceEqDiff]
  refine hK _ _ rfl ?_
  simp only [mwb,reduceAdd,reduceEqDiff]
  refine ex_block ?_
  refine ex_range 16 (m.decls.length) 1 [false,true,true,true,false,false,false,false,false,false,false,true,false,false,true,true,true] (by omega) (by simp only [maskFr,belowV,reduceLT,mkb]) (by simp only [List.all_cons,List.all_nil,belowV,belowB,Bool.and_self,List.take_succ_cons,List.take_nil]) (by rfl) fun i hii => ?_
  simp only [maskFr,List.set_cons_zero,List.set_cons_succ,mkb]
  refine ex_region_w tt_ok 32 (rp 17 0 [2]) [] rfl rfl fun K hK => ?_
  simp only [ltb,go_sem,reduceLT]
  refine hK _ _ rfl ?_
  simp only [mwb,reduceAdd]
  refine ex_seq ?_
  refine ex_if rfl (fun hc17 => ?_) (fun hc17 => ?_)
  ·have hlti : i < (m.decls.length) := by simpa using hc17
   obtain ⟨d, hx⟩ : ∃ d, m.decls[i]? = some d := ⟨_, List.getElem?_eq_getElem hlti⟩
   have hdw := sumBy_mem Dc.wt hx
   have hcut := cutTo m.decls encDc 31 (fun _ => rfl) i (by omega)
   refine ex_skip ?_
   show Go.Eng.Ex _ _ _ _ _ _
   refine ex_seq ?_
   refine ex_block ?_
   refine ex_region_w tt_ok 32 [0,0,0,0,0,2,2,0,0,0,0,0,0,0,0,0,0,0,1,1,1] [] rfl rfl fun K hK => ?_
   try simp only [ltb]
   simp only [List.getElem?_map,hx,encDc,tyCells,exCells,List.cons_append,List.nil_append,go_sem,reduceAdd,reduceLT,reduceEqDiff]
   refine hK _ _ rfl ?_
   simp only [mwb,reduceAdd,reduceEqDiff]
   refine ex_mixed_w tt_ok mixed_ok 32 [0,0,0,0,0,0,0,2,0,0,0,0,0,0,0,0,0,0,0,0,0,1,1,1,1,1,1] (by kernel_rfl) [⟨.r, 0, [], []⟩, ⟨.n, 0, [], []⟩, ⟨.r, 0, [], []⟩, ⟨.n, 0, [], []⟩, ⟨.r, 0, [], []⟩, ⟨.n, 0, [], []⟩, ⟨.n, 0, [], []⟩] 0 (by kernel_rfl) fun K hK => ?_
   try simp only [ltb,List.replicate_zero]
   refine runM_cut 6 (by simp) (by simp) fun K1 hK1 => ?_
   try simp only [ltb]
   simp only [ltb,hcut,go_sem,reduceAdd,reduceLT,reduceEqDiff]
   refine callD_ex rfl (by have h := decl_tot hG d (m.decls.take i) (by omega) (by rw [List.length_take]; omega); simp only [ltb,encDc,tyCells,exCells] at h; exact h) ?_
   rintro _ ⟨r2, rfl⟩
   try simp only [go_sem]
   refine hK1 _ ?_
   simp only [ltb,go_sem,reduceAdd,reduceLT,reduceEqDiff]
   refine hK _ _ rfl ?_
   simp only [mwb,reduceAdd,reduceEqDiff]
   refine ex_region_w tt_ok 32 (rp 27 0 [1,2]) [] rfl rfl fun K hK => ?_
   simp only [ltb,go_sem,reduceAdd,reduceLT]
   refine hK _ _ rfl ?_
   simp only [mwb,reduceAdd,reduceEqDiff]
   refine ex_if rfl (fun hc28 => ?_) (fun hc28 => ?_)
   ·refine ex_region_w tt_ok 32 (0::0::2::2::(rp 25 0 [1,1])) [] rfl rfl fun K hK => ?_
    simp only [ltb,go_sem,reduceAdd,reduceLT,reduceEqDiff]
    refine hK _ _ rfl ?_
    simp only [mwb,reduceAdd,reduceEqDiff]
    exact ex_ret ⟨.inl rfl, _, ⟨_, _, rfl⟩, rfl⟩
   ·refine ex_skip ?_
    show Go.Eng.Ex _ _ _ _ _ _
    refine ex_last_region_w tt_ok 32 (rp 16 0 (2::(rp 14 0 [2]))) [] (by kernel_rfl) rfl rfl fun K hK => ?_
    simp only [ltb,go_sem,reduceAdd,reduceLT]
    refine hK _ _ rfl ?_
    simp only [mwb,reduceAdd,reduceEqDiff]
    have hwi := i64_succ i (by omega)
    refine ⟨hlti, 1, [false,true,true,true,false,false,false,false,false,false,false,true,false,false,true,true,true], by omega, by simp only [maskFr,belowV,reduceLT,mkb], by simp only [ltb,List.all_cons,List.all_nil,belowV,belowB,Bool.and_self], ?_⟩
    simp only [hwi,maskFr,mkb]
  ·have hgei : ¬ i < (m.decls.length) := by simpa using hc17
   refine ex_exit ?_
   show Go.Eng.Ex _ _ _ _ _ _
   refine ex_region_w tt_ok 32 [0,0,2,2] [] rfl rfl fun K hK => ?_
   simp only [ltb,go_sem]
   refine hK _ _ rfl ?_
   simp only [mwb,reduceAdd,reduceEqDiff]
   exact ex_ret ⟨.inl rfl, _, ⟨_, _, rfl⟩, rfl⟩
end Go.Proofs.YtpjdfcigadnhcaaGreatDoor
end

section
namespace Go.Proofs.YtpjdfcigadnhcaaGreatDoor
open Go.Eng
open Nat (reduceAdd reduceLT reduceLeDiff reduceMul reduceEqDiff reduceSub)
variable [Glob]
theorem equalExs_ok (g : FuncId) (ts us : List Ex) (hl : ts.length ≤ 1048576) (hg : ∀ (i : Nat) (t u : Ex), ts[i]? = some t → us[i]? = some u → FnOk Tryz.prog g [encEx t, encEx u] (bl (eqb t u))) :
  FnOk Tryz.prog 69 [.slice (encExs ts), .slice (encExs us), .sc (.func (.func g) #[] #[])] (bl (eqb ts us)) := by
 refine fn_ok tt_ok (fn := Tryz.f69) Tryz.func69 rfl Tryz.call69 ?_
 simp only [ltb,startSt,Tryz.ntmps69,List.length_cons,List.length_nil,reduceAdd,reduceSub,List.replicate_succ,List.replicate_zero]
 refine tri_seq_region tt_ok fun K hK => ?_
 simp only [go_sem]
 refine hK _ ?_
 refine tri_seq ?_
 by_cases hlen : ts.length = us.length
 ·have hd : (!decide ((ts.length : Int) = (us.length : Int))) = false := by simp [hlen]
  refine tri_seq_region tt_ok fun K hK => ?_
  simp only [length_encExs,hd,go_sem]
  refine hK _ ?_
  refine tri_cond rfl (tri_skip ?_)
  show Tri _ _ _ _ _ _
  refine tri_seq ?_
  refine tri_seq_region tt_ok fun K hK => ?_
  simp only [length_encExs,go_sem]
  refine hK _ ?_
  refine tri_block (tri_loop_inv (fun N st => ∃ (i : Nat), N = ts.length - i ∧ i ≤ ts.length ∧ ts.take i = us.take i ∧
   st = { fr := [.undef, .slice (encExs us), .sc (.func (.func g) #[] #[]), .undef, .undef, .undef, .undef, .undef, .undef, .undef, .undef, .undef, .undef, .undef, .undef, .slice (encExs ts), num ts.length, num i] ++ List.replicate 14 .undef, mem := [] }) ts.length ?_ ?_)
  ·exact ⟨0, (false::true::true::(rp 12 false [true,true,true])), by omega, by simp only [maskFr,belowV,mkb], rfl, 0, by omega, by omega, by simp, rfl⟩
  ·rintro N' st ⟨i, rfl, hi, htk, rfl⟩
   simp only [ltb,List.replicate_succ,List.replicate_zero]
   by_cases hlt : i < ts.length
   ·have hd := lt_dec hlt
    refine tri_seq_region tt_ok fun K hK => ?_
    simp only [hd,go_sem]
    refine hK _ ?_
    refine tri_seq (tri_cond rfl (tri_skip ?_))
    refine tri_seq (tri_block ?_)
    obtain ⟨t, ht⟩ : ∃ t, ts[i]? = some t := ⟨_, List.getElem?_eq_getElem hlt⟩
    obtain ⟨u, hu⟩ : ∃ u, us[i]? = some u := ⟨_, List.getElem?_eq_getElem (by omega)⟩
    have hgi := hg i t u ht hu
    simp only [encEx_eq] at hgi
    simp only [exCells] at hgi
    refine tri_seq_region tt_ok fun K hK => ?_
    simp only [get_encExs,ht,encEx_eq,exCells,go_sem,reduceAdd]
    refine hK _ ?_
    refine tri_seq_region tt_ok fun K hK => ?_
    simp only [get_encExs,hu,encEx_eq,exCells,go_sem,reduceAdd]
    refine hK _ ?_
    refine tri_seq_region tt_ok fun K hK => ?_
    simp only [go_sem,reduceAdd]
    refine .inl ⟨_, _, by simp only [go_sem], hgi, ?_⟩
    try simp only [go_sem]
    refine hK _ ?_
    have htk1 : ∀ h : t = u, ts.take (i + 1) = us.take (i + 1) := fun h => by rw [List.take_add_one, List.take_add_one, htk, ht, hu, h]
    by_cases htu : t = u
    ·rw [eqb_true htu]
     refine tri_cond rfl (tri_skip ?_)
     show Tri _ _ _ _ _ _
     refine tri_last_region tt_ok fun K hK => ?_
     simp only [go_sem]
     refine hK _ ?_
     have hw2 := i64_succ i (by omega)
     rw [hw2]
     exact ⟨ts.length - (i + 1), by omega, 0, (false::true::true::(rp 12 false [true,true,true])), by omega, by simp only [maskFr,belowV,mkb], rfl, i + 1, rfl, hlt, htk1 htu, rfl⟩
    ·rw [eqb_false htu]
     refine tri_cond rfl ?_
     refine tri_seq_region tt_ok fun K hK => ?_
     simp only [go_sem]
     refine hK _ ?_
     refine tri_ret ⟨.inl rfl, ?_⟩
     rw [eqb_false (fun e => htu (by rw [e, hu] at ht; exact (Option.some.inj ht).symm))]
     rfl
   ·have hd := ge_dec hlt
    refine tri_seq_region tt_ok fun K hK => ?_
    simp only [hd,go_sem]
    refine hK _ ?_
    refine tri_seq (tri_cond rfl (tri_exit ?_))
    have hie : i = ts.length := by omega
    show Tri _ _ _ _ _ _
    refine tri_seq_region tt_ok fun K hK => ?_
    simp only [go_sem]
    refine hK _ ?_
    refine tri_ret ⟨.inl rfl, ?_⟩
    rw [hie, List.take_length, hlen, List.take_length] at htk
    rw [eqb_true htk]
    rfl
 ·have hd : (!decide ((ts.length : Int) = (us.length : Int))) = true := by simpa using fun e => hlen (by omega)
  refine tri_seq_region tt_ok fun K hK => ?_
  simp only [length_encExs,hd,go_sem]
  refine hK _ ?_
  refine tri_cond rfl ?_
  refine tri_seq_region tt_ok fun K hK => ?_
  simp only [go_sem]
  refine hK _ ?_
  refine tri_ret ⟨.inl rfl, ?_⟩
  rw [eqb_false (fun e => hlen (by rw [e]))]
  rfl

theorem equalLbs_ok (g : FuncId) (ts us : List Lb) (hl : ts.length ≤ 1048576) (hg : ∀ (i : Nat) (t u : Lb), ts[i]? = some t → us[i]? = some u → FnOk Tryz.prog g [encLb t, encLb u] (bl (eqb t u))) :
  FnOk Tryz.prog 70 [.slice (ts.map encLb), .slice (us.map encLb), .sc (.func (.func g) #[] #[])] (bl (eqb ts us)) := by
 refine fn_ok tt_ok (fn := Tryz.f70) Tryz.func70 rfl Tryz.call70 ?_
 simp only [ltb,startSt,Tryz.ntmps70,List.length_cons,List.length_nil,reduceAdd,reduceSub,List.replicate_succ,List.replicate_zero]
 refine tri_seq_region tt_ok fun K hK => ?_
 simp only [go_sem]
 refine hK _ ?_
 refine tri_seq ?_
 by_cases hlen : ts.length = us.length
 ·have hd : (!decide ((ts.length : Int) = (us.length : Int))) = false := by simp [hlen]
  refine tri_seq_region tt_ok fun K hK => ?_
  simp only [List.length_map,hd,go_sem]
  refine hK _ ?_
  refine tri_cond rfl (tri_skip ?_)
  show Tri _ _ _ _ _ _
  refine tri_seq ?_
  refine tri_seq_region tt_ok fun K hK => ?_
  simp only [List.length_map,go_sem]
  refine hK _ ?_
  refine tri_block (tri_loop_inv (fun N st => ∃ (i : Nat), N = ts.length - i ∧ i ≤ ts.length ∧ ts.take i = us.take i ∧
   st = { fr := [.undef, .slice (us.map encLb), .sc (.func (.func g) #[] #[]), .undef, .undef, .undef, .undef, .undef, .undef, .undef, .undef, .undef, .undef, .undef, .undef, .slice (ts.map encLb), num ts.length, num i] ++ List.replicate 14 .undef, mem := [] }) ts.length ?_ ?_)
  ·exact ⟨0, (false::true::true::(rp 12 false [true,true,true])), by omega, by simp only [maskFr,belowV,mkb], rfl, 0, by omega, by omega, by simp, rfl⟩
  ·rintro N' st ⟨i, rfl, hi, htk, rfl⟩
   simp only [ltb,List.replicate_succ,List.replicate_zero]
   by_cases hlt : i < ts.length
   ·have hd := lt_dec hlt
    refine tri_seq_region tt_ok fun K hK => ?_
    simp only [hd,go_sem]
    refine hK _ ?_
    refine tri_seq (tri_cond rfl (tri_skip ?_))
    refine tri_seq (tri_block ?_)
    obtain ⟨t, ht⟩ : ∃ t, ts[i]? = some t := ⟨_, List.getElem?_eq_getElem hlt⟩
    obtain ⟨u, hu⟩ : ∃ u, us[i]? = some u := ⟨_, List.getElem?_eq_getElem (by omega)⟩
    have hgi := hg i t u ht hu
    simp only [encLb] at hgi
    simp only [ltb,tyCells] at hgi
    refine tri_seq_region tt_ok fun K hK => ?_
    simp only [List.getElem?_map,ht,encLb,tyCells,List.cons_append,List.nil_append,go_sem,reduceAdd]
    refine hK _ ?_
    refine tri_seq_region tt_ok fun K hK => ?_
    simp only [List.getElem?_map,hu,encLb,tyCells,List.cons_append,List.nil_append,go_sem,reduceAdd]
    refine hK _ ?_
    refine tri_seq_region tt_ok fun K hK => ?_
    simp only [go_sem,reduceAdd]
    refine .inl ⟨_, _, by simp only [go_sem], hgi, ?_⟩
    try simp only [go_sem]
    refine hK _ ?_
    have htk1 : ∀ h : t = u, ts.take (i + 1) = us.take (i + 1) := fun h => by rw [List.take_add_one, List.take_add_one, htk, ht, hu, h]
    by_cases htu : t = u
    ·rw [eqb_true htu]
     refine tri_cond rfl (tri_skip ?_)
     show Tri _ _ _ _ _ _
     refine tri_last_region tt_ok fun K hK => ?_
     simp only [go_sem]
     refine hK _ ?_
     have hw2 := i64_succ i (by omega)
     rw [hw2]
     exact ⟨ts.length - (i + 1), by omega, 0, (false::true::true::(rp 12 false [true,true,true])), by omega, by simp only [maskFr,belowV,mkb], rfl, i + 1, rfl, hlt, htk1 htu, rfl⟩
    ·rw [eqb_false htu]
     refine tri_cond rfl ?_
     refine tri_seq_region tt_ok fun K hK => ?_
     simp only [go_sem]
     refine hK _ ?_
     refine tri_ret ⟨.inl rfl, ?_⟩
     rw [eqb_false (fun e => htu (by rw [e, hu] at ht; exact (Option.some.inj ht).symm))]
     rfl
   ·have hd := ge_dec hlt
    refine tri_seq_region tt_ok fun K hK => ?_
    simp only [hd,go_sem]
    refine hK _ ?_
    refine tri_seq (tri_cond rfl (tri_exit ?_))
    have hie : i = ts.length := by omega
    show Tri _ _ _ _ _ _
    refine tri_seq_region tt_ok fun K hK => ?_
    simp only [go_sem]
    refine hK _ ?_
    refine tri_ret ⟨.inl rfl, ?_⟩
    rw [hie, List.take_length, hlen, List.take_length] at htk
    rw [eqb_true htk]
    rfl
 ·have hd : (!decide ((ts.length : Int) = (us.length : Int))) = true := by simpa using fun e => hlen (by omega)
  refine tri_seq_region tt_ok fun K hK => ?_
  simp only [List.length_map,hd,go_sem]
  refine hK _ ?_
  refine tri_cond rfl ?_
  refine tri_seq_region tt_ok fun K hK => ?_
  simp only [go_sem]
  refine hK _ ?_
  refine tri_ret ⟨.inl rfl, ?_⟩
  rw [eqb_false (fun e => hlen (by rw [e]))]
  rfl

theorem equalPms_ok (g : FuncId) (ts us : List Pm) (hl : ts.length ≤ 1048576) (hg : ∀ (i : Nat) (t u : Pm), ts[i]? = some t → us[i]? = some u → FnOk Tryz.prog g [encPm t, encPm u] (bl (eqb t u))) :
  FnOk Tryz.prog 108 [.slice (ts.map encPm), .slice (us.map encPm), .sc (.func (.func g) #[] #[])] (bl (eqb ts us)) := by
 refine fn_ok tt_ok (fn := Tryz.f108) Tryz.func108 rfl Tryz.call108 ?_
 simp only [ltb,startSt,Tryz.ntmps108,List.length_cons,List.length_nil,reduceAdd,reduceSub,List.replicate_succ,List.replicate_zero]
 refine tri_seq_region tt_ok fun K hK => ?_
 simp only [go_sem]
 refine hK _ ?_
 refine tri_seq ?_
 by_cases hlen : ts.length = us.length
 ·have hd : (!decide ((ts.length : Int) = (us.length : Int))) = false := by simp [hlen]
  refine tri_seq_region tt_ok fun K hK => ?_
  simp only [List.length_map,hd,go_sem]
  refine hK _ ?_
  refine tri_cond rfl (tri_skip ?_)
  show Tri _ _ _ _ _ _
  refine tri_seq ?_
  refine tri_seq_region tt_ok fun K hK => ?_
  simp only [List.length_map,go_sem]
  refine hK _ ?_
  refine tri_block (tri_loop_inv (fun N st => ∃ (i : Nat), N = ts.length - i ∧ i ≤ ts.length ∧ ts.take i = us.take i ∧
   st = { fr := [.undef, .slice (us.map encPm), .sc (.func (.func g) #[] #[]), .undef, .undef, .undef, .undef, .undef, .undef, .undef, .undef, .undef, .undef, .undef, .undef, .slice (ts.map encPm), num ts.length, num i] ++ List.replicate 14 .undef, mem := [] }) ts.length ?_ ?_)
  ·exact ⟨0, (false::true::true::(rp 12 false [true,true,true])), by omega, by simp only [maskFr,belowV,mkb], rfl, 0, by omega, by omega, by simp, rfl⟩
  ·rintro N' st ⟨i, rfl, hi, htk, rfl⟩
   simp only [ltb,List.replicate_succ,List.replicate_zero]
   by_cases hlt : i < ts.length
   ·have hd := lt_dec hlt
    refine tri_seq_region tt_ok fun K hK => ?_
    simp only [hd,go_sem]
    refine hK _ ?_
    refine tri_seq (tri_cond rfl (tri_skip ?_))
    refine tri_seq (tri_block ?_)
    obtain ⟨t, ht⟩ : ∃ t, ts[i]? = some t := ⟨_, List.getElem?_eq_getElem hlt⟩
    obtain ⟨u, hu⟩ : ∃ u, us[i]? = some u := ⟨_, List.getElem?_eq_getElem (by omega)⟩
    have hgi := hg i t u ht hu
    simp only [encPm] at hgi
    simp only [ltb,tyCells] at hgi
    refine tri_seq_region tt_ok fun K hK => ?_
    simp only [List.getElem?_map,ht,encPm,tyCells,List.cons_append,List.nil_append,go_sem,reduceAdd]
    refine hK _ ?_
    refine tri_seq_region tt_ok fun K hK => ?_
    simp only [List.getElem?_map,hu,encPm,tyCells,List.cons_append,List.nil_append,go_sem,reduceAdd]
    refine hK _ ?_
    refine tri_seq_region tt_ok fun K hK => ?_
    simp only [go_sem,reduceAdd]
    refine .inl ⟨_, _, by simp only [go_sem], hgi, ?_⟩
    try simp only [go_sem]
    refine hK _ ?_
    have htk1 : ∀ h : t = u, ts.take (i + 1) = us.take (i + 1) := fun h => by rw [List.take_add_one, List.take_add_one, htk, ht, hu, h]
    by_cases htu : t = u
    ·rw [eqb_true htu]
     refine tri_cond rfl (tri_skip ?_)
     show Tri _ _ _ _ _ _
     refine tri_last_region tt_ok fun K hK => ?_
     simp only [go_sem]
     refine hK _ ?_
     have hw2 := i64_succ i (by omega)
     rw [hw2]
     exact ⟨ts.length - (i + 1), by omega, 0, (false::true::true::(rp 12 false [true,true,true])), by omega, by simp only [maskFr,belowV,mkb], rfl, i + 1, rfl, hlt, htk1 htu, rfl⟩
    ·rw [eqb_false htu]
     refine tri_cond rfl ?_
     refine tri_seq_region tt_ok fun K hK => ?_
     simp only [go_sem]
     refine hK _ ?_
     refine tri_ret ⟨.inl rfl, ?_⟩
     rw [eqb_false (fun e => htu (by rw [e, hu] at ht; exact (Option.some.inj ht).symm))]
     rfl
   ·have hd := ge_dec hlt
    refine tri_seq_region tt_ok fun K hK => ?_
    simp only [hd,go_sem]
    refine hK _ ?_
    refine tri_seq (tri_cond rfl (tri_exit ?_))
    have hie : i = ts.length := by omega
    show Tri _ _ _ _ _ _
    refine tri_seq_region tt_ok fun K hK => ?_
    simp only [go_sem]
    refine hK _ ?_
    refine tri_ret ⟨.inl rfl, ?_⟩
    rw [hie, List.take_length, hlen, List.take_length] at htk
    rw [eqb_true htk]
    rfl
 ·have hd : (!decide ((ts.length : Int) = (us.length : Int))) = true := by simpa using fun e => hlen (by omega)
  refine tri_seq_region tt_ok fun K hK => ?_
  simp only [List.length_map,hd,go_sem]
  refine hK _ ?_
  refine tri_cond rfl ?_
  refine tri_seq_region tt_ok fun K hK => ?_
  simp only [go_sem]
  refine hK _ ?_
  refine tri_ret ⟨.inl rfl, ?_⟩
  rw [eqb_false (fun e => hlen (by rw [e]))]
  rfl

theorem equalDcs_ok (g : FuncId) (ts us : List Dc) (hl : ts.length ≤ 1048576) (hg : ∀ (i : Nat) (t u : Dc), ts[i]? = some t → us[i]? = some u → FnOk Tryz.prog g [encDc t, encDc u] (bl (eqb t u))) :
  FnOk Tryz.prog 73 [.slice (ts.map encDc), .slice (us.map encDc), .sc (.func (.func g) #[] #[])] (bl (eqb ts us)) := by
 refine fn_ok tt_ok (fn := Tryz.f73) Tryz.func73 rfl Tryz.call73 ?_
 simp only [ltb,startSt,Tryz.ntmps73,List.length_cons,List.length_nil,reduceAdd,reduceSub,List.replicate_succ,List.replicate_zero]
 refine tri_seq_region tt_ok fun K hK => ?_
 simp only [go_sem]
 refine hK _ ?_
 refine tri_seq ?_
 by_cases hlen : ts.length = us.length
 ·have hd : (!decide ((ts.length : Int) = (us.length : Int))) = false := by simp [hlen]
  refine tri_seq_region tt_ok fun K hK => ?_
  simp only [List.length_map,hd,go_sem]
  refine hK _ ?_
  refine tri_cond rfl (tri_skip ?_)
  show Tri _ _ _ _ _ _
  refine tri_seq ?_
  refine tri_seq_region tt_ok fun K hK => ?_
  simp only [List.length_map,go_sem]
  refine hK _ ?_
  refine tri_block (tri_loop_inv (fun N st => ∃ (i : Nat), N = ts.length - i ∧ i ≤ ts.length ∧ ts.take i = us.take i ∧
   st = { fr := [.undef, .slice (us.map encDc), .sc (.func (.func g) #[] #[]), .undef, .undef, .undef, .undef, .undef, .undef, .undef, .undef, .undef, .undef, .undef, .undef, .slice (ts.map encDc), num ts.length, num i] ++ List.replicate 14 .undef, mem := [] }) ts.length ?_ ?_)
  ·exact ⟨0, (false::true::true::(rp 12 false [true,true,true])), by omega, by simp only [maskFr,belowV,mkb], rfl, 0, by omega, by omega, by simp, rfl⟩
  ·rintro N' st ⟨i, rfl, hi, htk, rfl⟩
   simp only [ltb,List.replicate_succ,List.replicate_zero]
   by_cases hlt : i < ts.length
   ·have hd := lt_dec hlt
    refine tri_seq_region tt_ok fun K hK => ?_
    simp only [hd,go_sem]
    refine hK _ ?_
    refine tri_seq (tri_cond rfl (tri_skip ?_))
    refine tri_seq (tri_block ?_)
    obtain ⟨t, ht⟩ : ∃ t, ts[i]? = some t := ⟨_, List.getElem?_eq_getElem hlt⟩
    obtain ⟨u, hu⟩ : ∃ u, us[i]? = some u := ⟨_, List.getElem?_eq_getElem (by omega)⟩
    have hgi := hg i t u ht hu
    simp only [encDc] at hgi
    simp only [ltb,tyCells,exCells] at hgi
    refine tri_seq_region tt_ok fun K hK => ?_
    simp only [List.getElem?_map,ht,encDc,tyCells,exCells,List.cons_append,List.nil_append,go_sem,reduceAdd]
    refine hK _ ?_
    refine tri_seq_region tt_ok fun K hK => ?_
    simp only [List.getElem?_map,hu,encDc,tyCells,exCells,List.cons_append,List.nil_append,go_sem,reduceAdd]
    refine hK _ ?_
    refine tri_seq_region tt_ok fun K hK => ?_
    simp only [go_sem,reduceAdd]
    refine .inl ⟨_, _, by simp only [go_sem], hgi, ?_⟩
    try simp only [go_sem]
    refine hK _ ?_
    have htk1 : ∀ h : t = u, ts.take (i + 1) = us.take (i + 1) := fun h => by rw [List.take_add_one, List.take_add_one, htk, ht, hu, h]
    by_cases htu : t = u
    ·rw [eqb_true htu]
     refine tri_cond rfl (tri_skip ?_)
     show Tri _ _ _ _ _ _
     refine tri_last_region tt_ok fun K hK => ?_
     simp only [go_sem]
     refine hK _ ?_
     have hw2 := i64_succ i (by omega)
     rw [hw2]
     exact ⟨ts.length - (i + 1), by omega, 0, (false::true::true::(rp 12 false [true,true,true])), by omega, by simp only [maskFr,belowV,mkb], rfl, i + 1, rfl, hlt, htk1 htu, rfl⟩
    ·rw [eqb_false htu]
     refine tri_cond rfl ?_
     refine tri_seq_region tt_ok fun K hK => ?_
     simp only [go_sem]
     refine hK _ ?_
     refine tri_ret ⟨.inl rfl, ?_⟩
     rw [eqb_false (fun e => htu (by rw [e, hu] at ht; exact (Option.some.inj ht).symm))]
     rfl
   ·have hd := ge_dec hlt
    refine tri_seq_region tt_ok fun K hK => ?_
    simp only [hd,go_sem]
    refine hK _ ?_
    refine tri_seq (tri_cond rfl (tri_exit ?_))
    have hie : i = ts.length := by omega
    show Tri _ _ _ _ _ _
    refine tri_seq_region tt_ok fun K hK => ?_
    simp only [go_sem]
    refine hK _ ?_
    refine tri_ret ⟨.inl rfl, ?_⟩
    rw [hie, List.take_length, hlen, List.take_length] at htk
    rw [eqb_true htk]
    rfl
 ·have hd : (!decide ((ts.length : Int) = (us.length : Int))) = true := by simpa using fun e => hlen (by omega)
  refine tri_seq_region tt_ok fun K hK => ?_
  simp only [List.length_map,hd,go_sem]
  refine hK _ ?_
  refine tri_cond rfl ?_
  refine tri_seq_region tt_ok fun K hK => ?_
  simp only [go_sem]
  refine hK _ ?_
  refine tri_ret ⟨.inl rfl, ?_⟩
  rw [eqb_false (fun e => hlen (by rw [e]))]
  rfl

end Go.Proofs.YtpjdfcigadnhcaaGreatDoor
end

section
namespace Go.Proofs.YtpjdfcigadnhcaaGreatDoor
open Go.Eng
open Nat (reduceAdd reduceLT reduceLeDiff reduceMul reduceEqDiff reduceSub)
variable [Glob]
set_option maxHeartbeats 4000000
set_option maxRecDepth 100000
attribute [local irreducible] runM stepM valD stepOp
theorem Lb.ext' {t u : Lb} (h0 : t.name = u.name) (h1 : t.var = u.var) (h2 : t.opt = u.opt) (h3 : t.ty = u.ty) : t = u := by cases t; cases u; simp_all
theorem Pm.ext' {t u : Pm} (h0 : t.name = u.name) (h1 : t.variance = u.variance) (h2 : t.bound = u.bound) : t = u := by cases t; cases u; simp_all
theorem Ex.ext' {t u : Ex} (h0 : t.kind = u.kind) (h1 : t.mod = u.mod) (h2 : t.name = u.name) (h3 : t.text = u.text) (h4 : t.num = u.num) (h5 : t.types = u.types) (h6 : t.kids = u.kids) (h7 : t.labels = u.labels) : t = u := by
 cases t; cases u; simp_all [Ex.kind, Ex.mod, Ex.name, Ex.text, Ex.num, Ex.types, Ex.kids, Ex.labels]
theorem eqLb_ok (t u : Lb) (h : FnOk Tryz.prog 24 [encTy t.ty, encTy u.ty] (bl (eqb t.ty u.ty))) : FnOk Tryz.prog 71 [encLb t, encLb u] (bl (eqb t u)) := by
 refine fn_ok tt_ok (fn := Tryz.f71) Tryz.func71 rfl Tryz.call71 ?_
 simp only [ltb,startSt,Tryz.ntmps71,List.length_cons,List.length_nil,reduceAdd,reduceSub,List.replicate_succ,List.replicate_zero]
 have hT : Tryz.prog.underlying 4 = some .bool := by kernel_rfl
 have hbe := fun x y => ev_beql (P := Tryz.prog) (T := 4) x y hT
 have hbn := fun x y => ev_bneq (P := Tryz.prog) (T := 4) x y hT
 simp only [ltb,encLb,tyCells]
 refine tri_seq_region tt_ok fun K hK => ?_
 simp only [go_sem]
 refine hK _ ?_
 have e0 := bytes_eq t.name u.name
 have e1 := bytes_eq t.var u.var
 have e3 := h
 try simp only [encTy_eq] at e3
 try simp only [tyCells] at e3
 refine tri_seq_region_w tt_ok 31 (0::0::0::0::2::(rp 26 1 [])) [(5, 10), (12, 17), (19, 24)] rfl rfl fun K hK => ?_
 by_cases h0 : t.name = u.name
 ·rw [eqb_true h0] at e0
  refine runOpsW_cut 6 fun K1 hK1 => ?_
  simp only [ltb]
  simp only [e0,go_sem,reduceAdd,reduceLT,reduceLeDiff,reduceEqDiff]
  refine hK1 _ ?_
  by_cases h1 : t.var = u.var
  ·rw [eqb_true h1] at e1
   refine runOpsW_cut 7 fun K1 hK1 => ?_
   simp only [ltb]
   simp only [e1,go_sem,reduceAdd,reduceLT,reduceLeDiff,reduceEqDiff]
   refine hK1 _ ?_
   by_cases h2 : t.opt = u.opt
   ·have e2 : (t.opt == u.opt) = true := by simpa using h2
    refine runOpsW_cut 7 fun K1 hK1 => ?_
    simp only [ltb]
    simp only [e2,hbe,go_sem,reduceAdd,reduceLT,reduceEqDiff]
    refine hK1 _ ?_
    by_cases h3 : t.ty = u.ty
    ·rw [eqb_true h3] at e3
     simp only [ltb,go_sem,reduceAdd,reduceLT,reduceLeDiff,reduceEqDiff]
     refine .inl ⟨_, _, by simp only [go_sem], e3, ?_⟩
     try simp only [go_sem,reduceLT,reduceEqDiff]
     refine hK _ _ rfl ?_
     simp only [mwb,reduceAdd,reduceEqDiff]
     refine tri_ret ⟨.inl rfl, ?_⟩
     rw [eqb_true (Lb.ext' h0 h1 h2 h3)]; rfl
    ·rw [eqb_false h3] at e3
     simp only [ltb,go_sem,reduceAdd,reduceLT,reduceLeDiff,reduceEqDiff]
     refine .inl ⟨_, _, by simp only [go_sem], e3, ?_⟩
     try simp only [go_sem,reduceLT,reduceEqDiff]
     refine hK _ _ rfl ?_
     simp only [mwb,reduceAdd,reduceEqDiff]
     refine tri_ret ⟨.inl rfl, ?_⟩
     rw [eqb_false fun e => h3 (by rw [e])]; rfl
   ·have e2 : (t.opt == u.opt) = false := by simpa using h2
    try simp only [ltb]
    simp only [e2,hbe,go_sem,reduceAdd,reduceLT,reduceEqDiff]
    refine hK _ _ rfl ?_
    simp only [mwb,reduceAdd,reduceEqDiff]
    refine tri_ret ⟨.inl rfl, ?_⟩
    rw [eqb_false fun e => h2 (by rw [e])]; rfl
  ·rw [eqb_false h1] at e1
   refine runOpsW_cut 14 fun K1 hK1 => ?_
   simp only [ltb]
   simp only [e1,go_sem,reduceAdd,reduceLT,reduceLeDiff,reduceEqDiff]
   refine hK1 _ ?_
   simp only [ltb,go_sem,reduceAdd,reduceLT,reduceEqDiff]
   refine hK _ _ rfl ?_
   simp only [mwb,reduceAdd,reduceEqDiff]
   refine tri_ret ⟨.inl rfl, ?_⟩
   rw [eqb_false fun e => h1 (by rw [e])]; rfl
 ·rw [eqb_false h0] at e0
  refine runOpsW_cut 14 fun K1 hK1 => ?_
  simp only [ltb]
  simp only [e0,go_sem,reduceAdd,reduceLT,reduceLeDiff,reduceEqDiff]
  refine hK1 _ ?_
  simp only [ltb,go_sem,reduceAdd,reduceLT,reduceEqDiff]
  refine hK _ _ rfl ?_
  simp only [mwb,reduceAdd,reduceEqDiff]
  refine tri_ret ⟨.inl rfl, ?_⟩
  rw [eqb_false fun e => h0 (by rw [e])]; rfl
theorem eqPm_ok (t u : Pm) (h : FnOk Tryz.prog 24 [encTy t.bound, encTy u.bound] (bl (eqb t.bound u.bound))) : FnOk Tryz.prog 109 [encPm t, encPm u] (bl (eqb t u)) := by
 refine fn_ok tt_ok (fn := Tryz.f109) Tryz.func109 rfl Tryz.call109 ?_
 simp only [ltb,startSt,Tryz.ntmps109,List.length_cons,List.length_nil,reduceAdd,reduceSub,List.replicate_succ,List.replicate_zero]
 have hT : Tryz.prog.underlying 4 = some .bool := by kernel_rfl
 have hbe := fun x y => ev_beql (P := Tryz.prog) (T := 4) x y hT
 have hbn := fun x y => ev_bneq (P := Tryz.prog) (T := 4) x y hT
 simp only [ltb,encPm,tyCells]
 refine tri_seq_region tt_ok fun K hK => ?_
 simp only [go_sem]
 refine hK _ ?_
 have e0 := bytes_eq t.name u.name
 have e2 := h
 try simp only [encTy_eq] at e2
 try simp only [tyCells] at e2
 refine tri_seq_region_w tt_ok 24 (0::0::0::0::2::(rp 19 1 [])) [(5, 10), (12, 17)] rfl rfl fun K hK => ?_
 by_cases h0 : t.name = u.name
 ·rw [eqb_true h0] at e0
  refine runOpsW_cut 6 fun K1 hK1 => ?_
  simp only [ltb]
  simp only [e0,go_sem,reduceAdd,reduceLT,reduceLeDiff,reduceEqDiff]
  refine hK1 _ ?_
  by_cases h1 : t.variance = u.variance
  ·have e1 : decide (t.variance = u.variance) = true := decide_eq_true h1
   refine runOpsW_cut 7 fun K1 hK1 => ?_
   simp only [ltb]
   simp only [e1,go_sem,reduceAdd,reduceLT,reduceLeDiff,reduceEqDiff]
   refine hK1 _ ?_
   by_cases h2 : t.bound = u.bound
   ·rw [eqb_true h2] at e2
    simp only [ltb,go_sem,reduceAdd,reduceLT,reduceEqDiff]
    refine .inl ⟨_, _, by simp only [go_sem], e2, ?_⟩
    try simp only [go_sem,reduceLT,reduceEqDiff]
    refine hK _ _ rfl ?_
    simp only [mwb,reduceAdd,reduceEqDiff]
    refine tri_ret ⟨.inl rfl, ?_⟩
    rw [eqb_true (Pm.ext' h0 h1 h2)]; rfl
   ·rw [eqb_false h2] at e2
    simp only [ltb,go_sem,reduceAdd,reduceLT,reduceEqDiff]
    refine .inl ⟨_, _, by simp only [go_sem], e2, ?_⟩
    try simp only [go_sem,reduceLT,reduceEqDiff]
    refine hK _ _ rfl ?_
    simp only [mwb,reduceAdd,reduceEqDiff]
    refine tri_ret ⟨.inl rfl, ?_⟩
    rw [eqb_false fun e => h2 (by rw [e])]; rfl
  ·have e1 : decide (t.variance = u.variance) = false := decide_eq_false h1
   try simp only [ltb]
   simp only [e1,go_sem,reduceAdd,reduceLT,reduceLeDiff,reduceEqDiff]
   refine hK _ _ rfl ?_
   simp only [mwb,reduceAdd,reduceEqDiff]
   refine tri_ret ⟨.inl rfl, ?_⟩
   rw [eqb_false fun e => h1 (by rw [e])]; rfl
 ·rw [eqb_false h0] at e0
  refine runOpsW_cut 14 fun K1 hK1 => ?_
  simp only [ltb]
  simp only [e0,go_sem,reduceAdd,reduceLT,reduceLeDiff,reduceEqDiff]
  refine hK1 _ ?_
  simp only [ltb,go_sem,reduceAdd,reduceLT,reduceEqDiff]
  refine hK _ _ rfl ?_
  simp only [mwb,reduceAdd,reduceEqDiff]
  refine tri_ret ⟨.inl rfl, ?_⟩
  rw [eqb_false fun e => h0 (by rw [e])]; rfl
theorem seqEx1_ok (t u : Ex) (ht : FnOk Tryz.prog 63 [.slice (encTys t.types), .slice (encTys u.types), .sc (.func (.func 24) #[] #[])] (bl (eqb t.types u.types))) (hk : FnOk Tryz.prog 69 [.slice (encExs t.kids), .slice (encExs u.kids), .sc (.func (.func 28) #[] #[])] (bl (eqb t.kids u.kids))) (hl : FnOk Tryz.prog 70 [.slice (t.labels.map encLb), .slice (u.labels.map encLb), .sc (.func (.func 71) #[] #[])] (bl (eqb t.labels u.labels))) : FnOk Tryz.prog 28 [encEx t, encEx u] (bl (eqb t u)) := by
 refine fn_ok tt_ok (fn := Tryz.f28) Tryz.func28 rfl Tryz.call28 ?_
 simp only [ltb,startSt,Tryz.ntmps28,List.length_cons,List.length_nil,reduceAdd,reduceSub,List.replicate_succ,List.replicate_zero]
 have hT : Tryz.prog.underlying 4 = some .bool := by kernel_rfl
 have hbe := fun x y => ev_beql (P := Tryz.prog) (T := 4) x y hT
 have hbn := fun x y => ev_bneq (P := Tryz.prog) (T := 4) x y hT
 simp only [encEx_eq,exCells]
 refine tri_seq_region tt_ok fun K hK => ?_
 simp only [go_sem]
 refine hK _ ?_
 have e1 := bytes_eq t.mod u.mod
 have e2 := bytes_eq t.name u.name
 have e3 := bytes_eq t.text u.text
 have e5 := ht
 try simp only [encTy_eq,encEx_eq] at e5
 try simp only [tyCells,exCells] at e5
 have e6 := hk
 try simp only [encTy_eq,encEx_eq] at e6
 try simp only [tyCells,exCells] at e6
 have e7 := hl
 try simp only [encTy_eq,encEx_eq] at e7
 try simp only [tyCells,exCells] at e7
 refine tri_seq_region_w tt_ok 59 (0::0::0::0::2::(rp 54 1 [])) [(5, 10), (12, 17), (19, 24), (26, 31), (33, 38), (40, 45), (47, 52)] rfl rfl fun K hK => ?_
 by_cases h0 : t.kind = u.kind
 ·have e0 : decide (t.kind = u.kind) = true := decide_eq_true h0
  refine runOpsW_cut 6 fun K1 hK1 => ?_
  simp only [ltb]
  simp only [e0,go_sem,reduceAdd,reduceLT,reduceLeDiff,reduceEqDiff]
  refine hK1 _ ?_
  by_cases h1 : t.mod = u.mod
  ·rw [eqb_true h1] at e1
   refine runOpsW_cut 7 fun K1 hK1 => ?_
   simp only [ltb]
   simp only [e1,go_sem,reduceAdd,reduceLT,reduceLeDiff,reduceEqDiff]
   refine hK1 _ ?_
   by_cases h2 : t.name = u.name
   ·rw [eqb_true h2] at e2
    refine runOpsW_cut 7 fun K1 hK1 => ?_
    simp only [ltb]
    simp only [e2,go_sem,reduceAdd,reduceLT,reduceLeDiff,reduceEqDiff]
    refine hK1 _ ?_
    by_cases h3 : t.text = u.text
    ·rw [eqb_true h3] at e3
     refine runOpsW_cut 7 fun K1 hK1 => ?_
     simp only [ltb]
     simp only [e3,go_sem,reduceAdd,reduceLT,reduceLeDiff,reduceEqDiff]
     refine hK1 _ ?_
     by_cases h4 : t.num = u.num
     ·have e4 : decide (t.num = u.num) = true := decide_eq_true h4
      refine runOpsW_cut 7 fun K1 hK1 => ?_
      simp only [ltb]
      simp only [e4,go_sem,reduceAdd,reduceLT,reduceLeDiff,reduceEqDiff]
      refine hK1 _ ?_
      by_cases h5 : t.types = u.types
      ·rw [eqb_true h5] at e5
       refine runOpsW_cut 7 fun K1 hK1 => ?_
       simp only [ltb,go_sem,reduceAdd,reduceLT,reduceLeDiff,reduceEqDiff]
       refine .inl ⟨_, _, by simp only [go_sem], e5, ?_⟩
       try simp only [go_sem,reduceLT,reduceEqDiff]
       refine hK1 _ ?_
       by_cases h6 : t.kids = u.kids
       ·rw [eqb_true h6] at e6
        refine runOpsW_cut 7 fun K1 hK1 => ?_
        simp only [ltb,go_sem,reduceAdd,reduceLT,reduceEqDiff]
        refine .inl ⟨_, _, by simp only [go_sem], e6, ?_⟩
        try simp only [go_sem,reduceLT,reduceEqDiff]
        refine hK1 _ ?_
        by_cases h7 : t.labels = u.labels
        ·rw [eqb_true h7] at e7
         simp only [ltb,go_sem,reduceAdd,reduceLT,reduceLeDiff,reduceEqDiff]
         refine .inl ⟨_, _, by simp only [go_sem], e7, ?_⟩
         try simp only [go_sem,reduceLT,reduceEqDiff]
         refine hK _ _ rfl ?_
         simp only [mwb,reduceAdd,reduceEqDiff]
         refine tri_ret ⟨.inl rfl, ?_⟩
         rw [eqb_true (Ex.ext' h0 h1 h2 h3 h4 h5 h6 h7)]; rfl
        ·rw [eqb_false h7] at e7
         simp only [ltb,go_sem,reduceAdd,reduceLT,reduceLeDiff,reduceEqDiff]
         refine .inl ⟨_, _, by simp only [go_sem], e7, ?_⟩
         try simp only [go_sem,reduceLT,reduceEqDiff]
         refine hK _ _ rfl ?_
         simp only [mwb,reduceAdd,reduceEqDiff]
         refine tri_ret ⟨.inl rfl, ?_⟩
         rw [eqb_false fun e => h7 (by rw [e])]; rfl
       ·rw [eqb_false h6] at e6
        simp only [ltb,go_sem,reduceAdd,reduceLT,reduceEqDiff]
        refine .inl ⟨_, _, by simp only [go_sem], e6, ?_⟩
        try simp only [go_sem,reduceLT,reduceEqDiff]
        refine hK _ _ rfl ?_
        simp only [mwb,reduceAdd,reduceEqDiff]
        refine tri_ret ⟨.inl rfl, ?_⟩
        rw [eqb_false fun e => h6 (by rw [e])]; rfl
      ·rw [eqb_false h5] at e5
       refine runOpsW_cut 14 fun K1 hK1 => ?_
       simp only [ltb,go_sem,reduceAdd,reduceLT,reduceLeDiff,reduceEqDiff]
       refine .inl ⟨_, _, by simp only [go_sem], e5, ?_⟩
       try simp only [go_sem,reduceLT,reduceEqDiff]
       refine hK1 _ ?_
       simp only [ltb,go_sem,reduceAdd,reduceLT,reduceEqDiff]
       refine hK _ _ rfl ?_
       simp only [mwb,reduceAdd,reduceEqDiff]
       refine tri_ret ⟨.inl rfl, ?_⟩
       rw [eqb_false fun e => h5 (by rw [e])]; rfl
     ·have e4 : decide (t.num = u.num) = false := decide_eq_false h4
      refine runOpsW_cut 14 fun K1 hK1 => ?_
      simp only [ltb]
      simp only [e4,go_sem,reduceAdd,reduceLT,reduceLeDiff,reduceEqDiff]
      refine hK1 _ ?_
      simp only [ltb,go_sem,reduceAdd,reduceLT,reduceEqDiff]
      refine hK _ _ rfl ?_
      simp only [mwb,reduceAdd,reduceEqDiff]
      refine tri_ret ⟨.inl rfl, ?_⟩
      rw [eqb_false fun e => h4 (by rw [e])]; rfl
    ·rw [eqb_false h3] at e3
     refine runOpsW_cut 14 fun K1 hK1 => ?_
     simp only [ltb]
     simp only [e3,go_sem,reduceAdd,reduceLT,reduceLeDiff,reduceEqDiff]
     refine hK1 _ ?_
     refine runOpsW_cut 14 fun K1 hK1 => ?_
     simp only [ltb,go_sem,reduceAdd,reduceLT,reduceEqDiff]
     refine hK1 _ ?_
     simp only [ltb,go_sem,reduceAdd,reduceLT,reduceEqDiff]
     refine hK _ _ rfl ?_
     simp only [mwb,reduceAdd,reduceEqDiff]
     refine tri_ret ⟨.inl rfl, ?_⟩
     rw [eqb_false fun e => h3 (by rw [e])]; rfl
   ·rw [eqb_false h2] at e2
    refine runOpsW_cut 14 fun K1 hK1 => ?_
    simp only [ltb]
    simp only [e2,go_sem,reduceAdd,reduceLT,reduceLeDiff,reduceEqDiff]
    refine hK1 _ ?_
    refine runOpsW_cut 14 fun K1 hK1 => ?_
    simp only [ltb,go_sem,reduceAdd,reduceLT,reduceEqDiff]
    refine hK1 _ ?_
    simp only [ltb,go_sem,reduceAdd,reduceLT,reduceEqDiff]
    refine hK _ _ rfl ?_
    simp only [mwb,reduceAdd,reduceEqDiff]
    refine tri_ret ⟨.inl rfl, ?_⟩
    rw [eqb_false fun e => h2 (by rw [e])]; rfl
  ·rw [eqb_false h1] at e1
   refine runOpsW_cut 14 fun K1 hK1 => ?_
   simp only [ltb]
   simp only [e1,go_sem,reduceAdd,reduceLT,reduceLeDiff,reduceEqDiff]
   refine hK1 _ ?_
   refine runOpsW_cut 14 fun K1 hK1 => ?_
   simp only [ltb,go_sem,reduceAdd,reduceLT,reduceEqDiff]
   refine hK1 _ ?_
   refine runOpsW_cut 14 fun K1 hK1 => ?_
   simp only [ltb,go_sem,reduceAdd,reduceLT,reduceEqDiff]
   refine hK1 _ ?_
   simp only [ltb,go_sem,reduceAdd,reduceLT,reduceEqDiff]
   refine hK _ _ rfl ?_
   simp only [mwb,reduceAdd,reduceEqDiff]
   refine tri_ret ⟨.inl rfl, ?_⟩
   rw [eqb_false fun e => h1 (by rw [e])]; rfl
 ·have e0 : decide (t.kind = u.kind) = false := decide_eq_false h0
  refine runOpsW_cut 14 fun K1 hK1 => ?_
  simp only [ltb]
  simp only [e0,go_sem,reduceAdd,reduceLT,reduceLeDiff,reduceEqDiff]
  refine hK1 _ ?_
  refine runOpsW_cut 14 fun K1 hK1 => ?_
  simp only [ltb,go_sem,reduceAdd,reduceLT,reduceEqDiff]
  refine hK1 _ ?_
  refine runOpsW_cut 14 fun K1 hK1 => ?_
  simp only [ltb,go_sem,reduceAdd,reduceLT,reduceEqDiff]
  refine hK1 _ ?_
  simp only [ltb,go_sem,reduceAdd,reduceLT,reduceEqDiff]
  refine hK _ _ rfl ?_
  simp only [mwb,reduceAdd,reduceEqDiff]
  refine tri_ret ⟨.inl rfl, ?_⟩
  rw [eqb_false fun e => h0 (by rw [e])]; rfl
end Go.Proofs.YtpjdfcigadnhcaaGreatDoor
end

section
namespace Go.Proofs.YtpjdfcigadnhcaaGreatDoor
open Go.Eng
variable [Glob]
set_option maxHeartbeats 4000000
set_option maxRecDepth 100000
attribute [local irreducible] runM stepM valD stepOp
end Go.Proofs.YtpjdfcigadnhcaaGreatDoor
end

section
namespace Go.Proofs.YtpjdfcigadnhcaaGreatDoor
open Go.Eng
open Nat (reduceAdd reduceLT reduceLeDiff reduceMul reduceEqDiff reduceSub)
variable [Glob]
set_option maxRecDepth 100000
set_option maxHeartbeats 4000000
attribute [local irreducible] runM stepM valD
theorem rmsize_ok (m : Md) (hm : m.bulk ≤ 1048576) : FnOk Tryz.prog 13 [encMd m] (num m.size) := by
 unfold Md.bulk at hm
 have hdl := length_le_sum Dc.bulk Dc.bulk_pos m.decls
 have hle : ∀ i, sumBy Dc.size (m.decls.take i) ≤ 1048576 := fun i => by
  have h1 := sumBy_take_le Dc.bulk m.decls i
  have h2 : ∀ l : List Dc, sumBy Dc.size l ≤ sumBy Dc.bulk l := fun l => by
   induction l with
   | nil => simp [sumBy]
   | cons a r ih => have := Dc.size_le a; simp only [sumBy]; omega
  have := h2 (m.decls.take i); omega
 refine fn_ok tt_ok (fn := Tryz.f13) Tryz.func13 rfl Tryz.call13 ?_
 simp only [ltb,startSt,Tryz.ntmps13,List.length_cons,List.length_nil,reduceAdd,reduceSub,List.replicate_succ,List.replicate_zero]
 rw [encMd_eq]
 simp only [mdCells]
 refine tri_seq_region tt_ok fun K hK => ?_
 simp only [go_sem]
 refine hK _ ?_
 have hw1 := i64_c (1 + (m.imports.length : Int)) (1 + m.imports.length) (by omega) (by omega)
 refine tri_seq_region tt_ok fun K hK => ?_
 simp only [List.length_map,hw1,go_sem,reduceAdd,reduceLeDiff]
 refine hK _ ?_
 refine tri_seq ?_
 refine tri_seq_region tt_ok fun K hK => ?_
 simp only [go_sem]
 refine hK _ ?_
 refine tri_block (tri_loop_inv (fun N st => ∃ (i : Nat), N = m.decls.length - i ∧ i ≤ m.decls.length ∧
  st = { fr := [.undef, .ptr 0 0, .undef, num ((1 + m.imports.length + sumBy Dc.size (m.decls.take i) : Nat)), num i] ++ List.replicate 73 .undef, mem := [.box [str m.path, .slice (m.imports.map encIm), .slice (m.decls.map encDc)]] }) m.decls.length ?_ ?_)
 ·exact ⟨1, [false,true,false,true,true], by omega, by simp only [maskFr,belowV,reduceLT,mkb], by simp only [List.all_cons,List.all_nil,belowV,belowB,Bool.and_self,List.take_succ_cons,List.take_nil], 0, by omega, by omega, rfl⟩
 ·rintro N' st ⟨i, rfl, hi, rfl⟩
  simp only [ltb,List.replicate_succ,List.replicate_zero]
  refine tri_seq ?_
  by_cases hlt : i < m.decls.length
  ·have hd := lt_dec hlt
   refine tri_seq_region tt_ok fun K hK => ?_
   simp only [List.length_map,hd,go_sem]
   refine hK _ ?_
   refine tri_cond rfl (tri_skip ?_)
   refine tri_seq (tri_block ?_)
   obtain ⟨d, hdd⟩ : ∃ d, m.decls[i]? = some d := ⟨_, List.getElem?_eq_getElem hlt⟩
   have hds := sumBy_mem Dc.bulk hdd
   have hdb : d.bulk = 1 + d.params.length + sumBy (fun p => p.bound.size) d.params + d.lower.size + d.upper.size + d.type.size + d.expr.bulk := rfl
   have hts := sumBy_take_succ Dc.size hdd
   have hsz := d.size_le
   have hT := tsize_ok d.type.size d.type (Nat.le_refl _) (by omega)
   have hL := tsize_ok d.lower.size d.lower (Nat.le_refl _) (by omega)
   have hU := tsize_ok d.upper.size d.upper (Nat.le_refl _) (by omega)
   have hE := esize_ok d.expr.bulk d.expr (Nat.le_refl _) (by omega)
   have hC := rclear_ok d (by omega)
   have hse := Ex.size_le_bulk _ d.expr (Nat.le_refl _)
   have hln := hle (i + 1)
   have hl0 := hle i
   rw [encTy_eq] at hT hL hU
   rw [encEx_eq] at hE
   rw [encDc_eq] at hC
   simp only [ltb,tyCells,exCells,dcCells] at hT hL hU hE hC
   have hdc := get_decls m.decls i hdd
   simp only [ltb,tyCells,exCells,dcCells] at hdc
   have hw2 := i64_succ i (by omega)
   have hw3 := i64_c (((1 + m.imports.length + sumBy Dc.size (m.decls.take i) : Nat) : Int) + 1) (1 + m.imports.length + sumBy Dc.size (m.decls.take i) + 1) (by omega) (by omega)
   have hw4 := i64_c (((1 + m.imports.length + sumBy Dc.size (m.decls.take i) + 1 : Nat) : Int) + (d.params.length : Int)) (1 + m.imports.length + sumBy Dc.size (m.decls.take i) + 1 + d.params.length) (by omega) (by omega)
   obtain ⟨S, hS⟩ : ∃ S, S = 1 + m.imports.length + sumBy Dc.size (m.decls.take i) + 1 + d.params.length := ⟨_, rfl⟩
   rw [← hS] at hw4
   refine tri_seq_region tt_ok fun K hK => ?_
   simp only [hdc,go_sem,reduceAdd]
   refine hK _ ?_
   refine tri_seq_region tt_ok fun K hK => ?_
   simp only [List.length_map,hw3,hw4,go_sem,reduceAdd,reduceLeDiff]
   refine hK _ ?_
   refine tri_seq ?_
   by_cases h1 : d.kind = 1
   ·have d1 : decide (d.kind = 1) = true := decide_eq_true h1
    have d0 : decide (d.kind = 0) = false := decide_eq_false (by omega)
    have hdz : d.size = 1 + d.params.length + (d.type.size + d.expr.size + sumBy (fun p => p.bound.size) d.params) := by unfold Dc.size; rw [if_neg (by omega), if_pos h1]
    refine tri_seq_region tt_ok fun K hK => ?_
    simp only [d1,go_sem,reduceAdd,reduceLeDiff]
    refine hK _ ?_
    refine tri_cond rfl ?_
    show Tri _ _ _ _ _ _
    refine tri_seq ?_
    refine tri_seq_region tt_ok fun K hK => ?_
    simp only [go_sem]
    refine hK _ ?_
    refine tri_block (tri_loop_inv (fun N st => ∃ (j : Nat), N = d.params.length - j ∧ j ≤ d.params.length ∧
     st = { fr := [.undef, .ptr 0 0, .undef, num ((S + sumBy (fun p => p.bound.size) (d.params.take j) : Nat)), num i, .ptr 1 0, num j] ++ List.replicate 71 .undef, mem := [.box [str m.path, .slice (m.imports.map encIm), .slice (m.decls.map encDc)], .box (dcCells d)] }) d.params.length ?_ ?_)
    ·exact ⟨2, [false,true,false,true,true,true,true], by omega, by simp only [maskFr,belowV,reduceLT,mkb], by simp only [List.all_cons,List.all_nil,belowV,belowB,Bool.and_self,List.take_succ_cons,List.take_nil], 0, by omega, by omega, rfl⟩
    ·rintro N' st ⟨j, rfl, hj, rfl⟩
     simp only [ltb,List.replicate_succ,List.replicate_zero,dcCells,tyCells,exCells]
     refine tri_seq ?_
     by_cases hlt2 : j < d.params.length
     ·have hd2 := lt_dec hlt2
      obtain ⟨p, hp⟩ : ∃ p, d.params[j]? = some p := ⟨_, List.getElem?_eq_getElem hlt2⟩
      have hps := sumBy_mem (fun p : Pm => p.bound.size) hp
      have hpt := sumBy_take_succ (fun p : Pm => p.bound.size) hp
      have hpl := sumBy_take_le (fun p : Pm => p.bound.size) d.params (j + 1)
      have hP := tsize_ok p.bound.size p.bound (Nat.le_refl _) (by omega)
      rw [encTy_eq] at hP
      simp only [tyCells] at hP
      have hpc := get_params d.params j hp
      simp only [ltb,tyCells] at hpc
      have hw7 := i64_c (((S + sumBy (fun p => p.bound.size) (d.params.take j) : Nat) : Int) + (p.bound.size : Int)) (S + sumBy (fun p => p.bound.size) (d.params.take (j + 1))) (by omega) (by omega)
      have hw8 := i64_succ j (by omega)
      refine tri_seq_region tt_ok fun K hK => ?_
      simp only [List.length_map,hd2,go_sem,reduceAdd,reduceLeDiff]
      refine hK _ ?_
      refine tri_cond rfl (tri_skip ?_)
      refine tri_seq (tri_block ?_)
      refine tri_last_region tt_ok fun K hK => ?_
      simp only [hpc,go_sem,reduceAdd,reduceLeDiff]
      refine .inl ⟨_, _, by simp only [go_sem], hP, ?_⟩
      try simp only [go_sem]
      refine hK _ ?_
      rw [hw7]
      show Tri _ _ _ _ _ _
      refine tri_last_region tt_ok fun K hK => ?_
      simp only [go_sem]
      refine hK _ ?_
      rw [hw8]
      exact ⟨d.params.length - (j + 1), by omega, 2, [false,true,false,true,true,true,true], by omega, by simp only [maskFr,belowV,reduceLT,mkb], by simp only [List.all_cons,List.all_nil,belowV,belowB,Bool.and_self,List.take_succ_cons,List.take_nil], j + 1, rfl, hlt2, by simp [rp,maskFr]⟩
     ·have hd2 := ge_dec hlt2
      have hje : j = d.params.length := by omega
      subst hje
      refine tri_seq_region tt_ok fun K hK => ?_
      simp only [List.length_map,hd2,go_sem,reduceAdd,reduceLeDiff]
      refine hK _ ?_
      refine tri_cond rfl (tri_exit ?_)
      rw [List.take_length]
      show Tri _ _ _ _ _ _
      have hw5 := i64_c (((S + sumBy (fun p => p.bound.size) d.params : Nat) : Int) + (d.type.size : Int)) (S + sumBy (fun p => p.bound.size) d.params + d.type.size) (by omega) (by omega)
      have hw6 := i64_c (((S + sumBy (fun p => p.bound.size) d.params + d.type.size : Nat) : Int) + (d.expr.size : Int)) (S + sumBy (fun p => p.bound.size) d.params + d.type.size + d.expr.size) (by omega) (by omega)
      refine tri_last_mixed tt_ok mixed_ok [⟨.n, 0, [], []⟩, ⟨.n, 0, [], []⟩, ⟨.r, 0, [], []⟩, ⟨.n, 0, [], []⟩, ⟨.n, 0, [], []⟩, ⟨.n, 0, [], []⟩, ⟨.r, 0, [], []⟩, ⟨.n, 0, [], []⟩, ⟨.n, 0, [], []⟩, ⟨.n, 0, [], []⟩] 0 (by kernel_rfl) fun K hK => ?_
      simp only [go_sem,reduceAdd,reduceLeDiff,List.replicate]
      refine ⟨_, _, by simp only [go_sem], .inl (hT), ?_⟩
      try simp only [hw5,go_sem,reduceAdd,reduceLeDiff]
      refine ⟨_, _, by simp only [go_sem], .inl (hE), ?_⟩
      try simp only [hw6,go_sem]
      refine hK _ ?_
      show Tri _ _ _ _ _ _
      refine tri_seq_region tt_ok fun K hK => ?_
      simp only [d0,go_sem,reduceAdd,reduceLeDiff]
      refine hK _ ?_
      refine tri_cond rfl (tri_skip ?_)
      show Tri _ _ _ _ _ _
      refine tri_last_region tt_ok fun K hK => ?_
      simp only [go_sem]
      refine hK _ ?_
      rw [hw2]
      have hfin : S + sumBy (fun p => p.bound.size) d.params + d.type.size + d.expr.size = 1 + m.imports.length + sumBy Dc.size (m.decls.take (i + 1)) := by omega
      rw [hfin]
      exact ⟨m.decls.length - (i + 1), by omega, 1, [false,true,false,true,true], by omega, by simp only [maskFr,belowV,reduceLT,mkb], by simp only [ltb,List.all_cons,List.all_nil,belowV,belowB,Bool.and_self], i + 1, rfl, hlt, by simp [rp,maskFr]⟩
   ·have d1 : decide (d.kind = 1) = false := decide_eq_false h1
    refine tri_seq_region tt_ok fun K hK => ?_
    simp only [d1,go_sem,reduceAdd,reduceLeDiff]
    refine hK _ ?_
    refine tri_cond rfl (tri_skip ?_)
    show Tri _ _ _ _ _ _
    by_cases h0 : d.kind = 0
    ·have d0 : decide (d.kind = 0) = true := decide_eq_true h0
     refine tri_seq_region tt_ok fun K hK => ?_
     simp only [d0,go_sem,reduceAdd,reduceLeDiff]
     refine hK _ ?_
     refine tri_cond rfl ?_
     have hw5 := i64_c ((S : Int) + (d.type.size : Int)) (S + d.type.size) (by omega) (by omega)
     refine tri_seq_region tt_ok fun K hK => ?_
     simp only [go_sem,reduceAdd,reduceLeDiff]
     refine .inl ⟨_, _, by simp only [go_sem], hT, ?_⟩
     try simp only [hw5,go_sem]
     refine hK _ ?_
     cases hcl : d.clear with
     | true =>
      have hdz : d.size = 1 + d.params.length + d.type.size := by unfold Dc.size; rw [if_pos h0, if_pos hcl, Nat.add_zero]
      rw [hcl] at hC
      refine tri_seq_region tt_ok fun K hK => ?_
      simp only [go_sem,reduceAdd]
      refine .inl ⟨_, _, by simp only [go_sem], hC, ?_⟩
      try simp only [go_sem]
      refine hK _ ?_
      refine tri_cond rfl (tri_skip ?_)
      show Tri _ _ _ _ _ _
      refine tri_last_region tt_ok fun K hK => ?_
      simp only [go_sem]
      refine hK _ ?_
      rw [hw2]
      have hfin : S + d.type.size = 1 + m.imports.length + sumBy Dc.size (m.decls.take (i + 1)) := by omega
      rw [hfin]
      exact ⟨m.decls.length - (i + 1), by omega, 1, [false,true,false,true,true], by omega, by simp only [maskFr,belowV,reduceLT,mkb], by simp only [ltb,List.all_cons,List.all_nil,belowV,belowB,Bool.and_self], i + 1, rfl, hlt, by simp [rp,maskFr]⟩
     | false =>
      have hdz : d.size = 1 + d.params.length + (d.type.size + (d.lower.size + d.upper.size)) := by unfold Dc.size; rw [if_pos h0, if_neg (by rw [hcl]; simp)]
      rw [hcl] at hC
      refine tri_seq_region tt_ok fun K hK => ?_
      simp only [go_sem,reduceAdd]
      refine .inl ⟨_, _, by simp only [go_sem], hC, ?_⟩
      try simp only [go_sem]
      refine hK _ ?_
      refine tri_cond rfl ?_
      show Tri _ _ _ _ _ _
      have hw6 := i64_c (((S + d.type.size : Nat) : Int) + (d.lower.size : Int)) (S + d.type.size + d.lower.size) (by omega) (by omega)
      have hw7 := i64_c (((S + d.type.size + d.lower.size : Nat) : Int) + (d.upper.size : Int)) (S + d.type.size + d.lower.size + d.upper.size) (by omega) (by omega)
      refine tri_last_mixed tt_ok mixed_ok [⟨.n, 0, [], []⟩, ⟨.n, 0, [], []⟩, ⟨.r, 0, [], []⟩, ⟨.n, 0, [], []⟩, ⟨.n, 0, [], []⟩, ⟨.n, 0, [], []⟩, ⟨.r, 0, [], []⟩, ⟨.n, 0, [], []⟩, ⟨.n, 0, [], []⟩, ⟨.n, 0, [], []⟩] 0 (by kernel_rfl) fun K hK => ?_
      simp only [go_sem,reduceAdd,reduceLeDiff,List.replicate]
      refine ⟨_, _, by simp only [go_sem], .inl (hL), ?_⟩
      try simp only [hw6,go_sem,reduceAdd,reduceLeDiff]
      refine ⟨_, _, by simp only [go_sem], .inl (hU), ?_⟩
      try simp only [hw7,go_sem]
      refine hK _ ?_
      show Tri _ _ _ _ _ _
      refine tri_last_region tt_ok fun K hK => ?_
      simp only [go_sem]
      refine hK _ ?_
      rw [hw2]
      have hfin : S + d.type.size + d.lower.size + d.upper.size = 1 + m.imports.length + sumBy Dc.size (m.decls.take (i + 1)) := by omega
      rw [hfin]
      exact ⟨m.decls.length - (i + 1), by omega, 1, [false,true,false,true,true], by omega, by simp only [maskFr,belowV,reduceLT,mkb], by simp only [ltb,List.all_cons,List.all_nil,belowV,belowB,Bool.and_self], i + 1, rfl, hlt, by simp [rp,maskFr]⟩
    ·have d0 : decide (d.kind = 0) = false := decide_eq_false h0
     have hdz : d.size = 1 + d.params.length := by unfold Dc.size; rw [if_neg h0, if_neg h1]; rfl
     refine tri_seq_region tt_ok fun K hK => ?_
     simp only [d0,go_sem,reduceAdd,reduceLeDiff]
     refine hK _ ?_
     refine tri_cond rfl (tri_skip ?_)
     show Tri _ _ _ _ _ _
     refine tri_last_region tt_ok fun K hK => ?_
     simp only [go_sem]
     refine hK _ ?_
     rw [hw2]
     have hfin : S = 1 + m.imports.length + sumBy Dc.size (m.decls.take (i + 1)) := by omega
     rw [hfin]
     exact ⟨m.decls.length - (i + 1), by omega, 1, [false,true,false,true,true], by omega, by simp only [maskFr,belowV,reduceLT,mkb], by simp only [ltb,List.all_cons,List.all_nil,belowV,belowB,Bool.and_self], i + 1, rfl, hlt, by simp [rp,maskFr]⟩
  ·have hd := ge_dec hlt
   refine tri_seq_region tt_ok fun K hK => ?_
   simp only [List.length_map,hd,go_sem]
   refine hK _ ?_
   refine tri_cond rfl (tri_exit ?_)
   have hie : i = m.decls.length := by omega
   subst hie
   show Tri _ _ _ _ _ _
   refine tri_seq_region tt_ok fun K hK => ?_
   simp only [go_sem]
   refine hK _ ?_
   refine tri_ret ⟨.inl rfl, ?_⟩
   rw [List.take_length]
   rfl
end Go.Proofs.YtpjdfcigadnhcaaGreatDoor
end

section
namespace Go.Proofs.YtpjdfcigadnhcaaGreatDoor
open Go.Eng
open Nat (reduceAdd reduceLT reduceLeDiff reduceMul reduceEqDiff reduceSub)
variable [Glob]
set_option maxRecDepth 100000
set_option maxHeartbeats 4000000
attribute [local irreducible] runM stepM valD
theorem sumBy_le_mul {α : Type} (f : α → Nat) (c : Nat) : ∀ l : List α, (∀ t ∈ l, f t ≤ c) → sumBy f l ≤ l.length * c
 | [], _ => by simp [sumBy]
 | a :: r, h => by
  have h1 := h a (by simp)
  have h2 := sumBy_le_mul f c r fun t ht => h t (by simp [ht])
  simp only [sumBy,List.length_cons,Nat.add_mul,Nat.one_mul]
  omega
theorem fewTypes_ok (k : Int) (ts : List Ty) (hs : ∀ t ∈ ts, t.size ≤ 1048576) (hl : ts.length ≤ 1000) :
  FnOk Tryz.prog 11 [num k, .slice (encTys ts)] (bl (decide ((sumBy Ty.size ts : Int) ≤ k))) := by
 have hle : ∀ i, sumBy Ty.size (ts.take i) ≤ 1048576000 := fun i => by
  have h1 := sumBy_take_le Ty.size ts i
  have h2 := sumBy_le_mul Ty.size 1048576 ts hs
  omega
 refine fn_ok tt_ok (fn := Tryz.f11) Tryz.func11 rfl Tryz.call11 ?_
 simp only [ltb,startSt,Tryz.ntmps11,List.length_cons,List.length_nil,reduceAdd,reduceSub,List.replicate_succ,List.replicate_zero]
 refine tri_seq_region tt_ok fun K hK => ?_
 simp only [go_sem,reduceIte,reduceAdd,reduceLT,reduceLeDiff,reduceMul,reduceEqDiff,reduceSub,reduceCtorEq]
 refine hK _ ?_
 refine tri_seq_region tt_ok fun K hK => ?_
 simp only [go_sem,reduceIte,reduceAdd,reduceLT,reduceLeDiff,reduceMul,reduceEqDiff,reduceSub,reduceCtorEq]
 refine hK _ ?_
 refine tri_seq ?_
 refine tri_seq_region tt_ok fun K hK => ?_
 simp only [length_encTys,go_sem,reduceIte,reduceAdd,reduceLT,reduceLeDiff,reduceMul,reduceEqDiff,reduceSub,reduceCtorEq]
 refine hK _ ?_
 refine tri_block (tri_loop_inv (fun N st => ∃ (i : Nat), N = ts.length - i ∧ i ≤ ts.length ∧
  st = { fr := [num k, .undef, .undef, .undef, .undef, num ((sumBy Ty.size (ts.take i) : Nat)), .undef, .undef, .slice (encTys ts), num ts.length, num i] ++ List.replicate 11 .undef, mem := [] }) ts.length ?_ ?_)
 ·exact ⟨0, [true,false,false,false,false,true,false,false,true,true,true], by omega, by simp only [maskFr,belowV,belowL,belowB,reduceLT,mkb], rfl, 0, by omega, by omega, rfl⟩
 ·rintro N' st ⟨i, rfl, hi, rfl⟩
  simp only [ltb,List.replicate_succ,List.replicate_zero]
  by_cases hlt : i < ts.length
  ·have hd := lt_dec hlt
   refine tri_seq_region tt_ok fun K hK => ?_
   simp only [hd,go_sem,reduceIte,reduceAdd,reduceLT,reduceLeDiff,reduceMul,reduceEqDiff,reduceSub,reduceCtorEq]
   refine hK _ ?_
   refine tri_seq (tri_cond rfl (tri_skip ?_))
   refine tri_seq (tri_block ?_)
   obtain ⟨t, ht⟩ : ∃ t, ts[i]? = some t := ⟨_, List.getElem?_eq_getElem hlt⟩
   have htt := hs t (List.mem_of_getElem? ht)
   have hst := sumBy_take_succ Ty.size ht
   have hl1 := hle (i + 1)
   have hT := tsize_ok t.size t (Nat.le_refl _) htt
   rw [encTy_eq] at hT
   simp only [tyCells] at hT
   have hw1 := i64_c (((sumBy Ty.size (ts.take i) : Nat) : Int) + (t.size : Int)) (sumBy Ty.size (ts.take (i + 1))) (by omega) (by omega)
   have hw2 := i64_succ i (by omega)
   refine tri_seq_region tt_ok fun K hK => ?_
   simp only [get_encTys,ht,encTy_eq,tyCells,go_sem,reduceIte,reduceAdd,reduceLT,reduceLeDiff,reduceMul,reduceEqDiff,reduceSub,reduceCtorEq]
   refine hK _ ?_
   refine tri_last_region tt_ok fun K hK => ?_
   simp only [go_sem,reduceIte,reduceAdd,reduceLT,reduceLeDiff,reduceMul,reduceEqDiff,reduceSub,reduceCtorEq]
   refine .inl ⟨_, _, by simp only [hw1,go_sem,reduceIte,reduceAdd,reduceLT,reduceLeDiff,reduceMul,reduceEqDiff,reduceSub,reduceCtorEq,List.take_length], hT, ?_⟩
   try simp only [hw1,go_sem,reduceIte,reduceAdd,reduceLT,reduceLeDiff,reduceMul,reduceEqDiff,reduceSub,reduceCtorEq]
   refine hK _ ?_
   show Tri _ _ _ _ _ _
   refine tri_last_region tt_ok fun K hK => ?_
   simp only [go_sem,reduceIte,reduceAdd,reduceLT,reduceLeDiff,reduceMul,reduceEqDiff,reduceSub,reduceCtorEq]
   refine hK _ ?_
   rw [hw2]
   exact ⟨ts.length - (i + 1), by omega, 0, [true,false,false,false,false,true,false,false,true,true,true], by omega, by simp only [maskFr,belowV,belowL,belowB,reduceLT,mkb], rfl, i + 1, rfl, hlt, by simp [rp,maskFr]⟩
  ·have hd := ge_dec hlt
   refine tri_seq_region tt_ok fun K hK => ?_
   simp only [hd,go_sem,reduceIte,reduceAdd,reduceLT,reduceLeDiff,reduceMul,reduceEqDiff,reduceSub,reduceCtorEq]
   refine hK _ ?_
   refine tri_seq (tri_cond rfl (tri_exit ?_))
   have hie : i = ts.length := by omega
   subst hie
   show Tri _ _ _ _ _ _
   refine tri_seq_region tt_ok fun K hK => ?_
   simp only [go_sem,reduceIte,reduceAdd,reduceLT,reduceLeDiff,reduceMul,reduceEqDiff,reduceSub,reduceCtorEq]
   refine hK _ ?_
   refine tri_ret ⟨.inl rfl, ?_⟩
   rw [List.take_length]
   rfl

theorem memAfter_bl (mem : List Blk) (keys : List (Nat × Nat)) (b : Bool) : memAfter mem keys (bl b) = mem := rfl
end Go.Proofs.YtpjdfcigadnhcaaGreatDoor
end

section
namespace Go.Proofs.YtpjdfcigadnhcaaGreatDoor
open Go.Eng
variable [Glob]
set_option maxRecDepth 100000
set_option maxHeartbeats 4000000
attribute [local irreducible] runM stepM valD

end Go.Proofs.YtpjdfcigadnhcaaGreatDoor
end

section
namespace Go.Proofs.YtpjdfcigadnhcaaGreatDoor
open Go.Eng
variable [Glob]
set_option maxHeartbeats 4000000
set_option maxRecDepth 100000
attribute [local irreducible] runM stepM valD stepOp

theorem Ex.kid_bulk {t a : Ex} {i : Nat} (h : t.kids[i]? = some a) : a.bulk < t.bulk := by
 have := sumBy_mem Ex.bulk h; have := t.bulk_kids; omega
theorem Ex.type_size {t : Ex} {a : Ty} {i : Nat} (h : t.types[i]? = some a) : a.size < t.bulk := by
 have := sumBy_mem Ty.size h; have := t.bulk_eq; omega
theorem Ex.label_size {t : Ex} {a : Lb} {i : Nat} (h : t.labels[i]? = some a) : a.ty.size < t.bulk := by
 have h1 := sumBy_mem Lb.bulk h; have h2 := t.bulk_eq; have h3 : a.bulk = 1 + a.ty.size := rfl; omega
theorem seqEx_ok : ∀ (N : Nat) (t u : Ex), t.bulk ≤ N → N ≤ 1048576 → FnOk Tryz.prog 28 [encEx t, encEx u] (bl (eqb t u)) := by
 intro N
 induction N with
 | zero => intro t u h; have := t.bulk_pos; omega
 | succ N ih =>
  intro t u hN hb
  have h1 := t.own_len
  have h2 := t.kids_length
  exact seqEx1_ok t u (equalTys_ok 24 t.types u.types (by omega) fun i a b ha _ => seqTy_ok a.size a b (Nat.le_refl _) (by have := Ex.type_size ha; omega))
   (equalExs_ok 28 t.kids u.kids (by omega) fun i a b ha _ => ih a b (by have := Ex.kid_bulk ha; omega) (by omega))
   (equalLbs_ok 71 t.labels u.labels (by omega) fun i a b ha _ => eqLb_ok a b (seqTy_ok a.ty.size a.ty b.ty (Nat.le_refl _) (by have := Ex.label_size ha; omega)))
theorem Dc.ext' {t u : Dc} (h0 : t.kind = u.kind) (h1 : t.name = u.name) (h2 : t.exported = u.exported) (h3 : t.deprecated = u.deprecated) (h4 : t.note = u.note) (h5 : t.params = u.params) (h6 : t.lower = u.lower) (h7 : t.upper = u.upper) (h8 : t.type = u.type) (h9 : t.expr = u.expr) (h10 : t.mod = u.mod) (h11 : t.target = u.target) : t = u := by
 cases t; cases u; simp_all

end Go.Proofs.YtpjdfcigadnhcaaGreatDoor
end

section
namespace Go.Proofs.YtpjdfcigadnhcaaGreatDoor
open Go.Eng
open Nat (reduceAdd reduceLT reduceLeDiff reduceMul reduceEqDiff reduceSub)
variable [Glob]
set_option maxHeartbeats 4000000
set_option maxRecDepth 100000
attribute [local irreducible] runM stepM valD stepOp

theorem seqDc1_ok (t u : Dc) (hps : FnOk Tryz.prog 108 [.slice (t.params.map encPm), .slice (u.params.map encPm), .sc (.func (.func 109) #[] #[])] (bl (eqb t.params u.params))) (hlower : FnOk Tryz.prog 24 [encTy t.lower, encTy u.lower] (bl (eqb t.lower u.lower))) (hupper : FnOk Tryz.prog 24 [encTy t.upper, encTy u.upper] (bl (eqb t.upper u.upper))) (htype : FnOk Tryz.prog 24 [encTy t.type, encTy u.type] (bl (eqb t.type u.type))) (hexpr : FnOk Tryz.prog 28 [encEx t.expr, encEx u.expr] (bl (eqb t.expr u.expr))) : FnOk Tryz.prog 74 [encDc t, encDc u] (bl (eqb t u)) := by
 refine fn_ok tt_ok (fn := Tryz.f74) Tryz.func74 rfl Tryz.call74 ?_
 simp only [ltb,startSt,Tryz.ntmps74,List.length_cons,List.length_nil,reduceAdd,reduceSub,List.replicate_succ,List.replicate_zero]
 have hT : Tryz.prog.underlying 4 = some .bool := by kernel_rfl
 have hbe := fun x y => ev_beql (P := Tryz.prog) (T := 4) x y hT
 have hbn := fun x y => ev_bneq (P := Tryz.prog) (T := 4) x y hT
 simp only [ltb,encDc_eq,dcCells,tyCells,exCells]
 refine tri_seq_region tt_ok fun K hK => ?_
 simp only [go_sem]
 refine hK _ ?_
 refine tri_seq ?_
 have e1 := bytes_eq t.name u.name
 have e4 := bytes_eq t.note u.note
 have e5 := bytes_eq t.mod u.mod
 have e6 := bytes_eq t.target u.target
 refine tri_seq_region_w tt_ok 85 (0::0::0::0::0::(rp 46 1 [2])) [(5, 10), (12, 17), (19, 24), (26, 31), (33, 38), (40, 45)] rfl rfl fun K hK => ?_
 by_cases h0 : t.kind = u.kind
 ·have e0 : decide (t.kind = u.kind) = true := decide_eq_true h0
  refine runOpsW_cut 6 fun K1 hK1 => ?_
  simp only [ltb]
  simp only [e0,go_sem,reduceAdd,reduceLT,reduceLeDiff,reduceEqDiff]
  refine hK1 _ ?_
  by_cases h1 : t.name = u.name
  ·rw [eqb_true h1] at e1
   refine runOpsW_cut 7 fun K1 hK1 => ?_
   simp only [ltb]
   simp only [e1,go_sem,reduceAdd,reduceLT,reduceLeDiff,reduceEqDiff]
   refine hK1 _ ?_
   by_cases h2 : t.exported = u.exported
   ·have e2 : (t.exported == u.exported) = true := by simpa using h2
    refine runOpsW_cut 7 fun K1 hK1 => ?_
    simp only [ltb]
    simp only [e2,hbn,go_sem,reduceAdd,reduceLT,reduceLeDiff,reduceEqDiff]
    refine hK1 _ ?_
    by_cases h3 : t.deprecated = u.deprecated
    ·have e3 : (t.deprecated == u.deprecated) = true := by simpa using h3
     refine runOpsW_cut 7 fun K1 hK1 => ?_
     simp only [ltb]
     simp only [e3,hbn,go_sem,reduceAdd,reduceLT,reduceLeDiff,reduceEqDiff]
     refine hK1 _ ?_
     by_cases h4 : t.note = u.note
     ·rw [eqb_true h4] at e4
      refine runOpsW_cut 7 fun K1 hK1 => ?_
      simp only [ltb]
      simp only [e4,go_sem,reduceAdd,reduceLT,reduceLeDiff,reduceEqDiff]
      refine hK1 _ ?_
      by_cases h5 : t.mod = u.mod
      ·rw [eqb_true h5] at e5
       refine runOpsW_cut 7 fun K1 hK1 => ?_
       simp only [ltb]
       simp only [e5,go_sem,reduceAdd,reduceLT,reduceLeDiff,reduceEqDiff]
       refine hK1 _ ?_
       by_cases h6 : t.target = u.target
       ·rw [eqb_true h6] at e6
        try simp only [ltb]
        simp only [e6,go_sem,reduceAdd,reduceLT,reduceEqDiff]
        refine hK _ _ rfl ?_
        simp only [mwb,reduceAdd,reduceEqDiff]
        refine tri_cond rfl (tri_skip ?_)
        show Tri _ _ _ _ _ _
        have e80 := hlower
        try simp only [encTy_eq] at e80
        try simp only [tyCells] at e80
        have e81 := hupper
        try simp only [encTy_eq] at e81
        try simp only [tyCells] at e81
        have e82 := htype
        try simp only [encTy_eq] at e82
        try simp only [tyCells] at e82
        have e83 := hexpr
        try simp only [encEx_eq] at e83
        try simp only [exCells] at e83
        have e84 := hps
        try simp only [encTy_eq,encEx_eq] at e84
        try simp only [tyCells,exCells] at e84
        refine tri_seq_region_w tt_ok 85 (0::0::0::0::2::(rp 47 0 (rp 33 1 []))) [(5, 57), (12, 64), (19, 71), (26, 78)] rfl rfl fun K hK => ?_
        by_cases h80 : t.lower = u.lower
        ·rw [eqb_true h80] at e80
         refine runOpsW_cut 6 fun K1 hK1 => ?_
         simp only [ltb,go_sem,reduceAdd,reduceLT,reduceLeDiff,reduceEqDiff]
         refine .inl ⟨_, _, by simp only [go_sem], e80, ?_⟩
         try simp only [go_sem,reduceLT,reduceEqDiff]
         refine hK1 _ ?_
         by_cases h81 : t.upper = u.upper
         ·rw [eqb_true h81] at e81
          refine runOpsW_cut 7 fun K1 hK1 => ?_
          simp only [ltb,go_sem,reduceAdd,reduceLT,reduceLeDiff,reduceEqDiff]
          refine .inl ⟨_, _, by simp only [go_sem], e81, ?_⟩
          try simp only [go_sem,reduceLT,reduceEqDiff]
          refine hK1 _ ?_
          by_cases h82 : t.type = u.type
          ·rw [eqb_true h82] at e82
           refine runOpsW_cut 7 fun K1 hK1 => ?_
           simp only [ltb,go_sem,reduceAdd,reduceLT,reduceLeDiff,reduceEqDiff]
           refine .inl ⟨_, _, by simp only [go_sem], e82, ?_⟩
           try simp only [go_sem,reduceLT,reduceEqDiff]
           refine hK1 _ ?_
           by_cases h83 : t.expr = u.expr
           ·rw [eqb_true h83] at e83
            refine runOpsW_cut 7 fun K1 hK1 => ?_
            simp only [ltb,go_sem,reduceAdd,reduceLT,reduceLeDiff,reduceEqDiff]
            refine .inl ⟨_, _, by simp only [go_sem], e83, ?_⟩
            try simp only [go_sem,reduceLT,reduceEqDiff]
            refine hK1 _ ?_
            by_cases h84 : t.params = u.params
            ·rw [eqb_true h84] at e84
             simp only [ltb,go_sem,reduceAdd,reduceLT,reduceLeDiff,reduceEqDiff]
             refine .inl ⟨_, _, by simp only [go_sem], e84, ?_⟩
             try simp only [go_sem,reduceLT,reduceEqDiff]
             refine hK _ _ rfl ?_
             simp only [mwb,reduceAdd,reduceEqDiff]
             refine tri_ret ⟨.inl rfl, ?_⟩
             rw [eqb_true (Dc.ext' h0 h1 h2 h3 h4 h84 h80 h81 h82 h83 h5 h6)]; rfl
            ·rw [eqb_false h84] at e84
             simp only [ltb,go_sem,reduceAdd,reduceLT,reduceLeDiff,reduceEqDiff]
             refine .inl ⟨_, _, by simp only [go_sem], e84, ?_⟩
             try simp only [go_sem,reduceLT,reduceEqDiff]
             refine hK _ _ rfl ?_
             simp only [mwb,reduceAdd,reduceEqDiff]
             refine tri_ret ⟨.inl rfl, ?_⟩
             rw [eqb_false fun e => h84 (by rw [e])]; rfl
           ·rw [eqb_false h83] at e83
            simp only [ltb,go_sem,reduceAdd,reduceLT,reduceLeDiff,reduceEqDiff]
            refine .inl ⟨_, _, by simp only [go_sem], e83, ?_⟩
            try simp only [go_sem,reduceLT,reduceEqDiff]
            refine hK _ _ rfl ?_
            simp only [mwb,reduceAdd,reduceEqDiff]
            refine tri_ret ⟨.inl rfl, ?_⟩
            rw [eqb_false fun e => h83 (by rw [e])]; rfl
          ·rw [eqb_false h82] at e82
           refine runOpsW_cut 14 fun K1 hK1 => ?_
           simp only [ltb,go_sem,reduceAdd,reduceLT,reduceLeDiff,reduceEqDiff]
           refine .inl ⟨_, _, by simp only [go_sem], e82, ?_⟩
           try simp only [go_sem,reduceLT,reduceEqDiff]
           refine hK1 _ ?_
           simp only [ltb,go_sem,reduceAdd,reduceLT,reduceEqDiff]
           refine hK _ _ rfl ?_
           simp only [mwb,reduceAdd,reduceEqDiff]
           refine tri_ret ⟨.inl rfl, ?_⟩
           rw [eqb_false fun e => h82 (by rw [e])]; rfl
         ·rw [eqb_false h81] at e81
          refine runOpsW_cut 14 fun K1 hK1 => ?_
          simp only [ltb,go_sem,reduceAdd,reduceLT,reduceLeDiff,reduceEqDiff]
          refine .inl ⟨_, _, by simp only [go_sem], e81, ?_⟩
          try simp only [go_sem,reduceLT,reduceEqDiff]
          refine hK1 _ ?_
          simp only [ltb,go_sem,reduceAdd,reduceLT,reduceEqDiff]
          refine hK _ _ rfl ?_
          simp only [mwb,reduceAdd,reduceEqDiff]
          refine tri_ret ⟨.inl rfl, ?_⟩
          rw [eqb_false fun e => h81 (by rw [e])]; rfl
        ·rw [eqb_false h80] at e80
         refine runOpsW_cut 14 fun K1 hK1 => ?_
         simp only [ltb,go_sem,reduceAdd,reduceLT,reduceLeDiff,reduceEqDiff]
         refine .inl ⟨_, _, by simp only [go_sem], e80, ?_⟩
         try simp only [go_sem,reduceLT,reduceEqDiff]
         refine hK1 _ ?_
         refine runOpsW_cut 14 fun K1 hK1 => ?_
         simp only [ltb,go_sem,reduceAdd,reduceLT,reduceEqDiff]
         refine hK1 _ ?_
         simp only [ltb,go_sem,reduceAdd,reduceLT,reduceEqDiff]
         refine hK _ _ rfl ?_
         simp only [mwb,reduceAdd,reduceEqDiff]
         refine tri_ret ⟨.inl rfl, ?_⟩
         rw [eqb_false fun e => h80 (by rw [e])]; rfl
       ·rw [eqb_false h6] at e6
        try simp only [ltb]
        simp only [e6,go_sem,reduceAdd,reduceLT,reduceEqDiff]
        refine hK _ _ rfl ?_
        simp only [mwb,reduceAdd,reduceEqDiff]
        refine tri_cond rfl ?_
        refine tri_seq_region tt_ok fun K hK => ?_
        simp only [go_sem,reduceAdd]
        refine hK _ ?_
        refine tri_ret ⟨.inl rfl, ?_⟩
        rw [eqb_false fun e => h6 (by rw [e])]; rfl
      ·rw [eqb_false h5] at e5
       try simp only [ltb]
       simp only [e5,go_sem,reduceAdd,reduceLT,reduceLeDiff,reduceEqDiff]
       refine hK _ _ rfl ?_
       simp only [mwb,reduceAdd,reduceEqDiff]
       refine tri_cond rfl ?_
       refine tri_seq_region tt_ok fun K hK => ?_
       simp only [go_sem,reduceAdd]
       refine hK _ ?_
       refine tri_ret ⟨.inl rfl, ?_⟩
       rw [eqb_false fun e => h5 (by rw [e])]; rfl
     ·rw [eqb_false h4] at e4
      refine runOpsW_cut 14 fun K1 hK1 => ?_
      simp only [ltb]
      simp only [e4,go_sem,reduceAdd,reduceLT,reduceLeDiff,reduceEqDiff]
      refine hK1 _ ?_
      simp only [ltb,go_sem,reduceAdd,reduceLT,reduceEqDiff]
      refine hK _ _ rfl ?_
      simp only [mwb,reduceAdd,reduceEqDiff]
      refine tri_cond rfl ?_
      refine tri_seq_region tt_ok fun K hK => ?_
      simp only [go_sem,reduceAdd]
      refine hK _ ?_
      refine tri_ret ⟨.inl rfl, ?_⟩
      rw [eqb_false fun e => h4 (by rw [e])]; rfl
    ·have e3 : (t.deprecated == u.deprecated) = false := by simpa using h3
     refine runOpsW_cut 14 fun K1 hK1 => ?_
     simp only [ltb]
     simp only [e3,hbn,go_sem,reduceAdd,reduceLT,reduceLeDiff,reduceEqDiff]
     refine hK1 _ ?_
     simp only [ltb,go_sem,reduceAdd,reduceLT,reduceEqDiff]
     refine hK _ _ rfl ?_
     simp only [mwb,reduceAdd,reduceEqDiff]
     refine tri_cond rfl ?_
     refine tri_seq_region tt_ok fun K hK => ?_
     simp only [go_sem,reduceAdd]
     refine hK _ ?_
     refine tri_ret ⟨.inl rfl, ?_⟩
     rw [eqb_false fun e => h3 (by rw [e])]; rfl
   ·have e2 : (t.exported == u.exported) = false := by simpa using h2
    refine runOpsW_cut 14 fun K1 hK1 => ?_
    simp only [ltb]
    simp only [e2,hbn,go_sem,reduceAdd,reduceLT,reduceLeDiff,reduceEqDiff]
    refine hK1 _ ?_
    refine runOpsW_cut 14 fun K1 hK1 => ?_
    simp only [ltb,go_sem,reduceAdd,reduceLT,reduceEqDiff]
    refine hK1 _ ?_
    simp only [ltb,go_sem,reduceAdd,reduceLT,reduceEqDiff]
    refine hK _ _ rfl ?_
    simp only [mwb,reduceAdd,reduceEqDiff]
    refine tri_cond rfl ?_
    refine tri_seq_region tt_ok fun K hK => ?_
    simp only [go_sem,reduceAdd]
    refine hK _ ?_
    refine tri_ret ⟨.inl rfl, ?_⟩
    rw [eqb_false fun e => h2 (by rw [e])]; rfl
  ·rw [eqb_false h1] at e1
   refine runOpsW_cut 14 fun K1 hK1 => ?_
   simp only [ltb]
   simp only [e1,go_sem,reduceAdd,reduceLT,reduceLeDiff,reduceEqDiff]
   refine hK1 _ ?_
   refine runOpsW_cut 14 fun K1 hK1 => ?_
   simp only [ltb,go_sem,reduceAdd,reduceLT,reduceEqDiff]
   refine hK1 _ ?_
   simp only [ltb,go_sem,reduceAdd,reduceLT,reduceEqDiff]
   refine hK _ _ rfl ?_
   simp only [mwb,reduceAdd,reduceEqDiff]
   refine tri_cond rfl ?_
   refine tri_seq_region tt_ok fun K hK => ?_
   simp only [go_sem,reduceAdd]
   refine hK _ ?_
   refine tri_ret ⟨.inl rfl, ?_⟩
   rw [eqb_false fun e => h1 (by rw [e])]; rfl
 ·have e0 : decide (t.kind = u.kind) = false := decide_eq_false h0
  refine runOpsW_cut 14 fun K1 hK1 => ?_
  simp only [ltb]
  simp only [e0,go_sem,reduceAdd,reduceLT,reduceLeDiff,reduceEqDiff]
  refine hK1 _ ?_
  refine runOpsW_cut 14 fun K1 hK1 => ?_
  simp only [ltb,go_sem,reduceAdd,reduceLT,reduceEqDiff]
  refine hK1 _ ?_
  refine runOpsW_cut 14 fun K1 hK1 => ?_
  simp only [ltb,go_sem,reduceAdd,reduceLT,reduceEqDiff]
  refine hK1 _ ?_
  simp only [ltb,go_sem,reduceAdd,reduceLT,reduceEqDiff]
  refine hK _ _ rfl ?_
  simp only [mwb,reduceAdd,reduceEqDiff]
  refine tri_cond rfl ?_
  refine tri_seq_region tt_ok fun K hK => ?_
  simp only [go_sem,reduceAdd]
  refine hK _ ?_
  refine tri_ret ⟨.inl rfl, ?_⟩
  rw [eqb_false fun e => h0 (by rw [e])]; rfl
theorem scRunP_seq {P : Program} {T : TypeId} (hT : P.underlying T = some .string) (d : Nat) (a b : ByteArray) : scRunP P (Op.equalIn (d + 1) T (.string a) (.string b)) = some (a == b) := by
 rw [Op.equalIn, scRunP_bind, scRunP_underlying hT]
 rfl
theorem eq109 (a b c d : ByteArray) : scRunP Tryz.prog (Op.equal 109 (.agg #[.string a, .string b]) (.agg #[.string c, .string d])) = some (a == c && b == d) := by
 show scRunP Tryz.prog (Op.equalIn (9999 + 1) 109 _ _) = _
 have h1 := scRunP_seq Tryz.underlying9 9998 a c
 have h2 := scRunP_seq Tryz.underlying9 9998 b d
 have hs : Tryz.prog.stoodInHeld 109 = false := by kernel_rfl
 have hp1 : ∀ x y, scRunP Tryz.prog (part 9 #[x, y] 0) = some x := fun x y => by kernel_rfl
 have hp2 : ∀ x y, scRunP Tryz.prog (part 9 #[x, y] 1) = some y := fun x y => by kernel_rfl
 rw [Op.equalIn, scRunP_bind, scRunP_underlying Tryz.underlying109]
 dsimp only [Option.bind_some]
 rw [scRunP_bind]
 show ((some Tryz.prog).bind _) = _
 rw [Option.bind_some, if_neg (by rw [hs]; simp)]
 rw [← Array.forIn_toList]
 have n1 : ("Path" ≠ "_") := by decide
 have n2 : ("Alias" ≠ "_") := by decide
 have q1 : scRunP Tryz.prog (Op.equalIn 9999 9 (Value.string a) (Value.string c)) = some (a == c) := h1
 have q2 : scRunP Tryz.prog (Op.equalIn 9999 9 (Value.string b) (Value.string d)) = some (b == d) := h2
 have pr : ∀ {α : Type} (x : α), scRunP Tryz.prog (pure x : Sem α) = some x := fun x => rfl
 simp only [List.forIn_cons,List.forIn_nil,scRunP_bind,if_pos n1,if_pos n2,hp1,Option.bind_some,q1]
 cases hac : (a == c)
 ·simp [pr, Option.bind_some]
 ·simp only [Bool.not_true,Bool.false_eq_true,if_false,pr,Option.bind_some,scRunP_bind,hp2,q2,Bool.true_and]
  cases hbd : (b == d) <;> simp [pr]
theorem ev_imneq (x y : Operand) (a b c d : ByteArray) : lift2 Tryz.prog (opB .neq 109 x y) (.agg [str a, str b]) (.agg [str c, str d]) = some (bl (!(a == c && b == d))) := by
 have : scRunP Tryz.prog (do eqGuard .neq 109 x y (.agg #[.string a, .string b]) (.agg #[.string c, .string d]); binOp .neq 109 (.agg #[.string a, .string b]) (.agg #[.string c, .string d])) = some (.bool (!(a == c && b == d))) := by
  have hg : scRunP Tryz.prog (eqGuard .neq 109 x y (.agg #[.string a, .string b]) (.agg #[.string c, .string d])) = some () := by kernel_rfl
  rw [scRunP_bind, hg, Option.bind_some]
  have hb : ∀ u v : Array Value, binOp .neq 109 (.agg u) (.agg v) = (Op.equal 109 (.agg u) (.agg v) >>= fun r => Pure.pure (Value.bool !r)) := fun u v => rfl
  rw [hb, scRunP_bind, eq109]; rfl
 simp only [lift2,toVal,allSc,opB]
 rw [this]; rfl
theorem ba_beq (a b : ByteArray) : (a == b) = eqb a b := by
 obtain ⟨x⟩ := a
 obtain ⟨y⟩ := b
 have h1 : ((⟨x⟩ : ByteArray) == ⟨y⟩) = (x == y) := rfl
 rw [h1]
 by_cases h : x = y
 ·subst h; rw [eqb_true rfl]; simp
 ·rw [eqb_false (fun e => h (by injection e))]; simpa using h
theorem im_eq (f g : Im) : (f.path == g.path && f.alias == g.alias) = eqb f g := by
 rw [ba_beq, ba_beq]
 by_cases h : f = g
 ·subst h; rw [eqb_true rfl, eqb_true rfl, eqb_true rfl]; rfl
 ·rw [eqb_false h]
  by_cases h1 : f.path = g.path
  ·by_cases h2 : f.alias = g.alias
   ·exact absurd (by cases f; cases g; simp_all) h
   ·rw [eqb_false h2, Bool.and_false]
  ·rw [eqb_false h1, Bool.false_and]
theorem equalIms_ok (ts us : List Im) (hl : ts.length ≤ 1048576) : FnOk Tryz.prog 72 [.slice (ts.map encIm), .slice (us.map encIm)] (bl (eqb ts us)) := by
 refine fn_ok tt_ok (fn := Tryz.f72) Tryz.func72 rfl Tryz.call72 ?_
 simp only [ltb,startSt,Tryz.ntmps72,List.length_cons,List.length_nil,reduceAdd,reduceSub,List.replicate_succ,List.replicate_zero]
 refine tri_seq_region tt_ok fun K hK => ?_
 simp only [go_sem]
 refine hK _ ?_
 refine tri_seq ?_
 by_cases hlen : ts.length = us.length
 ·have hd : (!decide ((ts.length : Int) = (us.length : Int))) = false := by simp [hlen]
  refine tri_seq_region tt_ok fun K hK => ?_
  simp only [List.length_map,hd,go_sem]
  refine hK _ ?_
  refine tri_cond rfl (tri_skip ?_)
  show Tri _ _ _ _ _ _
  refine tri_seq ?_
  refine tri_seq_region tt_ok fun K hK => ?_
  simp only [List.length_map,go_sem]
  refine hK _ ?_
  refine tri_block (tri_loop_inv (fun N st => ∃ (i : Nat), N = ts.length - i ∧ i ≤ ts.length ∧ ts.take i = us.take i ∧
   st = { fr := [.slice (ts.map encIm), .slice (us.map encIm), .undef, .undef, .undef, .undef, .undef, .undef, .undef, .undef, .undef, .undef, num ts.length, num i] ++ List.replicate 12 .undef, mem := [] }) ts.length ?_ ?_)
  ·exact ⟨0, (true::true::(rp 10 false [true,true])), by omega, by simp only [maskFr,belowV,mkb], rfl, 0, by omega, by omega, by simp, rfl⟩
  ·rintro N' st ⟨i, rfl, hi, htk, rfl⟩
   simp only [ltb,List.replicate_succ,List.replicate_zero]
   by_cases hlt : i < ts.length
   ·have hd := lt_dec hlt
    refine tri_seq_region tt_ok fun K hK => ?_
    simp only [hd,go_sem]
    refine hK _ ?_
    refine tri_seq (tri_cond rfl (tri_skip ?_))
    refine tri_seq (tri_block ?_)
    obtain ⟨f, hf⟩ : ∃ f, ts[i]? = some f := ⟨_, List.getElem?_eq_getElem hlt⟩
    obtain ⟨g, hg⟩ : ∃ g, us[i]? = some g := ⟨_, List.getElem?_eq_getElem (by omega)⟩
    refine tri_seq_region tt_ok fun K hK => ?_
    simp only [go_sem]
    refine hK _ ?_
    have e0 := im_eq f g
    by_cases h0 : f = g
    ·rw [eqb_true h0] at e0
     refine tri_seq_mixed_w tt_ok mixed_ok 26 [0,0,0,0,0,0,0,0,0,0,0,0,0,0,0,0,1,1,1,1,1,1,1,1,2] (by kernel_rfl) [⟨.n, 0, [], []⟩, ⟨.n, 0, [], []⟩, ⟨.r, 0, [], []⟩, ⟨.r, 0, [], []⟩, ⟨.n, 0, [], []⟩, ⟨.n, 0, [], []⟩, ⟨.r, 0, [], []⟩, ⟨.r, 0, [], []⟩, ⟨.n, 0, [], []⟩] 0 (by kernel_rfl) fun K hK => ?_
     simp only [List.getElem?_map,hf,hg,encIm,ev_imneq,e0,go_sem,reduceAdd,reduceLT,reduceEqDiff,List.replicate]
     refine hK _ _ rfl ?_
     simp only [mwb,reduceAdd,reduceEqDiff]
     refine tri_cond rfl (tri_skip ?_)
     show Tri _ _ _ _ _ _
     refine tri_last_region tt_ok fun K hK => ?_
     simp only [go_sem]
     refine hK _ ?_
     rw [i64_succ i (by omega)]
     exact ⟨ts.length - (i + 1), by omega, 0, (true::true::(rp 10 false [true,true])), by omega, by simp only [maskFr,belowV,mkb], rfl, i + 1, rfl, hlt, by rw [List.take_add_one, List.take_add_one, htk, hf, hg, h0], rfl⟩
    ·rw [eqb_false h0] at e0
     refine tri_seq_mixed_w tt_ok mixed_ok 26 [0,0,0,0,0,0,0,0,0,0,0,0,0,0,0,0,1,1,1,1,1,1,1,1,2] (by kernel_rfl) [⟨.n, 0, [], []⟩, ⟨.n, 0, [], []⟩, ⟨.r, 0, [], []⟩, ⟨.r, 0, [], []⟩, ⟨.n, 0, [], []⟩, ⟨.n, 0, [], []⟩, ⟨.r, 0, [], []⟩, ⟨.r, 0, [], []⟩, ⟨.n, 0, [], []⟩] 0 (by kernel_rfl) fun K hK => ?_
     simp only [List.getElem?_map,hf,hg,encIm,ev_imneq,e0,go_sem,reduceAdd,reduceLT,reduceEqDiff,List.replicate]
     refine hK _ _ rfl ?_
     simp only [mwb,reduceAdd,reduceEqDiff]
     refine tri_cond rfl ?_
     refine tri_seq_region tt_ok fun K hK => ?_
     simp only [go_sem]
     refine hK _ ?_
     refine tri_ret ⟨.inl rfl, ?_⟩
     rw [eqb_false (fun e => h0 (by rw [e, hg] at hf; exact (Option.some.inj hf).symm))]
     rfl
   ·have hd := ge_dec hlt
    refine tri_seq_region tt_ok fun K hK => ?_
    simp only [hd,go_sem]
    refine hK _ ?_
    refine tri_seq (tri_cond rfl (tri_exit ?_))
    have hie : i = ts.length := by omega
    show Tri _ _ _ _ _ _
    refine tri_seq_region tt_ok fun K hK => ?_
    simp only [go_sem]
    refine hK _ ?_
    refine tri_ret ⟨.inl rfl, ?_⟩
    rw [hie, List.take_length, hlen, List.take_length] at htk
    rw [eqb_true htk]
    rfl
 ·have hd : (!decide ((ts.length : Int) = (us.length : Int))) = true := by simpa using fun e => hlen (by omega)
  refine tri_seq_region tt_ok fun K hK => ?_
  simp only [List.length_map,hd,go_sem]
  refine hK _ ?_
  refine tri_cond rfl ?_
  refine tri_seq_region tt_ok fun K hK => ?_
  simp only [go_sem]
  refine hK _ ?_
  refine tri_ret ⟨.inl rfl, ?_⟩
  rw [eqb_false (fun e => hlen (by rw [e]))]
  rfl
theorem Md.ext' {t u : Md} (h0 : t.path = u.path) (h1 : t.imports = u.imports) (h2 : t.decls = u.decls) : t = u := by cases t; cases u; simp_all

theorem seqMd1_ok (t u : Md) (hi : FnOk Tryz.prog 72 [.slice (t.imports.map encIm), .slice (u.imports.map encIm)] (bl (eqb t.imports u.imports))) (hd : FnOk Tryz.prog 73 [.slice (t.decls.map encDc), .slice (u.decls.map encDc), .sc (.func (.func 74) #[] #[])] (bl (eqb t.decls u.decls))) : FnOk Tryz.prog 30 [encMd t, encMd u] (bl (eqb t u)) := by
 refine fn_ok tt_ok (fn := Tryz.f30) Tryz.func30 rfl Tryz.call30 ?_
 simp only [ltb,startSt,Tryz.ntmps30,List.length_cons,List.length_nil,reduceAdd,reduceSub,List.replicate_succ,List.replicate_zero]
 have hT : Tryz.prog.underlying 4 = some .bool := by kernel_rfl
 have hbe := fun x y => ev_beql (P := Tryz.prog) (T := 4) x y hT
 have hbn := fun x y => ev_bneq (P := Tryz.prog) (T := 4) x y hT
 simp only [encMd_eq,mdCells]
 refine tri_seq_region tt_ok fun K hK => ?_
 simp only [go_sem]
 refine hK _ ?_
 have e0 := bytes_eq t.path u.path
 have e1 := hi
 try simp only [encTy_eq,encEx_eq] at e1
 try simp only [tyCells,exCells] at e1
 have e2 := hd
 try simp only [encTy_eq,encEx_eq] at e2
 try simp only [tyCells,exCells] at e2
 refine tri_seq_region_w tt_ok 24 (0::0::0::0::2::(rp 19 1 [])) [(5, 10), (12, 17)] rfl rfl fun K hK => ?_
 by_cases h0 : t.path = u.path
 ·rw [eqb_true h0] at e0
  refine runOpsW_cut 6 fun K1 hK1 => ?_
  simp only [ltb]
  simp only [e0,go_sem,reduceAdd,reduceLT,reduceLeDiff,reduceEqDiff]
  refine hK1 _ ?_
  by_cases h1 : t.imports = u.imports
  ·rw [eqb_true h1] at e1
   refine runOpsW_cut 7 fun K1 hK1 => ?_
   simp only [ltb,go_sem,reduceAdd,reduceLT,reduceLeDiff,reduceEqDiff]
   refine .inl ⟨_, _, by simp only [go_sem], e1, ?_⟩
   try simp only [go_sem,reduceLT,reduceEqDiff]
   refine hK1 _ ?_
   by_cases h2 : t.decls = u.decls
   ·rw [eqb_true h2] at e2
    simp only [ltb,go_sem,reduceAdd,reduceLT,reduceEqDiff]
    refine .inl ⟨_, _, by simp only [go_sem], e2, ?_⟩
    try simp only [go_sem,reduceLT,reduceEqDiff]
    refine hK _ _ rfl ?_
    simp only [mwb,reduceAdd,reduceEqDiff]
    refine tri_ret ⟨.inl rfl, ?_⟩
    rw [eqb_true (Md.ext' h0 h1 h2)]; rfl
   ·rw [eqb_false h2] at e2
    simp only [ltb,go_sem,reduceAdd,reduceLT,reduceEqDiff]
    refine .inl ⟨_, _, by simp only [go_sem], e2, ?_⟩
    try simp only [go_sem,reduceLT,reduceEqDiff]
    refine hK _ _ rfl ?_
    simp only [mwb,reduceAdd,reduceEqDiff]
    refine tri_ret ⟨.inl rfl, ?_⟩
    rw [eqb_false fun e => h2 (by rw [e])]; rfl
  ·rw [eqb_false h1] at e1
   simp only [ltb,go_sem,reduceAdd,reduceLT,reduceLeDiff,reduceEqDiff]
   refine .inl ⟨_, _, by simp only [go_sem], e1, ?_⟩
   try simp only [go_sem,reduceLT,reduceEqDiff]
   refine hK _ _ rfl ?_
   simp only [mwb,reduceAdd,reduceEqDiff]
   refine tri_ret ⟨.inl rfl, ?_⟩
   rw [eqb_false fun e => h1 (by rw [e])]; rfl
 ·rw [eqb_false h0] at e0
  refine runOpsW_cut 14 fun K1 hK1 => ?_
  simp only [ltb]
  simp only [e0,go_sem,reduceAdd,reduceLT,reduceLeDiff,reduceEqDiff]
  refine hK1 _ ?_
  simp only [ltb,go_sem,reduceAdd,reduceLT,reduceEqDiff]
  refine hK _ _ rfl ?_
  simp only [mwb,reduceAdd,reduceEqDiff]
  refine tri_ret ⟨.inl rfl, ?_⟩
  rw [eqb_false fun e => h0 (by rw [e])]; rfl

theorem Dc.parts_bulk (d : Dc) : d.params.length < d.bulk ∧ d.lower.size < d.bulk ∧ d.upper.size < d.bulk ∧ d.type.size < d.bulk ∧ d.expr.bulk < d.bulk ∧ ∀ (i : Nat) (p : Pm), d.params[i]? = some p → p.bound.size < d.bulk := by
 unfold Dc.bulk
 refine ⟨by omega, by omega, by omega, by omega, by omega, fun i p h => ?_⟩
 have := sumBy_mem (fun p : Pm => p.bound.size) h; omega
theorem seqDc_ok (t u : Dc) (hb : t.bulk ≤ 1048576) : FnOk Tryz.prog 74 [encDc t, encDc u] (bl (eqb t u)) := by
 obtain ⟨h1, h2, h3, h4, h5, h6⟩ := t.parts_bulk
 exact seqDc1_ok t u (equalPms_ok 109 t.params u.params (by omega) fun i a b ha _ => eqPm_ok a b (seqTy_ok a.bound.size _ _ (Nat.le_refl _) (by have := h6 i a ha; omega)))
  (seqTy_ok t.lower.size _ _ (Nat.le_refl _) (by omega)) (seqTy_ok t.upper.size _ _ (Nat.le_refl _) (by omega)) (seqTy_ok t.type.size _ _ (Nat.le_refl _) (by omega)) (seqEx_ok t.expr.bulk _ _ (Nat.le_refl _) (by omega))
theorem seqMd_ok (t u : Md) (hb : t.bulk ≤ 1048576) : FnOk Tryz.prog 30 [encMd t, encMd u] (bl (eqb t u)) := by
 unfold Md.bulk at hb
 have hdl := length_le_sum Dc.bulk Dc.bulk_pos t.decls
 exact seqMd1_ok t u (equalIms_ok t.imports u.imports (by omega)) (equalDcs_ok 74 t.decls u.decls (by omega) fun i a b ha _ => seqDc_ok a b (by have := sumBy_mem Dc.bulk ha; omega))
end Go.Proofs.YtpjdfcigadnhcaaGreatDoor
end

section
namespace Go.Proofs.YtpjdfcigadnhcaaGreatDoor
open Go.Eng
open Nat (reduceAdd reduceLT reduceLeDiff reduceMul reduceEqDiff reduceSub)
variable [Glob]
set_option maxHeartbeats 4000000
set_option maxRecDepth 100000
attribute [local irreducible] runM stepM valD stepOp stepD callF callS
theorem eqb_comm {α : Type} (a b : α) : eqb a b = eqb b a := by
 by_cases h : a = b
 ·rw [eqb_true h, eqb_true h.symm]
 ·rw [eqb_false h, eqb_false (fun e => h e.symm)]
theorem eqb_self {α : Type} (a : α) : eqb a a = true := eqb_true rfl
theorem two_modules (hG : Glob.g = some 0) (m n : Md) (hm : m.wt ≤ 1048576) (hn : n.wt ≤ 1048576) : ∃ a b c d : Int, FnOk Tryz.prog 32 [encMd m] (.tup [num a, num b]) ∧ FnOk Tryz.prog 32 [encMd n] (.tup [num c, num d]) ∧ (m = n → a = c ∧ b = d) := by
 obtain ⟨_, ⟨a, b, rfl⟩, h1⟩ := checkModule_tot hG m hm
 by_cases e : m = n
 ·subst e; exact ⟨a, b, a, b, h1, h1, fun _ => ⟨rfl, rfl⟩⟩
 ·obtain ⟨_, ⟨c, d, rfl⟩, h2⟩ := checkModule_tot hG n hn
  exact ⟨a, b, c, d, h1, h2, fun h => absurd h e⟩
theorem two_types (hG : Glob.g = some 0) (t u : Ty) (ht : t.wt ≤ 1048576) (hu : u.wt ≤ 1048576) : FnOk Tryz.prog 20 [encTy t] (num (ctRes hG t)) ∧ FnOk Tryz.prog 20 [encTy u] (num (ctRes hG u)) :=
 ⟨checkType_ok hG t (by have := t.size_le_wt; omega) (Ty.mods (by omega)), checkType_ok hG u (by have := u.size_le_wt; omega) (Ty.mods (by omega))⟩
theorem equality_law (hG : Glob.g = some 0) (haw : FnOk Tryz.prog 10 [] (bl true)) (t u : Ty) (e f : Ex) (m n : Md) (ht : t.wt ≤ 1048576) (hu : u.wt ≤ 1048576) (he : e.wt ≤ 1048576) (hf : f.wt ≤ 1048576) (hm : m.wt ≤ 1048576) (hn : n.wt ≤ 1048576) : ∃ r, (fun v => v = bl true) r ∧ FnOk Tryz.prog 7 [encTy t, encTy u, encEx e, encEx f, encMd m, encMd n] r := by
 refine fn_ex tt_ok (fn := Tryz.f7) Tryz.func7 rfl Tryz.call7 ?_
 simp only [ltb,startSt,Tryz.ntmps7,List.length_cons,List.length_nil,reduceAdd,reduceSub,List.replicate_succ,List.replicate_zero]
 have w1 := t.size_le_wt
 have w2 := u.size_le_wt
 have w3 := e.bulk_le_wt
 have w4 := f.bulk_le_wt
 have w5 := m.bulk_le_wt
 have w6 := n.bulk_le_wt
 obtain ⟨am, bm, an, bn, hcm, hcn, hmn⟩ := two_modules hG m n hm hn
 obtain ⟨hct, hcu⟩ := two_types hG t u ht hu
 obtain ⟨a, ha⟩ : ∃ a, a = eqb t u := ⟨_, rfl⟩
 obtain ⟨b, hb⟩ : ∃ b, b = eqb e f := ⟨_, rfl⟩
 obtain ⟨c, hc⟩ : ∃ c, c = eqb m n := ⟨_, rfl⟩
 have hT : Tryz.prog.underlying 4 = some .bool := by kernel_rfl
 have hbn := fun x y => ev_bneq (P := Tryz.prog) (T := 4) x y hT
 simp only [encTy_eq,tyCells,encEx_eq,exCells,encMd_eq,mdCells]
 refine ex_region_w tt_ok 152 [0,0,0,0,0,0,2,2,2,2,2,2,2] [] rfl rfl fun K hK => ?_
 simp only [ltb,go_sem,reduceAdd,reduceLT,reduceEqDiff]
 refine hK _ _ rfl ?_
 simp only [mwb,reduceAdd,reduceEqDiff]
 refine ex_seq ?_
 refine ex_region_w tt_ok 152 (rp 20 0 [1,2]) [] rfl rfl fun K hK => ?_
 refine runX_cut 1 fun K1 hK1 => ?_
 simp only [ltb,go_sem,reduceAdd]
 refine callF_ex (⟨_, rfl, haw⟩) ?_
 rintro _ rfl
 try simp only [memAfter_bl,go_sem]
 refine hK1 _ ?_
 simp only [ltb,go_sem,reduceAdd,reduceLT]
 refine hK _ _ rfl ?_
 simp only [mwb,reduceAdd,reduceEqDiff]
 refine ex_if rfl (fun hc21 => ?_) (fun hc21 => ?_)
 ·cases hc21
 ·refine ex_skip ?_
  show Go.Eng.Ex _ _ _ _ _ _
  refine ex_seq ?_
  refine ex_mixed_w tt_ok mixed_ok 152 [0,0,0,0,0,0,0,0,0,0,0,0,0,0,0,0,0,0,0,0,0,0,1,1,1,1,1,1,1,1,1,1,1,1,1,1,1,1,1,1,1,1,2] (by kernel_rfl) [⟨.r, 0, [], []⟩, ⟨.r, 0, [], []⟩, ⟨.n, 0, [], []⟩, ⟨.n, 0, [], []⟩, ⟨.n, 0, [], []⟩, ⟨.n, 0, [], []⟩, ⟨.r, 0, [], []⟩, ⟨.n, 0, [], []⟩, ⟨.r, 0, [], []⟩, ⟨.n, 0, [], []⟩, ⟨.n, 0, [], []⟩, ⟨.n, 0, [], []⟩, ⟨.n, 0, [], []⟩, ⟨.n, 0, [], []⟩, ⟨.r, 0, [], []⟩, ⟨.n, 0, [], []⟩, ⟨.r, 0, [], []⟩, ⟨.n, 0, [], []⟩, ⟨.n, 0, [], []⟩, ⟨.n, 0, [], []⟩, ⟨.n, 0, [], []⟩] 0 (by kernel_rfl) fun K hK => ?_
  try simp only [ltb,List.replicate_zero]
  refine runM_cut 4 (by simp) (by simp) fun K1 hK1 => ?_
  simp only [ltb,go_sem,reduceAdd,reduceLT,reduceLeDiff,reduceMul,reduceEqDiff]
  refine callD_ex rfl (by have h := fewTypes_ok 2000 [t, u] (fun x hx => by simp only [List.mem_cons,List.not_mem_nil,or_false] at hx; rcases hx with rfl | rfl <;> omega) (by simp); simp only [encTys] at h; simp only [encTy_eq,tyCells] at h; exact ⟨_, rfl, h⟩) ?_
  rintro _ rfl
  try simp only [go_sem]
  refine hK1 _ ?_
  refine runM_cut 2 (by simp) (by simp) fun K1 hK1 => ?_
  simp only [ltb,go_sem,reduceAdd,reduceLT,reduceEqDiff]
  refine hK1 _ ?_
  refine runM_case 27 (by rfl) fun b hb3_5 => ?_
  cases b
  ·refine runM_cut 2 (by simp) (by simp) fun K1 hK1 => ?_
   simp only [ltb,go_sem,reduceAdd,reduceLT,reduceEqDiff]
   refine callD_ex rfl (by have h := esize_ok e.bulk e (Nat.le_refl _) (by omega); simp only [encEx_eq,exCells] at h; exact ⟨_, rfl, h⟩) ?_
   rintro _ rfl
   try simp only [go_sem]
   refine hK1 _ ?_
   refine runM_cut 2 (by simp) (by simp) fun K1 hK1 => ?_
   simp only [ltb,go_sem,reduceAdd,reduceLT,reduceEqDiff]
   refine callD_ex rfl (by have h := esize_ok f.bulk f (Nat.le_refl _) (by omega); simp only [encEx_eq,exCells] at h; exact ⟨_, rfl, h⟩) ?_
   rintro _ rfl
   try simp only [go_sem]
   refine hK1 _ ?_
   refine runM_cut 4 (by simp) (by simp) fun K1 hK1 => ?_
   simp only [ltb,go_sem,reduceAdd,reduceLT,reduceEqDiff]
   refine hK1 _ ?_
   refine runM_case 35 (by rfl) fun b hb3_13 => ?_
   cases b
   ·refine runM_cut 2 (by simp) (by simp) fun K1 hK1 => ?_
    simp only [ltb,go_sem,reduceAdd,reduceLT,reduceEqDiff]
    refine callD_ex rfl (by have h := rmsize_ok m (by omega); simp only [encMd_eq,mdCells] at h; exact ⟨_, rfl, h⟩) ?_
    rintro _ rfl
    try simp only [go_sem]
    refine hK1 _ ?_
    refine runM_cut 2 (by simp) (by simp) fun K1 hK1 => ?_
    simp only [ltb,go_sem,reduceAdd,reduceLT,reduceEqDiff]
    refine callD_ex rfl (by have h := rmsize_ok n (by omega); simp only [encMd_eq,mdCells] at h; exact ⟨_, rfl, h⟩) ?_
    rintro _ rfl
    try simp only [go_sem]
    refine hK1 _ ?_
    simp only [ltb,go_sem,reduceAdd,reduceLT,reduceEqDiff]
    refine hK _ _ rfl ?_
    simp only [mwb,reduceAdd,reduceEqDiff]
    refine ex_if rfl (fun hc42 => ?_) (fun hc42 => ?_)
    ·refine ex_region_w tt_ok 152 (rp 12 0 [2]) [] rfl rfl fun K hK => ?_
     simp only [ltb,go_sem,reduceAdd]
     refine hK _ _ rfl ?_
     simp only [mwb,reduceAdd]
     exact ex_ret ⟨.inl rfl, _, rfl, rfl⟩
    ·refine ex_skip ?_
     show Go.Eng.Ex _ _ _ _ _ _
     refine ex_seq ?_
     refine ex_region_w tt_ok 152 (rp 43 0 (rp 15 1 [2])) [(4, 47), (10, 53)] rfl rfl fun K hK => ?_
     refine runX_cut 3 fun K1 hK1 => ?_
     simp only [ltb,go_sem,reduceAdd,reduceLT,reduceEqDiff]
     refine callF_ex (by have h := seqTy_ok t.size t t (Nat.le_refl _) (by omega); rw [eqb_self] at h; simp only [encTy_eq,tyCells] at h; exact ⟨_, rfl, h⟩) ?_
     rintro _ rfl
     try simp only [memAfter_bl,go_sem]
     refine hK1 _ ?_
     refine runX_cut 2 fun K1 hK1 => ?_
     simp only [ltb,go_sem,reduceAdd,reduceLT,reduceEqDiff]
     refine hK1 _ ?_
     refine runX_case 47 (by rfl) fun b hb5_4 => ?_
     cases b
     ·refine runX_cut 3 fun K1 hK1 => ?_
      simp only [ltb,go_sem,reduceAdd,reduceLT,reduceEqDiff]
      refine callF_ex (by have h := seqEx_ok e.bulk e e (Nat.le_refl _) (by omega); rw [eqb_self] at h; simp only [encEx_eq,exCells] at h; exact ⟨_, rfl, h⟩) ?_
      rintro _ rfl
      try simp only [memAfter_bl,go_sem]
      refine hK1 _ ?_
      refine runX_cut 3 fun K1 hK1 => ?_
      simp only [ltb,go_sem,reduceAdd,reduceLT,reduceEqDiff]
      refine hK1 _ ?_
      refine runX_case 53 (by rfl) fun b hb5_10 => ?_
      cases b
      ·refine runX_cut 3 fun K1 hK1 => ?_
       simp only [ltb,go_sem,reduceAdd,reduceLT,reduceEqDiff]
       refine callF_ex (by have h := seqMd_ok m m (by omega); rw [eqb_self] at h; simp only [encMd_eq,mdCells] at h; exact ⟨_, rfl, h⟩) ?_
       rintro _ rfl
       try simp only [memAfter_bl,go_sem]
       refine hK1 _ ?_
       simp only [ltb,go_sem,reduceAdd,reduceLT,reduceEqDiff]
       refine hK _ _ rfl ?_
       simp only [mwb,reduceAdd,reduceEqDiff]
       refine ex_if rfl (fun hc58 => ?_) (fun hc58 => ?_)
       ·cases hc58
       ·refine ex_skip ?_
        show Go.Eng.Ex _ _ _ _ _ _
        refine ex_mixed_w tt_ok mixed_ok 152 [0,0,0,0,0,0,0,0,0,0,0,0,0,2,2,2,0,0,0,0,0,0,0,0,0,0,0,0,0,0,0,0,0,0,0,0,0,0,0,0,0,0,0,0,0,0,0,0,0,0,0,0,0,0,0,0,0,0,0,1,1,1,1,1,1,1,1,1] (by kernel_rfl) [⟨.r, 0, [], []⟩, ⟨.r, 0, [], []⟩, ⟨.n, 0, [], []⟩, ⟨.r, 0, [], []⟩, ⟨.r, 0, [], []⟩, ⟨.n, 0, [], []⟩, ⟨.r, 0, [], []⟩, ⟨.r, 0, [], []⟩, ⟨.n, 0, [], []⟩, ⟨.n, 0, [], []⟩, ⟨.n, 0, [], []⟩, ⟨.n, 0, [], []⟩] 0 (by kernel_rfl) fun K hK => ?_
        try simp only [ltb,List.replicate_zero]
        refine runM_cut 3 (by simp) (by simp) fun K1 hK1 => ?_
        simp only [ltb,go_sem,reduceAdd,reduceLT,reduceEqDiff]
        refine callD_ex rfl (by have h := seqTy_ok t.size t u (Nat.le_refl _) (by omega); rw [← ha] at h; simp only [encTy_eq,tyCells] at h; exact ⟨_, rfl, h⟩) ?_
        rintro _ rfl
        try simp only [go_sem]
        refine hK1 _ ?_
        refine runM_cut 3 (by simp) (by simp) fun K1 hK1 => ?_
        simp only [ltb,go_sem,reduceAdd,reduceLT,reduceEqDiff]
        refine callD_ex rfl (by have h := seqEx_ok e.bulk e f (Nat.le_refl _) (by omega); rw [← hb] at h; simp only [encEx_eq,exCells] at h; exact ⟨_, rfl, h⟩) ?_
        rintro _ rfl
        try simp only [go_sem]
        refine hK1 _ ?_
        refine runM_cut 3 (by simp) (by simp) fun K1 hK1 => ?_
        simp only [ltb,go_sem,reduceAdd,reduceLT,reduceEqDiff]
        refine callD_ex rfl (by have h := seqMd_ok m n (by omega); rw [← hc] at h; simp only [encMd_eq,mdCells] at h; exact ⟨_, rfl, h⟩) ?_
        rintro _ rfl
        try simp only [go_sem]
        refine hK1 _ ?_
        simp only [ltb,go_sem,reduceAdd,reduceLT,reduceEqDiff]
        refine hK _ _ rfl ?_
        simp only [mwb,reduceAdd,reduceEqDiff]
        refine ex_seq ?_
        refine ex_region_w tt_ok 152 (rp 68 0 (rp 18 1 [2])) [(5, 73), (12, 80)] rfl rfl fun K hK => ?_
        refine runX_cut 4 fun K1 hK1 => ?_
        simp only [ltb,go_sem,reduceAdd,reduceLT,reduceEqDiff]
        refine callF_ex (by have h := seqTy_ok u.size u t (Nat.le_refl _) (by omega); rw [eqb_comm, ← ha] at h; simp only [encTy_eq,tyCells] at h; exact ⟨_, rfl, h⟩) ?_
        rintro _ rfl
        try simp only [memAfter_bl,go_sem]
        refine hK1 _ ?_
        refine runX_cut 2 fun K1 hK1 => ?_
        simp only [ltb]
        simp only [hbn,go_sem,reduceAdd,reduceLT,reduceEqDiff]
        refine hK1 _ ?_
        refine runX_case 73 (by rfl) fun b hb8_5 => ?_
        cases b
        ·refine runX_cut 4 fun K1 hK1 => ?_
         simp only [ltb,go_sem,reduceAdd,reduceLT,reduceEqDiff]
         refine callF_ex (by have h := seqEx_ok f.bulk f e (Nat.le_refl _) (by omega); rw [eqb_comm, ← hb] at h; simp only [encEx_eq,exCells] at h; exact ⟨_, rfl, h⟩) ?_
         rintro _ rfl
         try simp only [memAfter_bl,go_sem]
         refine hK1 _ ?_
         refine runX_cut 3 fun K1 hK1 => ?_
         simp only [ltb]
         simp only [hbn,go_sem,reduceAdd,reduceLT,reduceEqDiff]
         refine hK1 _ ?_
         refine runX_case 80 (by rfl) fun b hb8_12 => ?_
         cases b
         ·refine runX_cut 4 fun K1 hK1 => ?_
          simp only [ltb,go_sem,reduceAdd,reduceLT,reduceEqDiff]
          refine callF_ex (by have h := seqMd_ok n m (by omega); rw [eqb_comm, ← hc] at h; simp only [encMd_eq,mdCells] at h; exact ⟨_, rfl, h⟩) ?_
          rintro _ rfl
          try simp only [memAfter_bl,go_sem]
          refine hK1 _ ?_
          try simp only [ltb]
          simp only [hbn,go_sem,reduceAdd,reduceLT,reduceEqDiff]
          refine hK _ _ rfl ?_
          simp only [mwb,reduceAdd,reduceEqDiff]
          refine ex_if rfl (fun hc86 => ?_) (fun hc86 => ?_)
          ·cases hc86
          ·refine ex_skip ?_
           show Go.Eng.Ex _ _ _ _ _ _
           refine ex_region_w tt_ok 152 (rp 16 0 (2::2::(rp 69 0 [1,1,1,1,1]))) [] rfl rfl fun K hK => ?_
           refine runX_cut 2 fun K1 hK1 => ?_
           simp only [ltb,go_sem,reduceAdd,reduceLT]
           refine callF_ex (by have h := hcm; simp only [encMd_eq,mdCells] at h; exact ⟨_, rfl, h⟩) ?_
           rintro _ rfl
           try simp only [go_sem]
           refine hK1 _ ?_
           simp only [ltb,go_sem,reduceAdd,reduceLT,reduceEqDiff]
           refine hK _ _ rfl ?_
           simp only [mwb,reduceAdd,reduceEqDiff]
           refine ex_region_w tt_ok 152 (rp 18 0 (2::2::(rp 72 0 [1,1,1,1,1]))) [] rfl rfl fun K hK => ?_
           refine runX_cut 2 fun K1 hK1 => ?_
           simp only [ltb,go_sem,reduceAdd,reduceLT]
           refine callF_ex (by have h := hcn; simp only [encMd_eq,mdCells] at h; exact ⟨_, rfl, h⟩) ?_
           rintro _ rfl
           try simp only [go_sem]
           refine hK1 _ ?_
           simp only [ltb,go_sem,reduceAdd,reduceLT,reduceEqDiff]
           refine hK _ _ rfl ?_
           simp only [mwb,reduceAdd,reduceEqDiff]
           refine ex_mixed_w tt_ok mixed_ok 152 [0,0,0,0,0,0,0,0,0,0,0,0,2,0,0,0,0,0,0,0,0,0,0,0,0,0,0,0,0,0,0,0,0,0,0,0,0,0,0,0,0,0,0,0,0,0,0,0,0,0,0,0,0,0,0,0,0,0,0,0,0,0,0,0,0,0,0,0,0,0,0,0,0,0,0,0,0,0,0,0,0,0,0,0,0,0,0,0,0,0,0,0,0,0,0,0,0,1,1,1,1,1,1,1,1,1,1,1,1,1,1,1,1,1,1,1,1,1,1,1,1,1,1,1,1,1,1,1,1,1,1,1,1,1,1,1,1,1,1,1,1,1,1,1,1,1,1,1,1,1,1,1] (by kernel_rfl) [⟨.n, 0, [], []⟩, ⟨.n, 0, [], []⟩, ⟨.n, 0, [], []⟩, ⟨.r, 0, [], []⟩, ⟨.n, 0, [], []⟩, ⟨.r, 0, [], []⟩, ⟨.n, 0, [], []⟩, ⟨.n, 0, [], []⟩, ⟨.n, 0, [], []⟩, ⟨.r, 0, [], []⟩, ⟨.n, 0, [], []⟩, ⟨.r, 0, [], []⟩, ⟨.n, 0, [], []⟩, ⟨.n, 0, [], []⟩, ⟨.n, 0, [], []⟩, ⟨.n, 0, [], []⟩, ⟨.n, 0, [], []⟩, ⟨.n, 0, [], []⟩, ⟨.n, 0, [], []⟩, ⟨.n, 0, [], []⟩, ⟨.r, 0, [], []⟩, ⟨.n, 0, [], []⟩, ⟨.r, 0, [], []⟩, ⟨.n, 0, [], []⟩, ⟨.n, 0, [], []⟩, ⟨.n, 0, [], []⟩, ⟨.r, 0, [], []⟩, ⟨.n, 0, [], []⟩, ⟨.r, 0, [], []⟩, ⟨.n, 0, [], []⟩, ⟨.n, 0, [], []⟩, ⟨.n, 0, [], []⟩, ⟨.n, 0, [], []⟩, ⟨.n, 0, [], []⟩, ⟨.n, 0, [], []⟩, ⟨.n, 0, [], []⟩, ⟨.n, 0, [], []⟩, ⟨.n, 0, [], []⟩, ⟨.r, 0, [], []⟩, ⟨.n, 0, [], []⟩, ⟨.r, 0, [], []⟩, ⟨.n, 0, [], []⟩, ⟨.n, 0, [], []⟩, ⟨.n, 0, [], []⟩, ⟨.n, 0, [], []⟩, ⟨.n, 0, [], []⟩, ⟨.n, 0, [], []⟩, ⟨.n, 0, [], []⟩, ⟨.n, 0, [], []⟩, ⟨.n, 0, [], []⟩, ⟨.n, 0, [], []⟩, ⟨.n, 0, [], []⟩, ⟨.n, 0, [], []⟩, ⟨.n, 0, [], []⟩, ⟨.n, 0, [], []⟩, ⟨.n, 0, [], []⟩] 0 (by kernel_rfl) fun K hK => ?_
           try simp only [ltb,List.replicate_zero]
           refine runM_cut 3 (by simp) (by simp) fun K1 hK1 => ?_
           simp only [ltb,go_sem,reduceAdd,reduceLT,reduceEqDiff]
           refine hK1 _ ?_
           refine runM_case 99 (by rfl) fun b hb12_2 => ?_
           cases b
           ·have htu : t = u := eqb_iff.1 (by rw [← ha]; cases a <;> simp_all)
            have f1 : decide ((t.size : Int) = (u.size : Int)) = true := by rw [htu]; simp
            have f2 : decide (ctRes hG t = ctRes hG u) = true := by rw [htu]; simp
            refine runM_cut 2 (by simp) (by simp) fun K1 hK1 => ?_
            simp only [ltb,go_sem,reduceAdd,reduceLT,reduceEqDiff]
            refine callD_ex rfl (by have h := stsize_ok t (by omega); simp only [encTy_eq,tyCells] at h; exact ⟨_, rfl, h⟩) ?_
            rintro _ rfl
            try simp only [go_sem]
            refine hK1 _ ?_
            refine runM_cut 2 (by simp) (by simp) fun K1 hK1 => ?_
            simp only [ltb,go_sem,reduceAdd,reduceLT,reduceEqDiff]
            refine callD_ex rfl (by have h := stsize_ok u (by omega); simp only [encTy_eq,tyCells] at h; exact ⟨_, rfl, h⟩) ?_
            rintro _ rfl
            try simp only [go_sem]
            refine hK1 _ ?_
            refine runM_cut 2 (by simp) (by simp) fun K1 hK1 => ?_
            try simp only [ltb]
            simp only [f1,go_sem,reduceAdd,reduceLT,reduceEqDiff]
            refine hK1 _ ?_
            refine runM_case 105 (by rfl) fun b hb12_8 => ?_
            cases b
            ·cases hb12_8
            ·refine runM_cut 2 (by simp) (by simp) fun K1 hK1 => ?_
             simp only [ltb,go_sem,reduceAdd,reduceLT,reduceEqDiff]
             refine callD_ex rfl (by have h := hct; simp only [encTy_eq,tyCells] at h; exact ⟨_, rfl, h⟩) ?_
             rintro _ rfl
             try simp only [go_sem]
             refine hK1 _ ?_
             refine runM_cut 2 (by simp) (by simp) fun K1 hK1 => ?_
             simp only [ltb,go_sem,reduceAdd,reduceLT,reduceEqDiff]
             refine callD_ex rfl (by have h := hcu; simp only [encTy_eq,tyCells] at h; exact ⟨_, rfl, h⟩) ?_
             rintro _ rfl
             try simp only [go_sem]
             refine hK1 _ ?_
             refine runM_cut 4 (by simp) (by simp) fun K1 hK1 => ?_
             try simp only [ltb]
             simp only [f2,go_sem,reduceAdd,reduceLT,reduceEqDiff]
             refine hK1 _ ?_
             refine runM_case 113 (by rfl) fun b hb12_16 => ?_
             cases b
             ·cases hb12_16
             ·refine runM_cut 3 (by simp) (by simp) fun K1 hK1 => ?_
              simp only [ltb,go_sem,reduceAdd,reduceLT,reduceEqDiff]
              refine hK1 _ ?_
              refine runM_case 116 (by rfl) fun b hb12_19 => ?_
              cases b
              ·have hef : e = f := eqb_iff.1 (by rw [← hb]; cases b <;> simp_all)
               have f3 : decide ((e.size : Int) = (f.size : Int)) = true := by rw [hef]; simp
               have f4 : decide (ceRes hG e = ceRes hG f) = true := by rw [hef]; simp
               refine runM_cut 2 (by simp) (by simp) fun K1 hK1 => ?_
               simp only [ltb,go_sem,reduceAdd,reduceLT,reduceEqDiff]
               refine callD_ex rfl (by have h := sesize_ok e (by omega); simp only [encEx_eq,exCells] at h; exact ⟨_, rfl, h⟩) ?_
               rintro _ rfl
               try simp only [go_sem]
               refine hK1 _ ?_
               refine runM_cut 2 (by simp) (by simp) fun K1 hK1 => ?_
               simp only [ltb,go_sem,reduceAdd,reduceLT,reduceEqDiff]
               refine callD_ex rfl (by have h := sesize_ok f (by omega); simp only [encEx_eq,exCells] at h; exact ⟨_, rfl, h⟩) ?_
               rintro _ rfl
               try simp only [go_sem]
               refine hK1 _ ?_
               refine runM_cut 2 (by simp) (by simp) fun K1 hK1 => ?_
               try simp only [ltb]
               simp only [f3,go_sem,reduceAdd,reduceLT,reduceEqDiff]
               refine hK1 _ ?_
               refine runM_case 122 (by rfl) fun b hb12_25 => ?_
               cases b
               ·cases hb12_25
               ·refine runM_cut 2 (by simp) (by simp) fun K1 hK1 => ?_
                simp only [ltb,go_sem,reduceAdd,reduceLT,reduceEqDiff]
                refine callD_ex rfl (by have h := checkExpr_ok hG e (by omega); simp only [encEx_eq,exCells] at h; exact ⟨_, rfl, h⟩) ?_
                rintro _ rfl
                try simp only [go_sem]
                refine hK1 _ ?_
                refine runM_cut 2 (by simp) (by simp) fun K1 hK1 => ?_
                simp only [ltb,go_sem,reduceAdd,reduceLT,reduceEqDiff]
                refine callD_ex rfl (by have h := checkExpr_ok hG f (by omega); simp only [encEx_eq,exCells] at h; exact ⟨_, rfl, h⟩) ?_
                rintro _ rfl
                try simp only [go_sem]
                refine hK1 _ ?_
                refine runM_cut 5 (by simp) (by simp) fun K1 hK1 => ?_
                try simp only [ltb]
                simp only [f4,go_sem,reduceAdd,reduceLT,reduceEqDiff]
                refine hK1 _ ?_
                refine runM_case 131 (by rfl) fun b hb12_34 => ?_
                cases b
                ·cases hb12_34
                ·refine runM_cut 3 (by simp) (by simp) fun K1 hK1 => ?_
                 simp only [ltb,go_sem,reduceAdd,reduceLT,reduceEqDiff]
                 refine hK1 _ ?_
                 refine runM_case 134 (by rfl) fun b hb12_37 => ?_
                 cases b
                 ·have hmn2 : m = n := eqb_iff.1 (by rw [← hc]; cases c <;> simp_all)
                  have f5 : decide ((m.size : Int) = (n.size : Int)) = true := by rw [hmn2]; simp
                  obtain ⟨g1, g2⟩ := hmn hmn2
                  have f6 : decide (am = an) = true := by rw [g1]; simp
                  have f7 : decide (bm = bn) = true := by rw [g2]; simp
                  refine runM_cut 2 (by simp) (by simp) fun K1 hK1 => ?_
                  simp only [ltb,go_sem,reduceAdd,reduceLT,reduceEqDiff]
                  refine callD_ex rfl (by have h := smsize_ok m (by omega); simp only [encMd_eq,mdCells] at h; exact ⟨_, rfl, h⟩) ?_
                  rintro _ rfl
                  try simp only [go_sem]
                  refine hK1 _ ?_
                  refine runM_cut 2 (by simp) (by simp) fun K1 hK1 => ?_
                  simp only [ltb,go_sem,reduceAdd,reduceLT,reduceEqDiff]
                  refine callD_ex rfl (by have h := smsize_ok n (by omega); simp only [encMd_eq,mdCells] at h; exact ⟨_, rfl, h⟩) ?_
                  rintro _ rfl
                  try simp only [go_sem]
                  refine hK1 _ ?_
                  refine runM_cut 2 (by simp) (by simp) fun K1 hK1 => ?_
                  try simp only [ltb]
                  simp only [f5,go_sem,reduceAdd,reduceLT,reduceEqDiff]
                  refine hK1 _ ?_
                  refine runM_case 140 (by rfl) fun b hb12_43 => ?_
                  cases b
                  ·cases hb12_43
                  ·refine runM_cut 5 (by simp) (by simp) fun K1 hK1 => ?_
                   try simp only [ltb]
                   simp only [f6,go_sem,reduceAdd,reduceLT,reduceEqDiff]
                   refine hK1 _ ?_
                   refine runM_case 145 (by rfl) fun b hb12_48 => ?_
                   cases b
                   ·cases hb12_48
                   ·refine runM_cut 6 (by simp) (by simp) fun K1 hK1 => ?_
                    try simp only [ltb]
                    simp only [f7,go_sem,reduceAdd,reduceLT,reduceEqDiff]
                    refine hK1 _ ?_
                    simp only [ltb,go_sem,reduceAdd,reduceLT,reduceEqDiff]
                    refine hK _ _ rfl ?_
                    simp only [mwb,reduceAdd,reduceEqDiff]
                    exact ex_ret ⟨.inl rfl, _, rfl, rfl⟩
                 ·refine runM_cut 6 (by simp) (by simp) fun K1 hK1 => ?_
                  simp only [ltb,go_sem,reduceAdd,reduceLT,reduceEqDiff]
                  refine hK1 _ ?_
                  refine runM_cut 6 (by simp) (by simp) fun K1 hK1 => ?_
                  simp only [ltb,go_sem,reduceAdd,reduceLT,reduceEqDiff]
                  refine hK1 _ ?_
                  simp only [ltb,go_sem,reduceAdd,reduceLT,reduceEqDiff]
                  refine hK _ _ rfl ?_
                  simp only [mwb,reduceAdd,reduceEqDiff]
                  exact ex_ret ⟨.inl rfl, _, rfl, rfl⟩
              ·refine runM_cut 6 (by simp) (by simp) fun K1 hK1 => ?_
               simp only [ltb,go_sem,reduceAdd,reduceLT,reduceEqDiff]
               refine hK1 _ ?_
               refine runM_cut 6 (by simp) (by simp) fun K1 hK1 => ?_
               simp only [ltb,go_sem,reduceAdd,reduceLT,reduceEqDiff]
               refine hK1 _ ?_
               refine runM_cut 6 (by simp) (by simp) fun K1 hK1 => ?_
               simp only [ltb,go_sem,reduceAdd,reduceLT,reduceEqDiff]
               refine hK1 _ ?_
               refine runM_case 134 (by rfl) fun b hb12_37 => ?_
               cases b
               ·have hmn2 : m = n := eqb_iff.1 (by rw [← hc]; cases c <;> simp_all)
                have f5 : decide ((m.size : Int) = (n.size : Int)) = true := by rw [hmn2]; simp
                obtain ⟨g1, g2⟩ := hmn hmn2
                have f6 : decide (am = an) = true := by rw [g1]; simp
                have f7 : decide (bm = bn) = true := by rw [g2]; simp
                refine runM_cut 2 (by simp) (by simp) fun K1 hK1 => ?_
                simp only [ltb,go_sem,reduceAdd,reduceLT,reduceEqDiff]
                refine callD_ex rfl (by have h := smsize_ok m (by omega); simp only [encMd_eq,mdCells] at h; exact ⟨_, rfl, h⟩) ?_
                rintro _ rfl
                try simp only [go_sem]
                refine hK1 _ ?_
                refine runM_cut 2 (by simp) (by simp) fun K1 hK1 => ?_
                simp only [ltb,go_sem,reduceAdd,reduceLT,reduceEqDiff]
                refine callD_ex rfl (by have h := smsize_ok n (by omega); simp only [encMd_eq,mdCells] at h; exact ⟨_, rfl, h⟩) ?_
                rintro _ rfl
                try simp only [go_sem]
                refine hK1 _ ?_
                refine runM_cut 2 (by simp) (by simp) fun K1 hK1 => ?_
                try simp only [ltb]
                simp only [f5,go_sem,reduceAdd,reduceLT,reduceEqDiff]
                refine hK1 _ ?_
                refine runM_case 140 (by rfl) fun b hb12_43 => ?_
                cases b
                ·cases hb12_43
                ·refine runM_cut 5 (by simp) (by simp) fun K1 hK1 => ?_
                 try simp only [ltb]
                 simp only [f6,go_sem,reduceAdd,reduceLT,reduceEqDiff]
                 refine hK1 _ ?_
                 refine runM_case 145 (by rfl) fun b hb12_48 => ?_
                 cases b
                 ·cases hb12_48
                 ·refine runM_cut 6 (by simp) (by simp) fun K1 hK1 => ?_
                  try simp only [ltb]
                  simp only [f7,go_sem,reduceAdd,reduceLT,reduceEqDiff]
                  refine hK1 _ ?_
                  simp only [ltb,go_sem,reduceAdd,reduceLT,reduceEqDiff]
                  refine hK _ _ rfl ?_
                  simp only [mwb,reduceAdd,reduceEqDiff]
                  exact ex_ret ⟨.inl rfl, _, rfl, rfl⟩
               ·refine runM_cut 6 (by simp) (by simp) fun K1 hK1 => ?_
                simp only [ltb,go_sem,reduceAdd,reduceLT,reduceEqDiff]
                refine hK1 _ ?_
                refine runM_cut 6 (by simp) (by simp) fun K1 hK1 => ?_
                simp only [ltb,go_sem,reduceAdd,reduceLT,reduceEqDiff]
                refine hK1 _ ?_
                simp only [ltb,go_sem,reduceAdd,reduceLT,reduceEqDiff]
                refine hK _ _ rfl ?_
                simp only [mwb,reduceAdd,reduceEqDiff]
                exact ex_ret ⟨.inl rfl, _, rfl, rfl⟩
           ·refine runM_cut 6 (by simp) (by simp) fun K1 hK1 => ?_
            simp only [ltb,go_sem,reduceAdd,reduceLT,reduceEqDiff]
            refine hK1 _ ?_
            refine runM_cut 6 (by simp) (by simp) fun K1 hK1 => ?_
            simp only [ltb,go_sem,reduceAdd,reduceLT,reduceEqDiff]
            refine hK1 _ ?_
            refine runM_cut 5 (by simp) (by simp) fun K1 hK1 => ?_
            simp only [ltb,go_sem,reduceAdd,reduceLT,reduceEqDiff]
            refine hK1 _ ?_
            refine runM_case 116 (by rfl) fun b hb12_19 => ?_
            cases b
            ·have hef : e = f := eqb_iff.1 (by rw [← hb]; cases b <;> simp_all)
             have f3 : decide ((e.size : Int) = (f.size : Int)) = true := by rw [hef]; simp
             have f4 : decide (ceRes hG e = ceRes hG f) = true := by rw [hef]; simp
             refine runM_cut 2 (by simp) (by simp) fun K1 hK1 => ?_
             simp only [ltb,go_sem,reduceAdd,reduceLT,reduceEqDiff]
             refine callD_ex rfl (by have h := sesize_ok e (by omega); simp only [encEx_eq,exCells] at h; exact ⟨_, rfl, h⟩) ?_
             rintro _ rfl
             try simp only [go_sem]
             refine hK1 _ ?_
             refine runM_cut 2 (by simp) (by simp) fun K1 hK1 => ?_
             simp only [ltb,go_sem,reduceAdd,reduceLT,reduceEqDiff]
             refine callD_ex rfl (by have h := sesize_ok f (by omega); simp only [encEx_eq,exCells] at h; exact ⟨_, rfl, h⟩) ?_
             rintro _ rfl
             try simp only [go_sem]
             refine hK1 _ ?_
             refine runM_cut 2 (by simp) (by simp) fun K1 hK1 => ?_
             try simp only [ltb]
             simp only [f3,go_sem,reduceAdd,reduceLT,reduceEqDiff]
             refine hK1 _ ?_
             refine runM_case 122 (by rfl) fun b hb12_25 => ?_
             cases b
             ·cases hb12_25
             ·refine runM_cut 2 (by simp) (by simp) fun K1 hK1 => ?_
              simp only [ltb,go_sem,reduceAdd,reduceLT,reduceEqDiff]
              refine callD_ex rfl (by have h := checkExpr_ok hG e (by omega); simp only [encEx_eq,exCells] at h; exact ⟨_, rfl, h⟩) ?_
              rintro _ rfl
              try simp only [go_sem]
              refine hK1 _ ?_
              refine runM_cut 2 (by simp) (by simp) fun K1 hK1 => ?_
              simp only [ltb,go_sem,reduceAdd,reduceLT,reduceEqDiff]
              refine callD_ex rfl (by have h := checkExpr_ok hG f (by omega); simp only [encEx_eq,exCells] at h; exact ⟨_, rfl, h⟩) ?_
              rintro _ rfl
              try simp only [go_sem]
              refine hK1 _ ?_
              refine runM_cut 5 (by simp) (by simp) fun K1 hK1 => ?_
              try simp only [ltb]
              simp only [f4,go_sem,reduceAdd,reduceLT,reduceEqDiff]
              refine hK1 _ ?_
              refine runM_case 131 (by rfl) fun b hb12_34 => ?_
              cases b
              ·cases hb12_34
              ·refine runM_cut 3 (by simp) (by simp) fun K1 hK1 => ?_
               simp only [ltb,go_sem,reduceAdd,reduceLT,reduceEqDiff]
               refine hK1 _ ?_
               refine runM_case 134 (by rfl) fun b hb12_37 => ?_
               cases b
               ·have hmn2 : m = n := eqb_iff.1 (by rw [← hc]; cases c <;> simp_all)
                have f5 : decide ((m.size : Int) = (n.size : Int)) = true := by rw [hmn2]; simp
                obtain ⟨g1, g2⟩ := hmn hmn2
                have f6 : decide (am = an) = true := by rw [g1]; simp
                have f7 : decide (bm = bn) = true := by rw [g2]; simp
                refine runM_cut 2 (by simp) (by simp) fun K1 hK1 => ?_
                simp only [ltb,go_sem,reduceAdd,reduceLT,reduceEqDiff]
                refine callD_ex rfl (by have h := smsize_ok m (by omega); simp only [encMd_eq,mdCells] at h; exact ⟨_, rfl, h⟩) ?_
                rintro _ rfl
                try simp only [go_sem]
                refine hK1 _ ?_
                refine runM_cut 2 (by simp) (by simp) fun K1 hK1 => ?_
                simp only [ltb,go_sem,reduceAdd,reduceLT,reduceEqDiff]
                refine callD_ex rfl (by have h := smsize_ok n (by omega); simp only [encMd_eq,mdCells] at h; exact ⟨_, rfl, h⟩) ?_
                rintro _ rfl
                try simp only [go_sem]
                refine hK1 _ ?_
                refine runM_cut 2 (by simp) (by simp) fun K1 hK1 => ?_
                try simp only [ltb]
                simp only [f5,go_sem,reduceAdd,reduceLT,reduceEqDiff]
                refine hK1 _ ?_
                refine runM_case 140 (by rfl) fun b hb12_43 => ?_
                cases b
                ·cases hb12_43
                ·refine runM_cut 5 (by simp) (by simp) fun K1 hK1 => ?_
                 try simp only [ltb]
                 simp only [f6,go_sem,reduceAdd,reduceLT,reduceEqDiff]
                 refine hK1 _ ?_
                 refine runM_case 145 (by rfl) fun b hb12_48 => ?_
                 cases b
                 ·cases hb12_48
                 ·refine runM_cut 6 (by simp) (by simp) fun K1 hK1 => ?_
                  try simp only [ltb]
                  simp only [f7,go_sem,reduceAdd,reduceLT,reduceEqDiff]
                  refine hK1 _ ?_
                  simp only [ltb,go_sem,reduceAdd,reduceLT,reduceEqDiff]
                  refine hK _ _ rfl ?_
                  simp only [mwb,reduceAdd,reduceEqDiff]
                  exact ex_ret ⟨.inl rfl, _, rfl, rfl⟩
               ·refine runM_cut 6 (by simp) (by simp) fun K1 hK1 => ?_
                simp only [ltb,go_sem,reduceAdd,reduceLT,reduceEqDiff]
                refine hK1 _ ?_
                refine runM_cut 6 (by simp) (by simp) fun K1 hK1 => ?_
                simp only [ltb,go_sem,reduceAdd,reduceLT,reduceEqDiff]
                refine hK1 _ ?_
                simp only [ltb,go_sem,reduceAdd,reduceLT,reduceEqDiff]
                refine hK _ _ rfl ?_
                simp only [mwb,reduceAdd,reduceEqDiff]
                exact ex_ret ⟨.inl rfl, _, rfl, rfl⟩
            ·refine runM_cut 6 (by simp) (by simp) fun K1 hK1 => ?_
             simp only [ltb,go_sem,reduceAdd,reduceLT,reduceEqDiff]
             refine hK1 _ ?_
             refine runM_cut 6 (by simp) (by simp) fun K1 hK1 => ?_
             simp only [ltb,go_sem,reduceAdd,reduceLT,reduceEqDiff]
             refine hK1 _ ?_
             refine runM_cut 6 (by simp) (by simp) fun K1 hK1 => ?_
             simp only [ltb,go_sem,reduceAdd,reduceLT,reduceEqDiff]
             refine hK1 _ ?_
             refine runM_case 134 (by rfl) fun b hb12_37 => ?_
             cases b
             ·have hmn2 : m = n := eqb_iff.1 (by rw [← hc]; cases c <;> simp_all)
              have f5 : decide ((m.size : Int) = (n.size : Int)) = true := by rw [hmn2]; simp
              obtain ⟨g1, g2⟩ := hmn hmn2
              have f6 : decide (am = an) = true := by rw [g1]; simp
              have f7 : decide (bm = bn) = true := by rw [g2]; simp
              refine runM_cut 2 (by simp) (by simp) fun K1 hK1 => ?_
              simp only [ltb,go_sem,reduceAdd,reduceLT,reduceEqDiff]
              refine callD_ex rfl (by have h := smsize_ok m (by omega); simp only [encMd_eq,mdCells] at h; exact ⟨_, rfl, h⟩) ?_
              rintro _ rfl
              try simp only [go_sem]
              refine hK1 _ ?_
              refine runM_cut 2 (by simp) (by simp) fun K1 hK1 => ?_
              simp only [ltb,go_sem,reduceAdd,reduceLT,reduceEqDiff]
              refine callD_ex rfl (by have h := smsize_ok n (by omega); simp only [encMd_eq,mdCells] at h; exact ⟨_, rfl, h⟩) ?_
              rintro _ rfl
              try simp only [go_sem]
              refine hK1 _ ?_
              refine runM_cut 2 (by simp) (by simp) fun K1 hK1 => ?_
              try simp only [ltb]
              simp only [f5,go_sem,reduceAdd,reduceLT,reduceEqDiff]
              refine hK1 _ ?_
              refine runM_case 140 (by rfl) fun b hb12_43 => ?_
              cases b
              ·cases hb12_43
              ·refine runM_cut 5 (by simp) (by simp) fun K1 hK1 => ?_
               try simp only [ltb]
               simp only [f6,go_sem,reduceAdd,reduceLT,reduceEqDiff]
               refine hK1 _ ?_
               refine runM_case 145 (by rfl) fun b hb12_48 => ?_
               cases b
               ·cases hb12_48
               ·refine runM_cut 6 (by simp) (by simp) fun K1 hK1 => ?_
                try simp only [ltb]
                simp only [f7,go_sem,reduceAdd,reduceLT,reduceEqDiff]
                refine hK1 _ ?_
                simp only [ltb,go_sem,reduceAdd,reduceLT,reduceEqDiff]
                refine hK _ _ rfl ?_
                simp only [mwb,reduceAdd,reduceEqDiff]
                exact ex_ret ⟨.inl rfl, _, rfl, rfl⟩
             ·refine runM_cut 6 (by simp) (by simp) fun K1 hK1 => ?_
              simp only [ltb,go_sem,reduceAdd,reduceLT,reduceEqDiff]
              refine hK1 _ ?_
              refine runM_cut 6 (by simp) (by simp) fun K1 hK1 => ?_
              simp only [ltb,go_sem,reduceAdd,reduceLT,reduceEqDiff]
              refine hK1 _ ?_
              simp only [ltb,go_sem,reduceAdd,reduceLT,reduceEqDiff]
              refine hK _ _ rfl ?_
              simp only [mwb,reduceAdd,reduceEqDiff]
              exact ex_ret ⟨.inl rfl, _, rfl, rfl⟩
         ·cases hb8_12
        ·cases hb8_5
      ·cases hb5_10
     ·cases hb5_4
   ·refine runM_cut 6 (by simp) (by simp) fun K1 hK1 => ?_
    simp only [ltb,go_sem,reduceAdd,reduceLT,reduceEqDiff]
    refine hK1 _ ?_
    simp only [ltb,go_sem,reduceAdd,reduceLT,reduceEqDiff]
    refine hK _ _ rfl ?_
    simp only [mwb,reduceAdd,reduceEqDiff]
    refine ex_cond rfl ?_
    refine ex_region_w tt_ok 152 (rp 12 0 [2]) [] rfl rfl fun K hK => ?_
    simp only [ltb,go_sem,reduceAdd]
    refine hK _ _ rfl ?_
    simp only [mwb,reduceAdd]
    exact ex_ret ⟨.inl rfl, _, rfl, rfl⟩
  ·refine runM_cut 6 (by simp) (by simp) fun K1 hK1 => ?_
   simp only [ltb,go_sem,reduceAdd,reduceLT,reduceEqDiff]
   refine hK1 _ ?_
   refine runM_cut 6 (by simp) (by simp) fun K1 hK1 => ?_
   simp only [ltb,go_sem,reduceAdd,reduceLT,reduceEqDiff]
   refine hK1 _ ?_
   simp only [ltb,go_sem,reduceAdd,reduceLT,reduceEqDiff]
   refine hK _ _ rfl ?_
   simp only [mwb,reduceAdd,reduceEqDiff]
   refine ex_cond rfl ?_
   refine ex_region_w tt_ok 152 (rp 12 0 [2]) [] rfl rfl fun K hK => ?_
   simp only [ltb,go_sem,reduceAdd]
   refine hK _ _ rfl ?_
   simp only [mwb,reduceAdd]
   exact ex_ret ⟨.inl rfl, _, rfl, rfl⟩
theorem equalityLaw_ok (hG : Glob.g = some 0) (haw : FnOk Tryz.prog 10 [] (bl true)) (t u : Ty) (e f : Ex) (m n : Md) (ht : t.wt ≤ 1048576) (hu : u.wt ≤ 1048576) (he : e.wt ≤ 1048576) (hf : f.wt ≤ 1048576) (hm : m.wt ≤ 1048576) (hn : n.wt ≤ 1048576) : FnOk Tryz.prog 7 [encTy t, encTy u, encEx e, encEx f, encMd m, encMd n] (bl true) := by
 obtain ⟨_, rfl, h⟩ := equality_law hG haw t u e f m n ht hu he hf hm hn
 exact h
end Go.Proofs.YtpjdfcigadnhcaaGreatDoor
end

section
namespace Go.Proofs.YtpjdfcigadnhcaaGreatDoor.lawSyntaxEquality
open Go.Eng
set_option maxRecDepth 100000
open Go.ChangeShapes Go.WideShapes Go.ChangeAt Go.RowKit
theorem contract (H : Type) (enc : TypeId × Value → H) (W : World) (args : Array Value) (ds gs : List (DataW H)) (before : List MemPlace)
  (hW : DataW.Whole enc Tryz.prog Tryz.f7.params.toList Rows.syntaxEqualitySpec.vars false W args.toList ds gs before) (hb : Rows.uptoBulkAll (ds ++ gs) ≤ 1048576) (hS : W.ShapedOpen Tryz.prog) :
  Calls Tryz.prog 7 args W fun e W' => ∃ v, e = .returned v ∧ Rows.syntaxEqualitySpec.post enc Tryz.prog Tryz.f7 false true false false W args v W' := by
 have hW' := hW
 have hlt := hW.lt
 obtain ⟨p, q, hA0, hV, rfl, hfz, hnd⟩ := hW
 have hA : DataW.TrodAll enc Tryz.prog W 0 (fun _ => true) true Tryz.f7.params.toList args.toList ds p := hA0
 rw [Tryz.params7] at hA
 obtain ⟨v0, vs0, d0, ds0, p0, q0, hargs, rfl, rfl, h0, r0⟩ := trodAll_cons hA
 obtain ⟨v1, vs1, d1, ds1, p1, q1, rfl, rfl, rfl, h1, r1⟩ := trodAll_cons r0
 obtain ⟨v2, vs2, d2, ds2, p2, q2, rfl, rfl, rfl, h2, r2⟩ := trodAll_cons r1
 obtain ⟨v3, vs3, d3, ds3, p3, q3, rfl, rfl, rfl, h3, r3⟩ := trodAll_cons r2
 obtain ⟨v4, vs4, d4, ds4, p4, q4, rfl, rfl, rfl, h4, r4⟩ := trodAll_cons r3
 obtain ⟨v5, vs5, d5, ds5, p5, q5, rfl, rfl, rfl, h5, r5⟩ := trodAll_cons r4
 obtain ⟨rfl, rfl, rfl⟩ := trodAll_nil r5
 obtain rfl : args = #[v0, v1, v2, v3, v4, v5] := by cases args; simp_all
 obtain ⟨rfl, rfl⟩ := trodVars_none hV
 clear hA0 hA r0 r1 r2 r3 r4 r5 hargs hV
 simp only [List.append_nil] at hW' hlt
 simp only [ltb,List.append_nil,Rows.uptoBulkAll] at hb
 have h0' := h0
 have h1' := h1
 have h2' := h2
 have h3' := h3
 have h4' := h4
 have h5' := h5
 obtain ⟨f0, h0⟩ := h0
 obtain ⟨f1, h1⟩ := h1
 obtain ⟨f2, h2⟩ := h2
 obtain ⟨f3, h3⟩ := h3
 obtain ⟨f4, h4⟩ := h4
 obtain ⟨f5, h5⟩ := h5
 have main : Calls Tryz.prog 7 #[v0, v1, v2, v3, v4, v5] W fun e W' => e = .returned (.bool true) ∧ Below W.heap.size W W' := by
  obtain ⟨n, hn⟩ := maxLen_at hS
  have go : ∀ (G : Glob) (hG : G.g = some 0) (hg : @Gl G W.cell?), @FnOk G Tryz.prog 10 [] tru → Calls Tryz.prog 7 #[v0, v1, v2, v3, v4, v5] W fun e W' => e = .returned (.bool true) ∧ Below W.heap.size W W' := fun G hG hg haw => by
   obtain ⟨x0, hx0, b0⟩ := rd_ty (F := W.cell?) (hg := hg) rfl _ h0
   obtain ⟨x1, hx1, b1⟩ := rd_ty (F := W.cell?) (hg := hg) rfl _ h1
   obtain ⟨x2, hx2, b2⟩ := rd_ex (F := W.cell?) (hg := hg) rfl _ h2
   obtain ⟨x3, hx3, b3⟩ := rd_ex (F := W.cell?) (hg := hg) rfl _ h3
   obtain ⟨x4, hx4, b4⟩ := rd_md (F := W.cell?) (hg := hg) rfl h4
   obtain ⟨x5, hx5, b5⟩ := rd_md (F := W.cell?) (hg := hg) rfl h5
   rw [encTy_eq] at hx0
   rw [encTy_eq] at hx1
   rw [encEx_eq] at hx2
   rw [encEx_eq] at hx3
   rw [encMd_eq] at hx4
   rw [encMd_eq] at hx5
   have w0 := x0.size_le_wt
   have w1 := x1.size_le_wt
   have w2 := x2.bulk_le_wt
   have w3 := x3.bulk_le_wt
   have w4 := x4.bulk_le_wt
   have w5 := x5.bulk_le_wt
   have hc := equalityLaw_ok hG haw x0 x1 x2 x3 x4 x5 (by omega) (by omega) (by omega) (by omega) (by omega) (by omega)
   refine (hc.2 W.cell? hg W #[v0, v1, v2, v3, v4, v5] (fun _ _ h => h) ?_).mono fun o W' h => ?_
   ·simp only [encEx_eq,encMd_eq,encTy_eq]
    exact .cons (rep_one (by simp [tyCells]) hx0) (.cons (rep_one (by simp [tyCells]) hx1) (.cons (rep_one (by simp [exCells]) hx2) (.cons (rep_one (by simp [exCells]) hx3) (.cons (rep_one (by simp [mdCells]) hx4) (.cons (rep_one (by simp [mdCells]) hx5) (.nil _))))))
   ·obtain ⟨F', x, rfl, -, -, -, ⟨hg', hx⟩, hbel⟩ := h
    obtain rfl := rep_sc hx
    exact ⟨rfl, hbel⟩
  by_cases hge : 4 ≤ n
  ·exact go (gGe n hge) rfl (@Gl.mk (gGe n hge) _ (fun g hg => by cases hg; exact hn) (fun g cs j x h => by cases h)) (awake_ge n hge)
  ·by_cases he3 : n = 3
   ·subst he3
    exact go gEq rfl (@Gl.mk gEq _ (fun g hg => by cases hg; exact hn) (fun g cs j x h => by cases h)) awake_eq
   ·have hl : n < 3 := by omega
    exact go (gLt n hl) rfl (@Gl.mk (gLt n hl) _ (fun g hg => by cases hg; exact hn) (fun g cs j x h => by cases h)) (awake_lt n hl)
 refine main.mono fun e W' ⟨he, hbel⟩ => ?_
 subst he
 have hlaid : laidOutB Tryz.prog = true := by kernel_rfl
 refine ⟨_, rfl, post_kept (pa := p0 ++ (p1 ++ (p2 ++ (p3 ++ (p4 ++ (p5 ++ [])))))) (pv := []) hW' (fun _ _ _ => trodAll_cons_mk (shut_bool Tryz.underlying4 _) trodAll_mk0) (fun sp hsp => ?_) (fun _ _ => rfl) (by simp)
  hbel (ok_one (by kernel_rfl) rfl (okWide_bool_mk Tryz.underlying4 _))⟩
 ·refine trodAll_cons_mk (WideElems.Trod_stays hlaid (by kernel_rfl) (of_decide_eq_true (by kernel_rfl)) h0' (fun x hx => hbel.same (hlt x (by simp [hx]))) (fun x hx => hsp x (by simp [hx])))
   (trodAll_cons_mk (WideElems.Trod_stays hlaid (by kernel_rfl) (of_decide_eq_true (by kernel_rfl)) h1' (fun x hx => hbel.same (hlt x (by simp [hx]))) (fun x hx => hsp x (by simp [hx])))
   (trodAll_cons_mk (WideElems.Trod_stays hlaid (by kernel_rfl) (of_decide_eq_true (by kernel_rfl)) h2' (fun x hx => hbel.same (hlt x (by simp [hx]))) (fun x hx => hsp x (by simp [hx])))
   (trodAll_cons_mk (WideElems.Trod_stays hlaid (by kernel_rfl) (of_decide_eq_true (by kernel_rfl)) h3' (fun x hx => hbel.same (hlt x (by simp [hx]))) (fun x hx => hsp x (by simp [hx])))
   (trodAll_cons_mk (WideElems.Trod_stays hlaid (by kernel_rfl) (of_decide_eq_true (by kernel_rfl)) h4' (fun x hx => hbel.same (hlt x (by simp [hx]))) (fun x hx => hsp x (by simp [hx])))
   (trodAll_cons_mk (WideElems.Trod_stays hlaid (by kernel_rfl) (of_decide_eq_true (by kernel_rfl)) h5' (fun x hx => hbel.same (hlt x (by simp [hx]))) (fun x hx => hsp x (by simp [hx])))
   trodAll_mk0)))))
end Go.Proofs.YtpjdfcigadnhcaaGreatDoor.lawSyntaxEquality
end

section
namespace Go.Proofs.YtpjdfcigadnhcaaGreatDoor
open Go.ChangeShapes Go.WideShapes Go.ChangeAt Go.RowKit
theorem own : ownKnob Tryz.prog.godebug = none := by kernel_rfl
def wTy : Value := .agg #[.int .i64 0, .string ⟨#[]⟩, .string ⟨#[]⟩, .slice none 0 0, .slice none 0 0]
def wEx : Value := .agg #[.int .i64 0, .string ⟨#[]⟩, .string ⟨#[]⟩, .string ⟨#[]⟩, .int .i64 0, .slice none 0 0, .slice none 0 0, .slice none 0 0]
def wMd : Value := .agg #[.string ⟨#[]⟩, .slice none 0 0, .slice none 0 0]
def dTy (H : Type) : DataW H := .agg [.lit (.int .i64 0), .lit (.string []), .lit (.string []), .nil, .nil]
def dEx (H : Type) : DataW H := .agg [.lit (.int .i64 0), .lit (.string []), .lit (.string []), .lit (.string []), .lit (.int .i64 0), .nil, .nil, .nil]
def dMd (H : Type) : DataW H := .agg [.lit (.string []), .nil, .nil]
def layAs (cs : Array Value) : Obj → Obj
 | .cells _ t frozen => .cells cs t frozen
 | o => o
def accZ : List Nat := [128,191,160,191,128,159,144,191,128,143,0,0,0,0,0,0,0,0,0,0,0,0,0,0,0,0,0,0,0,0,0,0]
noncomputable def laidWorld (os : Os) : World :=
 { World.holding Tryz.prog os ⟨#[], #[], []⟩ with heap := ((World.holding Tryz.prog os ⟨#[], #[], []⟩).heap.modify 1 (layAs ⟨Pinned.utf8FirstZ.map fun n => Value.int .u8 (Int.ofNat n)⟩)).modify 2 (layAs ⟨accZ.map fun n => Value.int .u8 (Int.ofNat n)⟩) }
end Go.Proofs.YtpjdfcigadnhcaaGreatDoor
end
