/-
  CONTRACTS: requirements that a selection breaks.
  CONTRACTS: Solves.
  AWAKE: the example of the chapter.
  AWAKE.
  CLOSING: what is common to the laws of chapter 32.
  CONTRACTS: what a selection satisfies.
  PLAIN LAW: what a solution is.
  CONTRACTS: slices.Grow of a nil slice (the kit's contract, laid here).
  CONTRACTS: Concat.
  THE LAW IndexSolutions.
  THE LAW IndexSolutions, A: what it does at every argument of the bound, in every world of the shape.
  CLOSING, B: a world for the witness.
-/
import Derived.Test.YtnfeacnbgbggfaaGreatDoorH6
import Derived.WalkKit
import Derived.ProofKit
import Derived.OpenShut
import Derived.WideKeyArgs
import Derived.Deep.DeepHandedRow
import Derived.Shelf.Spec.SlicesGrow
import Derived.Test.YtnfeacnbgbggfaaGreatDoorCards
import Derived.Test.YtnfeacnbgbggfaaGreatDoorTie
import Derived.Lib.LaidTab
set_option linter.all false
section
namespace Go.Proofs.YtnfeacnbgbggfaaGreatDoor
open Go.Eng
open Nat (reduceAdd reduceLT reduceLeDiff reduceMul reduceEqDiff reduceSub)
variable [Glob]
set_option maxHeartbeats 4000000
set_option maxRecDepth 100000
attribute [local irreducible] runM stepM valD stepOp stepD callF callS
def byP (m : List Rl) (p : ByteArray) : Option Rl := m.find? fun r => decide (r.path = p)
def gB (m : List Rl) : List (ByteArray × V) := m.map fun r => (r.path, encRl r)
theorem getM_gB (p : ByteArray) : ∀ m : List Rl, getM p (gB m) = (byP m p).map encRl
 | [] => rfl
 | r :: t => by
  show (if r.path = p then some (encRl r) else getM p (gB t)) = _
  unfold byP
  rw [List.find?_cons]
  by_cases h : r.path = p
  ·simp [h]
  ·have := getM_gB p t
   unfold byP at this
   simp [h, this]
theorem gB_below (n : Nat) (m : List Rl) : ((mkM strVal 0 (gB m)).all fun e => belowV n e.2.2) = true := by
 rw [mkM_all strVal (belowV n)]
 unfold gB
 simp [encRl_below]
theorem renB_gB (σ : Nat → Nat) (m : List Rl) (c : Nat) : renB σ (.map (mkM strVal 0 (gB m)) c) = .map (mkM strVal 0 (gB m)) c := by
 rw [renB_mkM]
 congr 2
 unfold gB
 rw [List.map_map]
 exact List.map_congr_left fun r _ => by simp [renV_rl]
theorem byP_none {m : List Rl} {p : ByteArray} (h : byP m p = none) {mem : List Blk} {b : Nat} (hm : mem[b]? = some (.map (mkM strVal 0 (gB m)) (gB m).length)) :
  lookupV Tryz.prog mem 92 (.mp b) (str p) true = some (.tup [.agg [str ⟨#[]⟩, num 0, num 0, num 0, .sc (.slice none 0 0), str ⟨#[]⟩, str ⟨#[]⟩, str ⟨#[]⟩, bl false], bl false]) := by
 rw [kt92.get p (gB m) hm zero40, getM_gB, h]; rfl
theorem byP_some {m : List Rl} {p : ByteArray} {r : Rl} (h : byP m p = some r) {mem : List Blk} {b : Nat} (hm : mem[b]? = some (.map (mkM strVal 0 (gB m)) (gB m).length)) :
  lookupV Tryz.prog mem 92 (.mp b) (str p) true = some (.tup [encRl r, bl true]) := by
 rw [kt92.get p (gB m) hm zero40, getM_gB, h]; rfl
theorem byP_get {m : List Rl} {p : ByteArray} {r : Rl} (h : byP m p = some r) {mem : List Blk} {b : Nat} (hm : mem[b]? = some (.map (mkM strVal 0 (gB m)) (gB m).length)) :
  lookupV Tryz.prog mem 92 (.mp b) (str p) false = some (encRl r) := by
 rw [kt92.get p (gB m) hm zero40, getM_gB, h]; rfl
def brk (m : List Rl) (q : Rq) : Bool := match byP m q.path with | none => true | some r => !has q.set r.ver.pl
def σ2 (k k2 n j : Nat) : Nat := if j = 0 then k else if j = 1 then k2 else n + (j - 2)
theorem fnOkS_at2' {P : Program} {f : FuncId} {vs : List V} {r : V} {B0 B1 B0' : Blk} (h : FnOkS P f vs [B0, B1] r [B0', B1]) (M : List Blk) (k k2 : Nat) (hv : vs.all (belowV 2) = true) (hm : [B0, B1].all (belowB 2) = true) (hr : belowV 2 r = true) (hm' : [B0', B1].all (belowB 2) = true)
  (hk : M[k]? = some (renB (σ2 k k2 M.length) B0)) (hk2 : M[k2]? = some (renB (σ2 k k2 M.length) B1)) (hne : k ≠ k2) :
  FnOkS P f (renL (σ2 k k2 M.length) vs) M (renV (σ2 k k2 M.length) r) (M.set k (renB (σ2 k k2 M.length) B0')) := by
 have h3 := h.ren M (σ2 k k2 M.length) 2 rfl hv hm hr hm' (by simp) (fun i B hi => by
  match i with
  | 0 => simp at hi; subst hi; exact hk
  | 1 => simp at hi; subst hi; exact hk2
  | i + 2 => simp at hi) (fun i j hi hj he => by
  match i, j with
  | 0, 0 => rfl
  | 1, 1 => rfl
  | 0, 1 => exact absurd (by simpa [σ2] using he) hne
  | 1, 0 => exact absurd (by simpa [σ2] using he.symm) hne
  | i + 2, _ => omega
  | _, j + 2 => omega) (fun j hj => by unfold σ2; rw [if_neg (by omega), if_neg (by omega)])
 have hM : putR (σ2 k k2 M.length) 2 [B0', B1] M = M.set k (renB (σ2 k k2 M.length) B0') := by
  unfold putR
  simp only [ltb,List.map_nil,List.append_nil,setAll]
  show (M.set k (renB _ B0')).set k2 (renB _ B1) = _
  exact set_same (by rw [List.getElem?_set_ne hne]; exact hk2)
 rwa [hM] at h3
theorem clo52_ok (m : List Rl) (q : Rq) (hq : RqB q) : ∃ r_, (fun w => w = bl (brk m q)) r_ ∧ FnOkS Tryz.prog 52 [encRq q, .ptr 1 0] ([.map (mkM strVal 0 (gB m)) (gB m).length, .box [.mp 0]]) r_ ([.map (mkM strVal 0 (gB m)) (gB m).length, .box [.mp 0]]) := by
 refine fns_ex tt_ok (fn := Tryz.f52) Tryz.func52 rfl Tryz.call52 (by simp [bB_map, bB_box, gB_below, belowV]) ?_
 simp only [ltb,startSt,Tryz.ntmps52,List.length_cons,List.length_nil,reduceAdd,reduceSub,List.replicate_succ,List.replicate_zero]
 simp only [encRq,encSet]
 obtain ⟨hq1, hq2⟩ := hq
 refine ex_region_w tt_ok 23 [0,0,2,2] [] rfl rfl fun K hK => ?_
 simp only [ltb,go_sem,reduceAdd,reduceLT]
 refine hK _ _ rfl ?_
 simp only [mwb,reduceAdd,reduceEqDiff]
 rcases hf : byP m q.path with _ | r
 ·have hlk := fun (mem : List Blk) (b : Nat) hm => byP_none hf (mem := mem) (b := b) hm
  have hR : true = brk m q := by unfold brk; rw [hf]
  refine ex_region_w tt_ok 23 [0,0,0,0,2,2,1,1,1,1,1,1,1] [] rfl rfl fun K hK => ?_
  refine runX_cut 8 fun K1 hK1 => ?_
  simp only [ltb]
  simp only [hlk,go_sem,reduceAdd,reduceLT,reduceLeDiff,reduceEqDiff]
  refine hK1 _ ?_
  simp only [ltb,go_sem,reduceAdd,reduceLT,reduceEqDiff]
  refine hK _ _ rfl ?_
  simp only [mwb,reduceAdd,reduceEqDiff]
  refine ex_mixed_w tt_ok mixed_ok 23 [0,0,0,2,0,0,0,0,0,0,0,0,0,1,1,1,1,1,1,1,1,1,1] (by kernel_rfl) [⟨.n, 0, [], [], []⟩, ⟨.n, 0, [], [], []⟩, ⟨.n, 0, [], [], []⟩, ⟨.n, 0, [], [], []⟩, ⟨.r, 0, [], [], []⟩, ⟨.r, 0, [], [], []⟩, ⟨.n, 0, [], [], []⟩, ⟨.n, 0, [], [], []⟩, ⟨.n, 0, [], [], []⟩, ⟨.n, 0, [], [], []⟩, ⟨.n, 0, [], [], []⟩] 0 (by kernel_rfl) fun K hK => ?_
  try simp only [ltb,List.replicate_zero]
  refine runM_cut 3 (by simp) (by simp) fun K1 hK1 => ?_
  simp only [ltb,go_sem,reduceAdd,reduceLT,reduceEqDiff]
  refine hK1 _ ?_
  refine runM_case 15 (by rfl) fun b hb2_2 => ?_
  cases b
  ·cases hb2_2
  ·refine runM_cut 6 (by simp) (by simp) fun K1 hK1 => ?_
   simp only [ltb,go_sem,reduceAdd,reduceLT,reduceEqDiff]
   refine hK1 _ ?_
   simp only [ltb,go_sem,reduceAdd,reduceLT,reduceEqDiff]
   refine hK _ _ rfl ?_
   simp only [mwb,reduceAdd,reduceEqDiff]
   exact ex_ret ⟨.inl rfl, _, congrArg bl hR, rfl, by simp [belowV], by simp []⟩
 ·have hlk := fun (mem : List Blk) (b : Nat) hm => byP_some hf (mem := mem) (b := b) hm
  simp only [encRl,rlCells,encRqs] at hlk
  have hR : (!has q.set r.ver.pl) = brk m q := by unfold brk; rw [hf]
  refine ex_region_w tt_ok 23 [0,0,0,0,2,2,1,1,1,1,1,1,1] [] rfl rfl fun K hK => ?_
  refine runX_cut 8 fun K1 hK1 => ?_
  simp only [ltb]
  simp only [hlk,go_sem,reduceAdd,reduceLT,reduceLeDiff,reduceEqDiff]
  refine hK1 _ ?_
  simp only [ltb,go_sem,reduceAdd,reduceLT,reduceEqDiff]
  refine hK _ _ rfl ?_
  simp only [mwb,reduceAdd,reduceEqDiff]
  refine ex_mixed_w tt_ok mixed_ok 23 [0,0,0,2,0,0,0,0,0,0,0,0,0,1,1,1,1,1,1,1,1,1,1] (by kernel_rfl) [⟨.n, 0, [], [], []⟩, ⟨.n, 0, [], [], []⟩, ⟨.n, 0, [], [], []⟩, ⟨.n, 0, [], [], []⟩, ⟨.r, 0, [], [], []⟩, ⟨.r, 0, [], [], []⟩, ⟨.n, 0, [], [], []⟩, ⟨.n, 0, [], [], []⟩, ⟨.n, 0, [], [], []⟩, ⟨.n, 0, [], [], []⟩, ⟨.n, 0, [], [], []⟩] 0 (by kernel_rfl) fun K hK => ?_
  try simp only [ltb,List.replicate_zero]
  refine runM_cut 3 (by simp) (by simp) fun K1 hK1 => ?_
  simp only [ltb,go_sem,reduceAdd,reduceLT,reduceEqDiff]
  refine hK1 _ ?_
  refine runM_case 15 (by rfl) fun b hb2_2 => ?_
  cases b
  ·refine runM_cut 4 (by simp) (by simp) fun K1 hK1 => ?_
   simp only [ltb,go_sem,reduceAdd,reduceLT,reduceEqDiff]
   refine callD_ex rfl (by have h := place_ok r; simp only [encRl,rlCells,encRqs] at h; exact h) ?_
   rintro _ rfl
   try simp only [go_sem]
   refine hK1 _ ?_
   refine runM_cut 1 (by simp) (by simp) fun K1 hK1 => ?_
   simp only [ltb,go_sem,reduceAdd,reduceLT,reduceEqDiff]
   refine callD_ex rfl (by have h := has_ok q.set r.ver.pl hq2; simp only [encSet] at h; exact h) ?_
   rintro _ rfl
   try simp only [go_sem]
   refine hK1 _ ?_
   simp only [ltb,go_sem,reduceAdd,reduceLT,reduceEqDiff]
   refine hK _ _ rfl ?_
   simp only [mwb,reduceAdd,reduceEqDiff]
   exact ex_ret ⟨.inl rfl, _, congrArg bl hR, rfl, by simp [belowV], by simp []⟩
  ·cases hb2_2
theorem idxQ_52 (m : List Rl) (l : List Rq) (hl : l.length ≤ 2097152) (hlb : ∀ q ∈ l, RqB q) : ∃ r_, (fun w => ∃ k : Int, w = num k ∧ decide (0 ≤ k) = l.any (brk m)) r_ ∧ FnOkS Tryz.prog 79 [encRqs l, .clo (.func 52) [] [.ptr 1 0]] ([.map (mkM strVal 0 (gB m)) (gB m).length, .box [.mp 0]]) r_ ([.map (mkM strVal 0 (gB m)) (gB m).length, .box [.mp 0]]) := by
 refine fns_ex tt_ok (fn := Tryz.f79) Tryz.func79 rfl Tryz.call79 (by simp [bB_map, bB_box, gB_below, belowV]) ?_
 simp only [ltb,startSt,Tryz.ntmps79,List.length_cons,List.length_nil,reduceAdd,reduceSub,List.replicate_succ,List.replicate_zero]
 simp only [encRqs]
 refine ex_region_w tt_ok 19 [0,0,0,0,2] [] rfl rfl fun K hK => ?_
 simp only [ltb,go_sem,reduceAdd]
 refine hK _ _ rfl ?_
 simp only [mwb,reduceAdd]
 refine ex_seq ?_
 refine ex_region_w tt_ok 19 [0,0,0,0,0,0,1,2,2] [] rfl rfl fun K hK => ?_
 try simp only [ltb]
 simp only [List.length_map,go_sem,reduceAdd,reduceLT]
 refine hK _ _ rfl ?_
 simp only [mwb,reduceAdd,reduceEqDiff]
 refine ex_block ?_
 refine ex_loopK [8] [num 0] 2 [true,true,false,false,true,false,false,true,true] (fun vs => ((l.length : Int) - Go.Eng.intOf (vs.headD .undef)).toNat) (fun vs => ∃ i : Nat, vs = [num i] ∧ i ≤ l.length ∧ ∀ j < i, ∀ x, l[j]? = some x → (brk m) x = false) (by omega) (by simp only [maskFr,belowV,belowL,reduceLT,mkb]) (by simp only [gB_below,List.all_cons,List.all_nil,belowV,bB_box,bB_map,reduceLT,decide_true,Bool.and_self,List.take_succ_cons,List.take_nil]) (by rfl) (⟨0, rfl, Nat.zero_le _, fun j hj => absurd hj (Nat.not_lt_zero j)⟩) fun vs hI => ?_
 obtain ⟨i, rfl, hi, hall⟩ := hI
 simp only [maskFr,putAll,List.set_cons_zero,List.set_cons_succ,mkb]
 refine ex_region_w tt_ok 19 (rp 9 0 [2]) [] rfl rfl fun K hK => ?_
 simp only [ltb,go_sem,reduceAdd,reduceLT]
 refine hK _ _ rfl ?_
 simp only [mwb,reduceAdd]
 refine ex_seq ?_
 refine ex_if rfl (fun hc9 => ?_) (fun hc9 => ?_)
 ·have hlt : i < l.length := by simpa using hc9
  have hw := i64_succ i (by omega)
  obtain ⟨x, hx⟩ : ∃ x, l[i]? = some x := ⟨_, List.getElem?_eq_getElem hlt⟩
  have hxb := hlb x (List.mem_of_getElem? hx)
  refine ex_skip ?_
  show Go.Eng.Ex _ _ _ _ _ _
  refine ex_seq ?_
  refine ex_block ?_
  refine ex_region_w tt_ok 19 [0,0,0,0,0,2,0,0,0,0,1] [] rfl rfl fun K hK => ?_
  simp only [ltb,go_sem,reduceAdd,reduceLT]
  refine hK _ _ rfl ?_
  simp only [mwb,reduceAdd,reduceEqDiff]
  refine ex_region_w tt_ok 19 (rp 11 0 [1,1,1,1,1,2]) [] rfl rfl fun K hK => ?_
  try simp only [ltb]
  simp only [List.getElem?_map,hx,encRq,encSet,go_sem,reduceAdd,reduceLT,reduceEqDiff,reduceCtorEq]
  refine callS_ex (by have h := clo52_ok m x hxb; simp only [encRq,encSet] at h; exact h) ?_
  rintro _ rfl
  try simp only [go_sem]
  refine hK _ _ rfl ?_
  simp only [mwb,reduceAdd,reduceEqDiff]
  refine ex_if rfl (fun hc16 => ?_) (fun hc16 => ?_)
  ·have hres : decide (0 ≤ (i : Int)) = l.any (brk m) := by rw [any_of hx hc16]; exact decide_eq_true (Int.natCast_nonneg i)
   refine ex_region_w tt_ok 19 (0::0::0::0::2::(rp 12 0 [1])) [] rfl rfl fun K hK => ?_
   simp only [ltb,go_sem,reduceAdd,reduceLT]
   refine hK _ _ rfl ?_
   simp only [mwb,reduceAdd,reduceEqDiff]
   exact ex_ret ⟨.inl rfl, _, ⟨_, rfl, hres⟩, rfl, by simp [belowV], by simp []⟩
  ·refine ex_skip ?_
   show Go.Eng.Ex _ _ _ _ _ _
   refine ex_last_region_w tt_ok 19 (rp 8 0 (2::(rp 9 0 [2]))) [] (by kernel_rfl) rfl rfl fun K hK => ?_
   try simp only [ltb]
   simp only [hw,go_sem,reduceAdd,reduceLT]
   refine hK _ _ rfl ?_
   simp only [mwb,reduceAdd,reduceEqDiff]
   refine ⟨[_], ?_, ?_, 2, [true,true,false,false,true,false,false,true,true], by omega, by simp only [maskFr,belowV,belowL,reduceLT,mkb], by simp only [gB_below,List.all_cons,List.all_nil,belowV,bB_box,bB_map,reduceLT,decide_true,Bool.and_self,List.take_succ_cons,List.take_nil], by simp only [maskFr,putAll,List.set_cons_zero,List.set_cons_succ,mkb]; rfl⟩
   ·refine ⟨i + 1, rfl, hlt, fun j hj => ?_⟩
    rcases Nat.lt_or_ge j i with h | h
    ·exact hall j h
    ·obtain rfl : j = i := by omega
     intro y hy
     rw [hx] at hy; cases hy; exact hc16
   ·simp only [Go.Eng.intOf,List.headD_cons]; omega
 ·have hge : ¬ i < l.length := by simpa using hc9
  have hres : decide (0 ≤ (-1 : Int)) = l.any (brk m) := (any_none fun j hj => hall j (by omega)).symm ▸ rfl
  refine ex_exit ?_
  show Go.Eng.Ex _ _ _ _ _ _
  refine ex_region_w tt_ok 19 [0,0,0,0,2] [] rfl rfl fun K hK => ?_
  simp only [ltb,go_sem,reduceAdd]
  refine hK _ _ rfl ?_
  simp only [mwb,reduceAdd]
  exact ex_ret ⟨.inl rfl, _, ⟨_, rfl, hres⟩, rfl, by simp [belowV], by simp []⟩
theorem anyQ_52 (m : List Rl) (l : List Rq) (hl : l.length ≤ 2097152) (hlb : ∀ q ∈ l, RqB q) : ∃ r_, (fun w => w = bl (l.any (brk m))) r_ ∧ FnOkS Tryz.prog 26 [encRqs l, .clo (.func 52) [] [.ptr 1 0]] ([.map (mkM strVal 0 (gB m)) (gB m).length, .box [.mp 0]]) r_ ([.map (mkM strVal 0 (gB m)) (gB m).length, .box [.mp 0]]) := by
 refine fns_ex tt_ok (fn := Tryz.f26) Tryz.func26 rfl Tryz.call26 (by simp [bB_map, bB_box, gB_below, belowV]) ?_
 simp only [ltb,startSt,Tryz.ntmps26,List.length_cons,List.length_nil,reduceAdd,reduceSub,List.replicate_succ,List.replicate_zero]
 simp only [encRqs]
 refine ex_region_w tt_ok 9 [0,0,0,0,2] [] rfl rfl fun K hK => ?_
 simp only [ltb,go_sem,reduceAdd]
 refine hK _ _ rfl ?_
 simp only [mwb,reduceAdd]
 refine ex_region_w tt_ok 9 [0,0,0,0,2,1,1,1,1] [] rfl rfl fun K hK => ?_
 refine runX_cut 3 fun K1 hK1 => ?_
 simp only [ltb,go_sem,reduceAdd,reduceLT,reduceEqDiff]
 refine callS_ex (by have h := idxQ_52 m l hl hlb; simp only [encRqs] at h; exact h) ?_
 rintro _ ⟨k, rfl, hk⟩
 try simp only [go_sem]
 refine hK1 _ ?_
 simp only [ltb,go_sem,reduceAdd,reduceLT,reduceEqDiff]
 refine hK _ _ rfl ?_
 simp only [mwb,reduceAdd,reduceEqDiff]
 exact ex_ret ⟨.inl rfl, _, congrArg bl hk, rfl, by simp [belowV], by simp []⟩
theorem any52_at (m : List Rl) (l : List Rq) (hl : l.length ≤ 2097152) (hlb : ∀ q ∈ l, RqB q) (M : List Blk) (k k2 : Nat) (hk : M[k]? = some (.map (mkM strVal 0 (gB m)) (gB m).length)) (hk2 : M[k2]? = some (.box [.mp k])) (hne : k ≠ k2) :
  ∃ r_, (fun w => w = bl (l.any (brk m))) r_ ∧ FnOkS Tryz.prog 26 [.slice (l.map encRq), .clo (.func 52) [] [.ptr k2 0]] M r_ M := by
 obtain ⟨r, rfl, h⟩ := anyQ_52 m l hl hlb
 have h3 := fnOkS_at2' h M k k2 (by simp [encRqs, belowV, belowL]) (by simp [bB_map, bB_box, gB_below, belowV]) (by simp [belowV]) (by simp [bB_map, bB_box, gB_below, belowV]) (by rw [renB_gB]; exact hk) (by simpa [renB, renL, renV, σ2] using hk2) hne
 rw [renB_gB, set_same hk] at h3
 exact ⟨_, rfl, by simpa [renL, renV, σ2, encRqs] using h3⟩
end Go.Proofs.YtnfeacnbgbggfaaGreatDoor
end

section
namespace Go.Proofs.YtnfeacnbgbggfaaGreatDoor
open Go.Eng
open Nat (reduceAdd reduceLT reduceLeDiff reduceMul reduceEqDiff reduceSub)
variable [Glob]
set_option maxHeartbeats 4000000
set_option maxRecDepth 100000
attribute [local irreducible] runM stepM valD stepOp stepD callF callS stepTm callTm callRel appSQ
noncomputable def solveE (l : List Rl) (roots : List Rq) (s : List Sel) : Int :=
 if ixE l ≠ 0 then 1 else if incr s = true then (match selM l s with
  | none => 6
  | some m => if (m.any fun r => r.reqs.any (brk m)) = true ∨ roots.any (brk m) = true then 17 else if (reached m roots).length < m.length then 8 else 0) else 1
theorem incr_lt {s : List Sel} (h : incr s = true) : s.Pairwise fun a b => a.path.data.toList < b.path.data.toList := by
 have h1 := (incr_iff s).1 h
 clear h
 induction s with
 | nil => exact List.Pairwise.nil
 | cons a t ih =>
  have ht := ih fun i x y hx hy => h1 (i + 1) x y (by simpa using hx) (by simpa using hy)
  refine List.pairwise_cons.2 ⟨?_, ht⟩
  cases t with
  | nil => intro b hb; simp at hb
  | cons b t =>
   have h2 : a.path.data.toList < b.path.data.toList := by
    have h3 := h1 0 a b rfl rfl
    rw [ltB_eq] at h3
    exact of_decide_eq_true h3
   intro c hc
   rcases List.mem_cons.1 hc with rfl | hc
   ·exact h2
   ·exact List.lt_trans h2 ((List.pairwise_cons.1 ht).1 c hc)
theorem fnd_some {l : List Rl} {y : Sel} {r : Rl} (h : fnd l y = some r) : r ∈ good l ∧ r.key = y := by
 unfold fnd at h
 exact ⟨List.mem_of_find?_eq_some h, by simpa using List.find?_some h⟩
theorem selM_spec {l : List Rl} : ∀ {s : List Sel} {m : List Rl}, selM l s = some m → m.map Rl.key = s ∧ ∀ r ∈ m, r ∈ good l
 | [], m, h => by unfold selM at h; simp at h; subst h; simp
 | y :: t, m, h => by
  unfold selM at h
  rw [List.mapM_cons] at h
  cases h1 : fnd l y with
  | none => rw [h1] at h; simp at h
  | some r =>
   rw [h1] at h
   cases h2 : t.mapM (fnd l) with
   | none => rw [h2] at h; simp at h
   | some m' =>
    rw [h2] at h
    simp at h
    subst h
    obtain ⟨e1, e2⟩ := selM_spec (s := t) h2
    obtain ⟨e3, e4⟩ := fnd_some h1
    refine ⟨by rw [List.map_cons, e1, e4], fun x hx => ?_⟩
    rcases List.mem_cons.1 hx with rfl | hx
    ·exact e3
    ·exact e2 x hx
theorem selM_paths {l : List Rl} {s : List Sel} {m : List Rl} (h : selM l s = some m) (hi : incr s = true) : m.Pairwise fun a b => a.path.data.toList < b.path.data.toList := by
 have h1 := incr_lt hi
 rw [← (selM_spec h).1, List.pairwise_map] at h1
 exact h1
theorem lt_ne {a b : ByteArray} (h : a.data.toList < b.data.toList) : a ≠ b := fun e => by subst e; exact List.lt_irrefl _ h
theorem paths_uniq {m : List Rl} (h : m.Pairwise fun a b => a.path.data.toList < b.path.data.toList) : ∀ a ∈ m, ∀ b ∈ m, a.path = b.path → a = b := by
 intro a ha b hb he
 obtain ⟨i, hi⟩ := List.mem_iff_getElem?.1 ha
 obtain ⟨j, hj⟩ := List.mem_iff_getElem?.1 hb
 rcases Nat.lt_trichotomy i j with hij | hij | hij
 ·exact absurd he (lt_ne (List.pairwise_iff_getElem.1 h i j (List.getElem?_eq_some_iff.1 hi).1 (List.getElem?_eq_some_iff.1 hj).1 hij |> fun h => by rwa [(List.getElem?_eq_some_iff.1 hi).2, (List.getElem?_eq_some_iff.1 hj).2] at h))
 ·subst hij; rw [hi] at hj; cases hj; rfl
 ·exact absurd he.symm (lt_ne (List.pairwise_iff_getElem.1 h j i (List.getElem?_eq_some_iff.1 hj).1 (List.getElem?_eq_some_iff.1 hi).1 hij |> fun h => by rwa [(List.getElem?_eq_some_iff.1 hj).2, (List.getElem?_eq_some_iff.1 hi).2] at h))
theorem byP_spec {m : List Rl} {p : ByteArray} {r : Rl} (h : byP m p = some r) : r ∈ m ∧ r.path = p := ⟨List.mem_of_find?_eq_some h, by simpa using List.find?_some h⟩
theorem gB_put {m : List Rl} {r : Rl} (h : ∀ x ∈ m, x.path ≠ r.path) : putM r.path (encRl r) (gB m) = gB (m ++ [r]) := by
 have : findM r.path (gB m) 0 = none := by
  have key : ∀ (m : List Rl) (n : Nat), (∀ x ∈ m, x.path ≠ r.path) → findM r.path (gB m) n = none := by
   intro m
   induction m with
   | nil => intro n _; rfl
   | cons a t ih =>
    intro n h
    show (if a.path = r.path then _ else findM r.path (gB t) (n + 1)) = none
    rw [if_neg (h a (by simp))]
    exact ih _ fun x hx => h x (by simp [hx])
  exact key m 0 h
 unfold putM
 rw [this]
 simp [gB]
theorem byP_put {m : List Rl} {r : Rl} (h : ∀ x ∈ m, x.path ≠ r.path) {mem : List Blk} {b : Nat} (hm : mem[b]? = some (.map (mkM strVal 0 (gB m)) (gB m).length)) :
  insertV Tryz.prog mem 92 (.mp b) (str r.path) (encRl r) = some (mem.set b (.map (mkM strVal 0 (gB (m ++ [r]))) (gB (m ++ [r])).length)) := by
 rw [kt92.put r.path (encRl r) (gB m) hm, gB_put h]
def gN (S : List Rl) : List (ByteArray × V) := S.map fun r => (r.path, bl true)
def seenP (S : List Rl) (p : ByteArray) : Bool := S.any fun r => decide (r.path = p)
theorem gN_below (n : Nat) (S : List Rl) : ((mkM strVal 0 (gN S)).all fun e => belowV n e.2.2) = true := by
 rw [mkM_all strVal (belowV n)]
 unfold gN
 simp [belowV]
theorem getM_gN (p : ByteArray) : ∀ S : List Rl, (getM p (gN S)).getD (bl false) = bl (seenP S p)
 | [] => rfl
 | r :: t => by
  show (if r.path = p then some (bl true) else getM p (gN t)).getD _ = _
  unfold seenP
  rw [List.any_cons]
  by_cases h : r.path = p
  ·simp [h]
  ·have := getM_gN p t
   unfold seenP at this
   simp [h, this]
theorem need_get (S : List Rl) (p : ByteArray) {mem : List Blk} {b : Nat} (hm : mem[b]? = some (.map (mkM strVal 0 (gN S)) (gN S).length)) : lookupV Tryz.prog mem 93 (.mp b) (str p) false = some (bl (seenP S p)) := by
 rw [kt93.get p (gN S) hm zero4, getM_gN]; rfl
theorem gN_put {S : List Rl} {r : Rl} (h : ∀ x ∈ S, x.path ≠ r.path) : putM r.path (bl true) (gN S) = gN (S ++ [r]) := by
 have : findM r.path (gN S) 0 = none := by
  have key : ∀ (m : List Rl) (n : Nat), (∀ x ∈ m, x.path ≠ r.path) → findM r.path (gN m) n = none := by
   intro m
   induction m with
   | nil => intro n _; rfl
   | cons a t ih =>
    intro n h
    show (if a.path = r.path then _ else findM r.path (gN t) (n + 1)) = none
    rw [if_neg (h a (by simp))]
    exact ih _ fun x hx => h x (by simp [hx])
  exact key S 0 h
 unfold putM
 rw [this]
 simp [gN]
theorem need_put {S : List Rl} {r : Rl} (h : ∀ x ∈ S, x.path ≠ r.path) {mem : List Blk} {b : Nat} (hm : mem[b]? = some (.map (mkM strVal 0 (gN S)) (gN S).length)) :
  insertV Tryz.prog mem 93 (.mp b) (str r.path) (bl true) = some (mem.set b (.map (mkM strVal 0 (gN (S ++ [r]))) (gN (S ++ [r])).length)) := by
 rw [kt93.put r.path (bl true) (gN S) hm, gN_put h]
theorem brk_no {m : List Rl} {q : Rq} (hg : ∀ r ∈ m, r.ver.ok = true) (h : brk m q = false) : ∃ r, byP m q.path = some r ∧ r ∈ m ∧ hits q r = true := by
 unfold brk at h
 cases hb : byP m q.path with
 | none => rw [hb] at h; cases h
 | some r =>
  rw [hb] at h
  obtain ⟨h1, h2⟩ := byP_spec hb
  refine ⟨r, rfl, h1, ?_⟩
  have hpl : r.ver.pl = r.ver.place := by unfold Ver.pl; rw [if_pos (hg r h1)]
  unfold hits
  have h3 : (!has q.set r.ver.pl) = false := h
  rw [hpl] at h3
  simp only [Bool.not_eq_false'] at h3
  simp [h2, h3]
theorem fld40 (a b c d e f g h i : V) : fieldOf Tryz.prog tt 40 2 (.agg [a, b, c, d, e, f, g, h, i]) = some e := by
 simp [fieldOf, Tryz.underlying40, pickCells, tt26]
theorem map_len {S : List Rl} : ((mkM strVal 0 (gN S)).length : Int) = S.length := by rw [mkM_length]; simp [gN]
theorem sub_len {α : Type} [DecidableEq α] {S T : List α} (hS : S.Nodup) (hT : T.Nodup) (h : ∀ x, x ∈ S ↔ x ∈ T) : S.length = T.length :=
 ((List.perm_ext_iff_of_nodup hS hT).2 h).length_eq
theorem slc_two (l : List Rl) (s : List Sel) : (∃ e : Int, slcV l s = .tup [.sc (.slice none 0 0), num e] ∧ e ≠ 0 ∧ (ixE l = 0 → ∀ roots, solveE l roots s = e)) ∨ (∃ m, selM l s = some m ∧ incr s = true ∧ slcV l s = .tup [.slice (m.map encRl), num 0]) := by
 unfold slcV solveE
 by_cases hi : incr s = true
 ·rw [if_pos hi]
  cases hm : selM l s with
  | none => exact .inl ⟨6, rfl, by decide, fun hx roots => by rw [if_neg (by simp [hx]), if_pos hi]⟩
  | some m => exact .inr ⟨m, rfl, hi, rfl⟩
 ·rw [if_neg hi]
  exact .inl ⟨1, rfl, by decide, fun hx roots => by rw [if_neg (by simp [hx]), if_neg hi]⟩
theorem slc_at (l : List Rl) (s : List Sel) (hs : s.length ≤ 1048576) (M : List Blk) (k k2 : Nat) (hk : M[k]? = some (.map (mkM selVal 0 (gK (good l))) (gK (good l)).length)) (hk2 : M[k2]? = some (.map (mkM strVal 0 (gP (good l))) (pathsOf (good l)).length)) (hne : k ≠ k2) :
  ∃ r_ m_, (fun r m => r = slcV l s ∧ m = M) r_ m_ ∧ FnOkS Tryz.prog 51 [.agg [.mp k, .mp k2], encSels s] M r_ m_ := by
 obtain ⟨r, m, ⟨rfl, rfl⟩, h⟩ := selected_ok l s hs
 have hbl : belowV 2 (slcV l s) = true := by
  unfold slcV
  split
  ·split <;> simp [belowV, belowL]
  ·simp [belowV, belowL]
 have hrv : ∀ σ, renV σ (slcV l s) = slcV l s := fun σ => by
  unfold slcV
  split
  ·split <;> simp [renV, renL]
  ·simp [renV, renL]
 have h3 := fnOkS_at2' h M k k2 (by simp [encSels, belowV, belowL]) (by simp [bB_map, gK_below, gP_below]) hbl (by simp [bB_map, gK_below, gP_below]) (by rw [renB_gK]; exact hk) (by rw [renB_gP]; exact hk2) hne
 rw [renB_gK, set_same hk, hrv] at h3
 exact ⟨_, _, ⟨rfl, rfl⟩, by simpa [renL, renV, σ2, encSels] using h3⟩
theorem solves_ok (hG : Glob.g = some 0) (l : List Rl) (I : List V) (hb : IxB l) (roots : List Rq) (hr : roots.length ≤ 1048576) (hrb : ∀ q ∈ roots, RqB q) (s : List Sel) (hs : s.length ≤ 1048576) : FnOk Tryz.prog 15 [encIx l I, encRqs roots, encSels s] (num (solveE l roots s)) := by
 refine fn_t tt_ok (fn := Tryz.f15) Tryz.func15 rfl Tryz.call15 ?_
 simp only [ltb,startSt,Tryz.ntmps15,List.length_cons,List.length_nil,reduceAdd,reduceSub,List.replicate_succ,List.replicate_zero]
 simp only [encIx,encRls,encRqs,encSels]
 have hlb := hb.1
 refine t_region_w tt_ok 93 [0,0,0,2,0,0,2] [] rfl rfl fun K hK => ?_
 simp only [ltb,go_sem,reduceLT]
 refine hK _ _ rfl ?_
 simp only [mwb,reduceAdd,reduceEqDiff]
 refine t_region_w tt_ok 93 [0,0,0,0,0,0,0,2,2,0,0,0,0,0,0,0,0,0,0,1,1,1,1,1] [] rfl rfl fun K hK => ?_
 refine runTm_cut 2 fun K1 hK1 => ?_
 simp only [ltb,go_sem,reduceAdd,reduceLT]
 refine .inl <| callF_w (by have h := newTable_at hG l I hb; simp only [encIx,encRls] at h; exact h _) ?_
 rintro _ _ ⟨rfl, rfl⟩
 try simp only [go_sem,reduceAdd]
 simp only [tbR,reduceAdd]
 refine hK1 _ ?_
 simp only [ltb,go_sem,reduceAdd,reduceLT,reduceEqDiff]
 refine hK _ _ rfl ?_
 simp only [mwb,reduceAdd,reduceEqDiff]
 refine t_seq ?_
 refine t_region_w tt_ok 93 (rp 24 0 [1,2]) [] rfl rfl fun K hK => ?_
 simp only [ltb,go_sem,reduceAdd,reduceLT]
 refine hK _ _ rfl ?_
 simp only [mwb,reduceAdd,reduceEqDiff]
 refine t_if rfl (fun hc25 => ?_) (fun hc25 => ?_)
 ·have hix : ixE l ≠ 0 := by simpa using hc25
  have hR : (1 : Int) = solveE l roots s := by unfold solveE; rw [if_pos hix]
  refine t_region_w tt_ok 93 [0,0,0,0,0,0,2] [] rfl rfl fun K hK => ?_
  simp only [ltb,go_sem,reduceAdd]
  refine hK _ _ rfl ?_
  simp only [mwb,reduceAdd]
  refine t_ret ?_
  exact ⟨.inl rfl, congrArg (fun x => some (num x)) hR⟩
 ·have hix : ixE l = 0 := by simpa using hc25
  have hgl : good l = l := by unfold good; rw [if_pos hix]
  refine t_skip ?_
  show Tri _ _ _ _ _ _
  rcases slc_two l s with ⟨e, hsl, he0, hsv⟩ | ⟨m, hsm, hinc, hsl⟩
  ·refine t_region_w tt_ok 93 (rp 8 0 (2::2::(rp 16 0 [1,1,1,1,1,1]))) [] rfl rfl fun K hK => ?_
   refine runTm_cut 3 fun K1 hK1 => ?_
   simp only [ltb,go_sem,reduceAdd,reduceLT,reduceEqDiff]
   refine .inl <| callS_w (by have h := slc_at l s hs; simp only [encSels] at h; exact h _ 3 4 rfl rfl (by decide)) ?_
   rintro _ _ ⟨rfl, rfl⟩
   try simp only [go_sem]
   rw [hsl]
   refine hK1 _ ?_
   simp only [ltb,go_sem,reduceAdd,reduceLT,reduceEqDiff]
   refine hK _ _ rfl ?_
   simp only [mwb,reduceAdd,reduceEqDiff]
   refine t_seq ?_
   refine t_region_w tt_ok 93 (rp 32 0 [1,2]) [] rfl rfl fun K hK => ?_
   simp only [ltb,go_sem,reduceAdd,reduceLT]
   refine hK _ _ rfl ?_
   simp only [mwb,reduceAdd,reduceEqDiff]
   refine t_if rfl (fun hc33 => ?_) (fun hc33 => ?_)
   ·have hR : e = solveE l roots s := (hsv hix roots).symm
    refine t_region_w tt_ok 93 (0::0::0::0::0::0::2::(rp 27 0 [1])) [] rfl rfl fun K hK => ?_
    simp only [ltb,go_sem,reduceAdd,reduceLT]
    refine hK _ _ rfl ?_
    simp only [mwb,reduceAdd,reduceEqDiff]
    refine t_ret ?_
    exact ⟨.inl rfl, congrArg (fun x => some (num x)) hR⟩
   ·exact absurd hc33 (by simp [he0])
  ·refine t_region_w tt_ok 93 (rp 8 0 (2::2::(rp 16 0 [1,1,1,1,1,1]))) [] rfl rfl fun K hK => ?_
   refine runTm_cut 3 fun K1 hK1 => ?_
   simp only [ltb,go_sem,reduceAdd,reduceLT,reduceEqDiff]
   refine .inl <| callS_w (by have h := slc_at l s hs; simp only [encSels] at h; exact h _ 3 4 rfl rfl (by decide)) ?_
   rintro _ _ ⟨rfl, rfl⟩
   try simp only [go_sem]
   rw [hsl]
   refine hK1 _ ?_
   simp only [ltb,go_sem,reduceAdd,reduceLT,reduceEqDiff]
   refine hK _ _ rfl ?_
   simp only [mwb,reduceAdd,reduceEqDiff]
   refine t_seq ?_
   refine t_region_w tt_ok 93 (rp 32 0 [1,2]) [] rfl rfl fun K hK => ?_
   simp only [ltb,go_sem,reduceAdd,reduceLT]
   refine hK _ _ rfl ?_
   simp only [mwb,reduceAdd,reduceEqDiff]
   refine t_if rfl (fun hc33 => ?_) (fun hc33 => ?_)
   ·exact absurd hc33 (by simp)
   ·have hml : m.length ≤ 1048576 := by have := selM_length hsm; omega
    obtain ⟨hmk, hmg⟩ := selM_spec hsm
    have hmp := selM_paths hsm hinc
    have hmu := paths_uniq hmp
    have hms : m.Pairwise rlLt := hmp.imp fun h => .inl h
    have hmv : ∀ r ∈ m, r.ver.ok = true := fun r hr => good_ver (hmg r hr)
    have hmr : ∀ r ∈ m, r.reqs.length ≤ 16 := fun r hr => good_reqs (hmg r hr)
    have hmb : ∀ r ∈ m, ∀ q ∈ r.reqs, RqB q := fun r hr => (hb.2 r (good_mem (hmg r hr))).2.2
    have hmt : todoN m [] ≤ 16777216 := by
     refine Nat.le_trans (todoN_le _ _) ?_
     have h1 := flat_len (g := fun r : Rl => r.reqs) (l := m) (k := 16) hmr
     rw [List.length_flatMap] at h1
     omega
    have hS : solveE l roots s = if (m.any fun r => r.reqs.any (brk m)) = true ∨ roots.any (brk m) = true then 17 else if (reached m roots).length < m.length then 8 else 0 := by unfold solveE; rw [if_neg (by simp [hix]), if_pos hinc, hsm]
    refine t_skip ?_
    show Tri _ _ _ _ _ _
    refine t_region_w tt_ok 93 (rp 10 0 (2::(rp 24 0 [1]))) [] rfl rfl fun K hK => ?_
    simp only [ltb,go_sem,reduceAdd,reduceLT,reduceEqDiff]
    refine hK _ _ rfl ?_
    simp only [mwb,reduceAdd,reduceEqDiff]
    refine t_seq ?_
    refine t_region_w tt_ok 93 (rp 36 0 [2,2,2]) [] rfl rfl fun K hK => ?_
    try simp only [ltb]
    simp only [List.length_map,go_sem,reduceAdd,reduceLT]
    refine hK _ _ rfl ?_
    simp only [mwb,reduceAdd,reduceEqDiff]
    refine t_block ?_
    refine t_loopF (fun i : Nat => { fr := [.undef, .slice (roots.map encRq), .undef, .undef, .undef, .undef, .undef, .undef, .undef, .slice (m.map encRl), .ptr 7 0, .undef, .undef, .undef, .undef, .undef, .undef, .undef, .undef, .undef, .undef, .undef, .undef, .undef, .undef, .undef, .undef, .undef, .undef, .undef, .undef, .undef, .undef, .undef, .undef, .undef, .slice (m.map encRl), num m.length, num i, .undef, .undef, .undef, .undef, .undef, .undef, .undef, .undef, .undef, .undef, .undef, .undef, .undef, .undef, .undef, .undef, .undef, .undef, .undef, .undef, .undef, .undef, .undef, .undef, .undef, .undef, .undef, .undef, .undef, .undef, .undef, .undef, .undef, .undef, .undef, .undef, .undef, .undef, .undef, .undef, .undef, .undef, .undef, .undef, .undef, .undef, .undef, .undef, .undef, .undef, .undef, .undef, .undef, .undef], mem := [.box [.slice (l.map encRl), .slice I], .box [.slice (l.map encRl), .slice I], .box [.mp 3, .mp 4], .map (mkM selVal 0 (gK (good l))) (gK (good l)).length, .map (mkM strVal 0 (gP (good l))) (pathsOf (good l)).length, .box [.mp 3, .mp 4], .map (mkM strVal 0 (gB (m.take i))) (gB (m.take i)).length, .box [.mp 6]] }) (fun i => m.length - i) (fun i => i ≤ m.length) (0) 8 (false::true::false::false::false::false::false::false::false::true::true::(rp 25 false [true,true,true])) (by omega) (by simp only [maskFr,belowV,reduceLT,mkb]) (by simp only [gK_below,gP_below,List.all_cons,List.all_nil,belowV,bB_box,bB_map,reduceLT,decide_true,Bool.and_self,List.take_succ_cons,List.take_nil]) (by simp only [maskFr,gB,List.map_nil,mkM,List.length_nil,mkb] <;> rfl) (Nat.zero_le _) ?_
    intro i hi
    refine t_region_w tt_ok 93 (rp 39 0 [2]) [] rfl rfl fun K hK => ?_
    simp only [ltb,go_sem,reduceAdd,reduceLT]
    refine hK _ _ rfl ?_
    simp only [mwb,reduceAdd]
    refine t_seq ?_
    refine t_if rfl (fun hc39 => ?_) (fun hc39 => ?_)
    ·have hlt : i < m.length := by simpa using hc39
     have hw := i64_succ i (by omega)
     obtain ⟨x, hx⟩ : ∃ x, m[i]? = some x := ⟨_, List.getElem?_eq_getElem hlt⟩
     have hxm := List.mem_of_getElem? hx
     have htk : m.take (i + 1) = m.take i ++ [x] := take_snoc hx
     have hnew : ∀ y ∈ m.take i, y.path ≠ x.path := fun y hy => by
      obtain ⟨j, hj⟩ := List.mem_iff_getElem?.1 hy
      have hjl := (List.getElem?_eq_some_iff.1 hj).1
      rw [List.length_take] at hjl
      rw [List.getElem?_take_of_lt (by omega)] at hj
      have h1 := List.pairwise_iff_getElem.1 hmp j i (by omega) (by omega) (by omega)
      rw [(List.getElem?_eq_some_iff.1 hj).2, (List.getElem?_eq_some_iff.1 hx).2] at h1
      exact lt_ne h1
     have hpu := fun (mem : List Blk) (b : Nat) hm => byP_put hnew (mem := mem) (b := b) hm
     simp only [encRl,rlCells,encRqs] at hpu
     refine t_skip ?_
     show Tri _ _ _ _ _ _
     refine t_seq ?_
     refine t_block ?_
     refine t_region_w tt_ok 93 (rp 12 0 (2::(rp 27 0 [1,1]))) [] rfl rfl fun K hK => ?_
     try simp only [ltb]
     simp only [List.getElem?_map,hx,Option.map_some,encRl,rlCells,encRqs,go_sem,reduceAdd,reduceLT,reduceEqDiff]
     refine hK _ _ rfl ?_
     simp only [mwb,reduceAdd,reduceEqDiff]
     refine t_last_region_w tt_ok 93 (rp 42 0 [2,2,2,2]) [] (by kernel_rfl) rfl rfl fun K hK => ?_
     try simp only [ltb]
     simp only [hpu,go_sem,reduceAdd,reduceLT,reduceEqDiff]
     refine hK _ _ rfl ?_
     simp only [mwb,reduceAdd,reduceEqDiff]
     show Tri _ _ _ _ _ _
     refine t_last_region_w tt_ok 93 (rp 38 0 [2,0,0,0,0,0,0,0,2]) [] (by kernel_rfl) rfl rfl fun K hK => ?_
     try simp only [ltb]
     simp only [hw,go_sem,reduceAdd,reduceLT]
     refine hK _ _ rfl ?_
     simp only [mwb,reduceAdd,reduceEqDiff]
     refine ⟨i + 1, ?_, ?_, 8, (false::true::false::false::false::false::false::false::false::true::true::(rp 25 false [true,true,true])), by omega, by simp only [maskFr,belowV,reduceLT,mkb], by simp only [ltb,gK_below,gP_below,gB_below,List.all_cons,List.all_nil,belowV,bB_box,bB_map,reduceLT,decide_true,Bool.and_self], by (simp only [htk,maskFr,mkb])⟩
     ·exact hlt
     ·omega
    ·have hge : ¬ i < m.length := by simpa using hc39
     have hil : i = m.length := by omega
     subst hil
     rw [List.take_length]
     refine t_exit ?_
     show Tri _ _ _ _ _ _
     refine t_region_w tt_ok 93 (rp 13 0 (2::(rp 33 0 [1]))) [] rfl rfl fun K hK => ?_
     simp only [ltb,go_sem,reduceAdd,reduceLT]
     refine hK _ _ rfl ?_
     simp only [mwb,reduceAdd,reduceEqDiff]
     refine t_seq ?_
     refine t_region_w tt_ok 93 (rp 48 0 [2,2,2]) [] rfl rfl fun K hK => ?_
     try simp only [ltb]
     simp only [List.length_map,go_sem,reduceAdd,reduceLT]
     refine hK _ _ rfl ?_
     simp only [mwb,reduceAdd,reduceEqDiff]
     refine t_block ?_
     refine t_loopF (fun i : Nat => { fr := [.undef, .slice (roots.map encRq), .undef, .undef, .undef, .undef, .undef, .undef, .undef, .slice (m.map encRl), .ptr 7 0, .undef, .undef, .clo (.func 52) [] [.ptr 7 0], .undef, .undef, .undef, .undef, .undef, .undef, .undef, .undef, .undef, .undef, .undef, .undef, .undef, .undef, .undef, .undef, .undef, .undef, .undef, .undef, .undef, .undef, .undef, .undef, .undef, .undef, .undef, .undef, .undef, .undef, .undef, .undef, .undef, .undef, .slice (m.map encRl), num m.length, num i, .undef, .undef, .undef, .undef, .undef, .undef, .undef, .undef, .undef, .undef, .undef, .undef, .undef, .undef, .undef, .undef, .undef, .undef, .undef, .undef, .undef, .undef, .undef, .undef, .undef, .undef, .undef, .undef, .undef, .undef, .undef, .undef, .undef, .undef, .undef, .undef, .undef, .undef, .undef, .undef, .undef, .undef], mem := [.box [.slice (l.map encRl), .slice I], .box [.slice (l.map encRl), .slice I], .box [.mp 3, .mp 4], .map (mkM selVal 0 (gK (good l))) (gK (good l)).length, .map (mkM strVal 0 (gP (good l))) (pathsOf (good l)).length, .box [.mp 3, .mp 4], .map (mkM strVal 0 (gB (m))) (gB (m)).length, .box [.mp 6]] }) (fun i => m.length - i) (fun i => i ≤ m.length ∧ ∀ j < i, ∀ x, m[j]? = some x → x.reqs.any (brk m) = false) (0) 8 (false::true::false::false::false::false::false::false::false::true::true::false::false::true::(rp 34 false [true,true,true])) (by omega) (by simp only [maskFr,belowV,belowL,reduceLT,mkb]) (by simp only [gK_below,gP_below,gB_below,List.all_cons,List.all_nil,belowV,bB_box,bB_map,reduceLT,decide_true,Bool.and_self,List.take_succ_cons,List.take_nil]) (by simp only [maskFr,mkb] <;> rfl) (⟨Nat.zero_le _, fun j hj => absurd hj (Nat.not_lt_zero j)⟩) ?_
     rintro i ⟨hi, hall⟩
     refine t_region_w tt_ok 93 (rp 51 0 [2]) [] rfl rfl fun K hK => ?_
     simp only [ltb,go_sem,reduceAdd,reduceLT]
     refine hK _ _ rfl ?_
     simp only [mwb,reduceAdd]
     refine t_seq ?_
     refine t_if rfl (fun hc51 => ?_) (fun hc51 => ?_)
     ·have hlt : i < m.length := by simpa using hc51
      have hw := i64_succ i (by omega)
      obtain ⟨x, hx⟩ : ∃ x, m[i]? = some x := ⟨_, List.getElem?_eq_getElem hlt⟩
      have hxm := List.mem_of_getElem? hx
      refine t_skip ?_
      show Tri _ _ _ _ _ _
      refine t_seq ?_
      refine t_block ?_
      refine t_region_w tt_ok 93 (rp 15 0 (2::(rp 36 0 [1,1]))) [] rfl rfl fun K hK => ?_
      try simp only [ltb]
      simp only [List.getElem?_map,hx,Option.map_some,encRl,rlCells,encRqs,go_sem,reduceAdd,reduceLT,reduceEqDiff]
      refine hK _ _ rfl ?_
      simp only [mwb,reduceAdd,reduceEqDiff]
      refine t_region_w tt_ok 93 (rp 54 0 [1,1,1,2]) [] rfl rfl fun K hK => ?_
      simp only [ltb,go_sem,reduceAdd,reduceLT,reduceEqDiff]
      refine .inl <| callS_ex (any52_at m x.reqs (by have := hmr x hxm; omega) (hmb x hxm) _ 6 7 rfl rfl (by decide)) ?_
      rintro _ rfl
      try simp only [go_sem]
      refine hK _ _ rfl ?_
      simp only [mwb,reduceAdd,reduceEqDiff]
      refine t_if rfl (fun hc57 => ?_) (fun hc57 => ?_)
      ·have hR : (17 : Int) = solveE l roots s := by rw [hS, if_pos (.inl (List.any_eq_true.2 ⟨x, hxm, hc57⟩))]
       refine t_region_w tt_ok 93 [0,0,0,0,0,0,2] [] rfl rfl fun K hK => ?_
       simp only [ltb,go_sem,reduceAdd]
       refine hK _ _ rfl ?_
       simp only [mwb,reduceAdd]
       refine t_ret ?_
       exact ⟨.inl rfl, congrArg (fun x => some (num x)) hR⟩
      ·refine t_skip ?_
       show Tri _ _ _ _ _ _
       refine t_last_region_w tt_ok 93 (rp 50 0 [2,0,0,0,0,0,0,0,2]) [] (by kernel_rfl) rfl rfl fun K hK => ?_
       try simp only [ltb]
       simp only [hw,go_sem,reduceAdd,reduceLT]
       refine hK _ _ rfl ?_
       simp only [mwb,reduceAdd,reduceEqDiff]
       refine ⟨i + 1, ?_, ?_, 8, (false::true::false::false::false::false::false::false::false::true::true::false::false::true::(rp 34 false [true,true,true])), by omega, by simp only [maskFr,belowV,belowL,reduceLT,mkb], by simp only [ltb,gK_below,gP_below,gB_below,List.all_cons,List.all_nil,belowV,bB_box,bB_map,reduceLT,decide_true,Bool.and_self], by (simp only [maskFr,mkb])⟩
       ·refine ⟨hlt, fun j hj y hy => ?_⟩
        rcases Nat.lt_or_ge j i with h | h
        ·exact hall j h y hy
        ·obtain rfl : j = i := by omega
         rw [hx] at hy; cases hy; exact hc57
       ·omega
     ·have hge : ¬ i < m.length := by simpa using hc51
      have hnb : ∀ x ∈ m, x.reqs.any (brk m) = false := fun x hx => by
       obtain ⟨j, hj⟩ := List.mem_iff_getElem?.1 hx
       exact hall j (by have := (List.getElem?_eq_some_iff.1 hj).1; omega) x hj
      refine t_exit ?_
      show Tri _ _ _ _ _ _
      refine t_seq ?_
      refine t_region_w tt_ok 93 (rp 59 0 [1,1,2]) [] rfl rfl fun K hK => ?_
      simp only [ltb,go_sem,reduceAdd,reduceLT,reduceEqDiff]
      refine .inl <| callS_ex (any52_at m roots (by omega) hrb _ 6 7 rfl rfl (by decide)) ?_
      rintro _ rfl
      try simp only [go_sem]
      refine hK _ _ rfl ?_
      simp only [mwb,reduceAdd,reduceEqDiff]
      refine t_if rfl (fun hc61 => ?_) (fun hc61 => ?_)
      ·have hR : (17 : Int) = solveE l roots s := by rw [hS, if_pos (.inr hc61)]
       refine t_region_w tt_ok 93 [0,0,0,0,0,0,2] [] rfl rfl fun K hK => ?_
       simp only [ltb,go_sem,reduceAdd]
       refine hK _ _ rfl ?_
       simp only [mwb,reduceAdd]
       refine t_ret ?_
       exact ⟨.inl rfl, congrArg (fun x => some (num x)) hR⟩
      ·have hok : ∀ q, (q ∈ roots ∨ ∃ a ∈ m, q ∈ a.reqs) → brk m q = false := fun q hq => by
        rcases hq with hq | ⟨a, ha, hq⟩
        ·have := List.any_eq_false.1 hc61 q hq; simpa using this
        ·have := List.any_eq_false.1 (hnb a ha) q hq; simpa using this
       have hS2 : solveE l roots s = if (reached m roots).length < m.length then 8 else 0 := by
        rw [hS, if_neg]
        rintro (h | h)
        ·obtain ⟨a, ha, h⟩ := List.any_eq_true.1 h; rw [hnb a ha] at h; cases h
        ·rw [hc61] at h; cases h
       refine t_skip ?_
       show Tri _ _ _ _ _ _
       refine t_region_w tt_ok 93 (rp 16 0 (2::(rp 45 0 [1]))) [] rfl rfl fun K hK => ?_
       simp only [ltb,go_sem,reduceAdd,reduceLT]
       refine hK _ _ rfl ?_
       simp only [mwb,reduceAdd,reduceEqDiff]
       refine t_region_w tt_ok 93 (rp 17 0 (2::(rp 45 0 [1,1]))) [] rfl rfl fun K hK => ?_
       refine runTm_cut 2 fun K1 hK1 => ?_
       simp only [ltb,go_sem,reduceAdd,reduceLT]
       refine .inl <| callF_w (cloneRqs_at roots (by omega) _) ?_
       rintro _ _ ⟨rfl, rfl⟩
       try simp only [go_sem,reduceAdd]
       try simp only [ltb,List.length_cons,List.length_nil,reduceAdd]
       refine hK1 _ ?_
       simp only [ltb,go_sem,reduceAdd,reduceLT,reduceEqDiff]
       refine hK _ _ rfl ?_
       simp only [mwb,reduceAdd,reduceEqDiff]
       refine t_seq ?_
       refine t_block ?_
       refine t_loopF (fun a : List Rl × List Rq × Nat × Nat × List V => { fr := [.undef, .undef, .undef, .undef, .undef, .undef, .undef, .undef, .undef, .slice (m.map encRl), .ptr 7 0, .undef, .undef, .undef, .undef, .undef, .mp 8, .ms 9 a.2.2.1 a.2.2.2.1 a.2.1.length, .undef, .undef, .undef, .undef, .undef, .undef, .undef, .undef, .undef, .undef, .undef, .undef, .undef, .undef, .undef, .undef, .undef, .undef, .undef, .undef, .undef, .undef, .undef, .undef, .undef, .undef, .undef, .undef, .undef, .undef, .undef, .undef, .undef, .undef, .undef, .undef, .undef, .undef, .undef, .undef, .undef, .undef, .undef, .undef, .undef, .undef, .undef, .undef, .undef, .undef, .undef, .undef, .undef, .undef, .undef, .undef, .undef, .undef, .undef, .undef, .undef, .undef, .undef, .undef, .undef, .undef, .undef, .undef, .undef, .undef, .undef, .undef, .undef, .undef, .undef], mem := [.box [.slice (l.map encRl), .slice I], .box [.slice (l.map encRl), .slice I], .box [.mp 3, .mp 4], .map (mkM selVal 0 (gK (good l))) (gK (good l)).length, .map (mkM strVal 0 (gP (good l))) (pathsOf (good l)).length, .box [.mp 3, .mp 4], .map (mkM strVal 0 (gB (m))) (gB (m)).length, .box [.mp 6], .map (mkM strVal 0 (gN a.1)) (gN a.1).length, .rows a.2.2.1 2 a.2.2.2.2] }) (fun a => a.2.1.length + todoN m a.1) (fun a => RI m roots a.1 a.2.1 (fun _ => False) ∧ a.1.Pairwise (fun x y => x.path ≠ y.path) ∧ a.2.2.2.2.drop a.2.2.2.1 = a.2.1.map encRq ∧ a.2.2.2.1 + a.2.1.length = a.2.2.2.2.length ∧ a.2.1.length + todoN m a.1 ≤ roots.length + 16777216) (([], roots, 1, 0, roots.map encRq)) 10 (rp 9 false [true,true,false,false,false,false,false,true,true]) (by omega) (by simp only [maskFr,belowV,reduceLT,mkb]) (by simp only [gK_below,gP_below,gB_below,List.all_cons,List.all_nil,belowV,bB_box,bB_map,bB_rows,reduceLT,decide_true,Bool.and_self,List.take_succ_cons,List.take_nil]) (by simp only [maskFr,gN,List.map_nil,mkM,List.length_nil,mkb] <;> rfl) (⟨RI.start _ _, List.Pairwise.nil, rfl, by simp, by dsimp only; have := hmt; omega⟩) ?_
       rintro ⟨S, P, v, o, rs⟩ ⟨hRI, hSn, hdr, hol, hW⟩
       dsimp only at hRI hSn hdr hol hW ⊢
       refine t_seq ?_
       refine t_region_w tt_ok 93 (rp 65 0 [1,1,2]) [] rfl rfl fun K hK => ?_
       simp only [ltb,go_sem,reduceAdd,reduceLT,reduceEqDiff]
       refine hK _ _ rfl ?_
       simp only [mwb,reduceAdd,reduceEqDiff]
       refine t_if rfl (fun hc67 => ?_) (fun hc67 => ?_)
       ·obtain ⟨q, P, rfl⟩ : ∃ q P2, P = q :: P2 := by
         cases P with
         | nil => simp at hc67
         | cons q r => exact ⟨q, r, rfl⟩
        simp only [List.length_cons] at hc67 ⊢
        rw [hc67]
        obtain ⟨hRIp, hq⟩ := hRI.pop
        have hrow : rs[o]? = some (encRq q) := by
         have h := congrArg (fun x => x[0]?) hdr
         simpa using h
        have hdr1 : rs.drop (o + 1) = P.map encRq := by
         rw [← List.drop_drop, hdr]; rfl
        have hol1 : o + 1 + P.length = rs.length := by rw [List.length_cons] at hol; omega
        rw [List.length_cons] at hW
        have h0 : (0 : Int) < ((P.length + 1 : Nat) : Int) := by omega
        have h1 : (1 : Int) ≤ ((P.length + 1 : Nat) : Int) := by omega
        have hsub : (((P.length + 1 : Nat) : Int) - 1).toNat = P.length := by omega
        have hcut : ∀ mem : List Blk, mem[9]? = some (.rows v 2 rs) → cutAt mem 2 1 none (.ms 9 v o (P.length + 1)) = some (.ms 9 v (o + 1) P.length) := fun mem hm => by
         unfold cutAt
         simp [sizeOfBlk, hm] <;> omega
        have hqm : q ∈ roots ∨ ∃ a ∈ m, q ∈ a.reqs := by
         rcases hq with hq | ⟨a, ha, hq⟩
         ·exact .inl hq
         ·exact .inr ⟨a, (hRI.sub a ha).mem, hq⟩
        obtain ⟨r, hby, hrm, hhit⟩ := brk_no hmv (hok q hqm)
        have hrp := (byP_spec hby).2
        have hng := fun (mem : List Blk) (b : Nat) hm => need_get S q.path (mem := mem) (b := b) hm
        refine t_skip ?_
        show Tri _ _ _ _ _ _
        refine t_block ?_
        refine t_region_w tt_ok 93 (rp 18 0 (2::(rp 49 0 [1,1,1]))) [] rfl rfl fun K hK => ?_
        try simp only [ltb]
        simp only [hrow,h0,List.length_cons,encRq,encSet,Nat.add_zero,Int.le_refl,Int.toNat_zero,go_sem,reduceAdd,reduceLT,reduceEqDiff]
        refine hK _ _ rfl ?_
        simp only [mwb,reduceAdd,reduceEqDiff]
        refine t_region_w tt_ok 93 (rp 17 0 (2::(rp 53 0 [1,1]))) [] rfl rfl fun K hK => ?_
        try simp only [ltb]
        simp only [hcut,List.length_cons,go_sem,reduceAdd,reduceLT,reduceEqDiff]
        refine hK _ _ rfl ?_
        simp only [mwb,reduceAdd,reduceEqDiff]
        refine t_region_w tt_ok 93 (rp 73 0 [1,1,1,1,2]) [] rfl rfl fun K hK => ?_
        try simp only [ltb]
        simp only [List.length_cons,Nat.add_zero,hng,go_sem,reduceAdd,reduceLT,reduceEqDiff]
        refine hK _ _ rfl ?_
        simp only [mwb,reduceAdd,reduceEqDiff]
        refine t_if rfl (fun hc77 => ?_) (fun hc77 => ?_)
        ·have hsn : seenP S q.path = false := by simpa using hc77
         have hSnew : ∀ x ∈ S, x.path ≠ r.path := fun x hx he => by
          have : seenP S q.path = true := by unfold seenP; exact List.any_eq_true.2 ⟨x, hx, by rw [he, hrp]; simp⟩
          rw [hsn] at this; cases this
         have hkn : seen S r.key = false := by
          cases hk : seen S r.key with
          | false => rfl
          | true => obtain ⟨x, hx, he⟩ := seen_iff.1 hk; exact absurd (congrArg Sel.path he) (hSnew x hx)
         have hpu := fun (mem : List Blk) (b : Nat) hm => need_put hSnew (mem := mem) (b := b) hm
         rw [hrp] at hpu
         have hbg := fun (mem : List Blk) (b : Nat) hm => byP_get hby (mem := mem) (b := b) hm
         simp only [encRl,rlCells,encRqs] at hbg
         have htd := todoN_see hms hrm hkn
         have hrq := hmr r hrm
         have hfo := cloneRqs_ok_first r.reqs
         have hbd : P.length + r.reqs.length ≤ 34359738368 := by omega
         refine t_region_w tt_ok 93 (rp 78 0 [1,1,1]) [] rfl rfl fun K hK => ?_
         try simp only [ltb]
         simp only [List.length_cons,Nat.add_zero,hpu,go_sem,reduceAdd,reduceLT,reduceEqDiff]
         refine hK _ _ rfl ?_
         simp only [mwb]
         refine t_last_region_w tt_ok 93 (rp 17 0 (2::(rp 63 0 [2,2,2,2,2,2,2]))) [] (by kernel_rfl) rfl rfl fun K hK => ?_
         refine runTm_cut 7 fun K1 hK1 => ?_
         simp only [ltb]
         simp only [List.length_cons,Nat.add_zero,hbg,hol1,hfo,hbd,fld40,List.length_map,go_sem,reduceAdd,reduceLT,reduceLeDiff,reduceEqDiff]
         intro o2 rs2 hd2 hl2
         try rw [List.length_map] at hl2
         let nv : List Rl × List Rq × Nat × Nat × List V := (S ++ [r], P ++ r.reqs, v + 1, o2, rs2)
         have hnv : RI m roots (S ++ [r]) (P ++ r.reqs) (fun _ => False) ∧ (S ++ [r]).Pairwise (fun x y => x.path ≠ y.path) ∧ rs2.drop o2 = (P ++ r.reqs).map encRq ∧ o2 + (P ++ r.reqs).length = rs2.length ∧ (P ++ r.reqs).length + todoN m (S ++ [r]) ≤ roots.length + 16777216 := by
          refine ⟨(hRIp.see hq hrm hhit).close fun y hy hh => ?_, ?_, by rw [hd2, hdr1, List.map_append], by rw [List.length_append]; omega, by rw [List.length_append]; omega⟩
          ·rw [hmu y hy r hrm (by rw [hrp]; exact (hits_path hh).symm)]; simp
          ·exact List.pairwise_append.2 ⟨hSn, List.pairwise_singleton _ _, fun x hx y hy => by rw [List.mem_singleton] at hy; exact hy ▸ hSnew x hx⟩
         refine hK1 _ ?_
         try simp only [ltb]
         simp only [List.length_cons,go_sem,reduceAdd,reduceLT,reduceEqDiff]
         refine hK _ _ rfl ?_
         simp only [mwb,reduceAdd,reduceEqDiff]
         refine ⟨nv, ?_, ?_, 10, (rp 9 false [true,true,false,false,false,false,false,true,true]), by omega, by simp only [maskFr,belowV,reduceLT,mkb], by simp only [ltb,gK_below,gP_below,gB_below,gN_below,List.all_cons,List.all_nil,belowV,bB_box,bB_map,bB_rows,reduceLT,decide_true,Bool.and_self], by (simp only [nv,List.length_append,maskFr,mkb])⟩
         ·exact hnv
         ·dsimp only [nv]; omega
        ·have hsn : seenP S q.path = true := by simpa using hc77
         have hrS : r ∈ S := by
          unfold seenP at hsn
          obtain ⟨x, hx, he⟩ := List.any_eq_true.1 hsn
          have he := of_decide_eq_true he
          rw [← hmu x (hRI.sub x hx).mem r hrm (by rw [he, hrp])]; exact hx
         let nv : List Rl × List Rq × Nat × Nat × List V := (S, P, v, o + 1, rs)
         have hnv : RI m roots S P (fun _ => False) ∧ S.Pairwise (fun x y => x.path ≠ y.path) ∧ rs.drop (o + 1) = P.map encRq ∧ o + 1 + P.length = rs.length ∧ P.length + todoN m S ≤ roots.length + 16777216 := by
          refine ⟨hRIp.close fun y hy hh => ?_, hSn, hdr1, hol1, by omega⟩
          rw [hmu y hy r hrm (by rw [hrp]; exact (hits_path hh).symm)]; exact hrS
         refine t_skip ?_
         refine ⟨nv, ?_, ?_, 10, (rp 9 false [true,true,false,false,false,false,false,true,true]), by omega, by simp only [maskFr,belowV,reduceLT,mkb], by simp only [ltb,gK_below,gP_below,gB_below,gN_below,List.all_cons,List.all_nil,belowV,bB_box,bB_map,bB_rows,reduceLT,decide_true,Bool.and_self], by (simp only [nv,maskFr,mkb])⟩
         ·exact hnv
         ·dsimp only [nv]; omega
       ·obtain rfl : P = [] := by
         cases P with
         | nil => rfl
         | cons q r => simp at hc67
        have hSl : S.length = (reached m roots).length := by
         classical
         refine sub_len (S := S) (T := reached m roots) (hSn.imp fun h => fun e => h (congrArg Rl.path e)) ?_ fun x => by rw [hRI.fin, mem_reached]
         unfold reached
         exact List.Pairwise.filter _ (hms.imp fun h => fun e => rlLt_key h (congrArg Rl.key e))
        have hml2 : ((mkM strVal 0 (gN S)).length : Int) = S.length := map_len
        refine t_exit ?_
        show Tri _ _ _ _ _ _
        refine t_seq ?_
        refine t_region_w tt_ok 93 (rp 88 0 [1,1,1,1,2]) [] rfl rfl fun K hK => ?_
        try simp only [ltb]
        simp only [hml2,lenM,lenV,List.length_map,go_sem,reduceAdd,reduceLT,reduceEqDiff]
        refine hK _ _ rfl ?_
        simp only [mwb,reduceAdd,reduceEqDiff]
        refine t_if rfl (fun hc92 => ?_) (fun hc92 => ?_)
        ·have hR : (8 : Int) = solveE l roots s := by rw [hS2, if_pos (by have := of_decide_eq_true hc92; omega)]
         refine t_region_w tt_ok 93 [0,0,0,0,0,0,2] [] rfl rfl fun K hK => ?_
         simp only [ltb,go_sem,reduceAdd]
         refine hK _ _ rfl ?_
         simp only [mwb,reduceAdd]
         refine t_ret ?_
         exact ⟨.inl rfl, congrArg (fun x => some (num x)) hR⟩
        ·have hR : (0 : Int) = solveE l roots s := by rw [hS2, if_neg (by have := of_decide_eq_false hc92; omega)]
         refine t_skip ?_
         show Tri _ _ _ _ _ _
         refine t_region_w tt_ok 93 [0,0,0,0,0,0,2] [] rfl rfl fun K hK => ?_
         simp only [ltb,go_sem,reduceAdd]
         refine hK _ _ rfl ?_
         simp only [mwb,reduceAdd]
         refine t_ret ?_
         exact ⟨.inl rfl, congrArg (fun x => some (num x)) hR⟩
end Go.Proofs.YtnfeacnbgbggfaaGreatDoor
end

section
namespace Go.Proofs.YtnfeacnbgbggfaaGreatDoor
open Go.Eng
variable [Glob]
def pA : ByteArray := ⟨#[97,47,118,49]⟩
def pB : ByteArray := ⟨#[98,47,118,49]⟩
def e0 : ByteArray := ⟨#[]⟩
def exR (p : ByteArray) (b : Int) (q : List Rq) (y : Bool) : Rl := ⟨p, ⟨1, b, 0⟩, q, e0, e0, e0, y⟩
def exQ : List Rq := [⟨pB, [⟨1000, 1000000⟩]⟩]
def xA : Rl := exR pA 0 exQ false
def xB0 : Rl := exR pB 0 [] false
def xB1 : Rl := exR pB 1 [] false
def xB2 : Rl := exR pB 2 [] true
def exL : List Rl := [xA, xB0, xB1, xB2]
def exRoots : List Rq := [⟨pA, [⟨0, 1000000⟩]⟩]
def exS : List Sel := [⟨pA, ⟨1, 0, 0⟩⟩, ⟨pB, ⟨1, 0, 0⟩⟩]
def exG : List Sel := [⟨pA, ⟨1, 0, 0⟩⟩, ⟨pB, ⟨1, 1, 0⟩⟩]
theorem ex_ix : ixE exL = 0 := by kernel_rfl
theorem ex_ixA : ixE [xA] = 0 := by kernel_rfl
theorem ex_good : good exL = exL := by unfold good; rw [if_pos ex_ix]
theorem ex_b : IxB exL := by
 refine ⟨by decide, fun r hr => ?_⟩
 unfold exL at hr
 simp only [List.mem_cons,List.not_mem_nil,or_false] at hr
 rcases hr with rfl | rfl | rfl | rfl
 ·refine ⟨by decide, by decide, fun q hq => ?_⟩
  unfold xA exR exQ at hq
  simp only [List.mem_cons,List.not_mem_nil,or_false] at hq
  subst hq
  exact ⟨by decide, by decide⟩
 ·exact ⟨by decide, by decide, fun q hq => by simp [xB0, exR] at hq⟩
 ·exact ⟨by decide, by decide, fun q hq => by simp [xB1, exR] at hq⟩
 ·exact ⟨by decide, by decide, fun q hq => by simp [xB2, exR] at hq⟩
theorem ex_rb : ∀ q ∈ exRoots, RqB q := fun q hq => by
 unfold exRoots at hq
 simp only [List.mem_cons,List.not_mem_nil,or_false] at hq
 subst hq
 exact ⟨by decide, by decide⟩
theorem rchA {l : List Rl} (h : xA ∈ l) : Rch l exRoots xA := .root _ _ (List.mem_singleton.2 rfl) h (by kernel_rfl)
theorem rchB {l : List Rl} (h : xA ∈ l) {r : Rl} (hr : r ∈ l) (hh : hits ⟨pB, [⟨1000, 1000000⟩]⟩ r = true) : Rch l exRoots r := .step xA _ r (rchA h) (List.mem_singleton.2 rfl) hr hh
theorem ex_no : ¬ Rch exL exRoots xB0 := fun h => by
 have key := rch_iff (l := exL) (roots := exRoots) (fun r => r ∈ exL ∧ r ≠ xB0 ∧ Rch exL exRoots r) (fun r h => h.2.2) (fun q hq r hr hh => ?_) (fun a ha q hq r hr hh => ?_) xB0
 ·exact ((key.2 h).2.1) rfl
 ·refine ⟨hr, fun e => ?_, .root q r hq hr hh⟩
  subst e
  unfold exRoots at hq
  rw [List.mem_singleton] at hq
  subst hq
  exact absurd hh (by rw [show hits ⟨pA, [⟨0, 1000000⟩]⟩ xB0 = false from by kernel_rfl]; decide)
 ·refine ⟨hr, fun e => ?_, .step a q r ha.2.2 hq hr hh⟩
  subst e
  have h1 := ha.1
  unfold exL at h1
  simp only [List.mem_cons,List.not_mem_nil,or_false] at h1
  rcases h1 with rfl | rfl | rfl | rfl
  ·unfold xA exR exQ at hq
   rw [List.mem_singleton] at hq
   subst hq
   exact absurd hh (by rw [show hits ⟨pB, [⟨1000, 1000000⟩]⟩ xB0 = false from by kernel_rfl]; decide)
  ·simp [xB0, exR] at hq
  ·simp [xB1, exR] at hq
  ·simp [xB2, exR] at hq
theorem ex_reach : (reached (good exL) exRoots).length = 3 := by
 rw [ex_good]
 have hA : Rch exL exRoots xA := rchA (by simp [exL])
 have h1 : Rch exL exRoots xB1 := rchB (by simp [exL]) (by simp [exL]) (by kernel_rfl)
 have h2 : Rch exL exRoots xB2 := rchB (by simp [exL]) (by simp [exL]) (by kernel_rfl)
 unfold reached
 show (List.filter _ [xA, xB0, xB1, xB2]).length = 3
 rw [List.filter_cons_of_pos (by simpa using hA), List.filter_cons_of_neg (by simpa using ex_no), List.filter_cons_of_pos (by simpa using h1), List.filter_cons_of_pos (by simpa using h2)]
 rfl
theorem ex_solveS : solveE exL exRoots exS = 17 := by
 unfold solveE
 rw [if_neg (by rw [ex_ix]; simp), if_pos (show incr exS = true by kernel_rfl), show selM exL exS = some [xA, xB0] by kernel_rfl]
 exact if_pos (.inl (by kernel_rfl))
theorem ex_solveG : solveE exL exRoots exG = 0 := by
 unfold solveE
 rw [if_neg (by rw [ex_ix]; simp), if_pos (show incr exG = true by kernel_rfl), show selM exL exG = some [xA, xB1] by kernel_rfl]
 dsimp only
 rw [if_neg (by rw [show ([xA, xB1].any fun r => r.reqs.any (brk [xA, xB1])) = false by kernel_rfl, show exRoots.any (brk [xA, xB1]) = false by kernel_rfl]; simp)]
 have hA : Rch [xA, xB1] exRoots xA := rchA (by simp)
 have h1 : Rch [xA, xB1] exRoots xB1 := rchB (by simp) (by simp) (by kernel_rfl)
 have : reached [xA, xB1] exRoots = [xA, xB1] := by
  unfold reached
  rw [List.filter_cons_of_pos (by simpa using hA), List.filter_cons_of_pos (by simpa using h1)]
  rfl
 rw [this]
 rfl
theorem ex_avail : canon (avL (atP (good exL) pB)) = [⟨0, 1⟩, ⟨1000, 1001⟩] := by rw [ex_good]; kernel_rfl
theorem example_ok (hG : Glob.g = some 0) : FnOk Tryz.prog 45 [] (.agg [.slice [.agg [str pA, num 1, num 0, num 0, .slice [.agg [str pB, .slice [.agg [num 1000, num 1000000]]]], str e0, str e0, str e0, bl false], .agg [str pB, num 1, num 0, num 0, .slice [], str e0, str e0, str e0, bl false],
  .agg [str pB, num 1, num 1, num 0, .slice [], str e0, str e0, str e0, bl false], .agg [str pB, num 1, num 2, num 0, .slice [], str e0, str e0, str e0, bl true]], .slice []]) := ev_call noOrc_ok (natS_ok hG) 200 (by kernel_rfl)
end Go.Proofs.YtnfeacnbgbggfaaGreatDoor
end

section
namespace Go.Proofs.YtnfeacnbgbggfaaGreatDoor
open Go.Eng
open Nat (reduceAdd reduceLT reduceLeDiff reduceMul reduceEqDiff reduceSub)
variable [Glob]
set_option maxHeartbeats 4000000
set_option maxRecDepth 100000
attribute [local irreducible] runM stepM valD stepOp stepD callF callS
theorem awake_ok (hG : Glob.g = some 0) : ∃ r_, (fun w => w = bl (true)) r_ ∧ FnOk Tryz.prog 9 [] r_ := by
 refine fn_ex tt_ok (fn := Tryz.f9) Tryz.func9 rfl Tryz.call9 ?_
 simp only [startSt,Tryz.ntmps9,List.length_nil,reduceSub,List.replicate_succ,List.replicate_zero,List.nil_append]
 obtain ⟨RE, hRE⟩ : ∃ x, x = (reached (good exL) exRoots).map Rl.key := ⟨_, rfl⟩
 have hl3 : ((RE.length : Nat) : Int) = 3 := by rw [hRE, List.length_map, ex_reach]; rfl
 have hman : ∀ (mem : List Blk) (ks : List (Nat × Nat)) (n : Int), memAfter mem ks (num n) = mem := fun _ _ _ => rfl
 have hmab : ∀ (mem : List Blk) (ks : List (Nat × Nat)) (b : Bool), memAfter mem ks (bl b) = mem := fun _ _ _ => rfl
 have hbA : RlB xA := ex_b.2 xA (by simp [exL])
 have hmL : (manB xA).length ≤ 1048576 := by have h := man_len (rl_wf (ix_one xA ▸ ex_ixA)) (by kernel_rfl); omega
 obtain ⟨MS, hMS⟩ : ∃ x, x = bs (manB xA) := ⟨_, rfl⟩
 have hMSl : MS.size ≤ 1048576 := by rw [hMS, bs_size]; exact hmL
 refine ex_region_w tt_ok 89 [2] [] rfl rfl fun K hK => ?_
 simp only [ltb,go_sem]
 refine hK _ _ rfl ?_
 simp only [mwb]
 refine ex_region_w tt_ok 89 (0::2::(rp 9 0 [1])) [] rfl rfl fun K hK => ?_
 refine runX_cut 1 fun K1 hK1 => ?_
 simp only [ltb,go_sem]
 refine callF_ex (by have h : ∃ r_, (fun w => w = V.agg _) r_ ∧ FnOk Tryz.prog 45 [] r_ := ⟨_, rfl, example_ok hG⟩; simp only [pA,pB,e0] at h; exact h) ?_
 rintro _ rfl
 try simp only [go_sem]
 refine hK1 _ ?_
 simp only [ltb,go_sem,reduceAdd,reduceLT,reduceEqDiff]
 refine hK _ _ rfl ?_
 simp only [mwb,reduceAdd,reduceEqDiff]
 refine ex_region_k (ws := ?ws) (mem' := ?mm) tt_ok 89 [0,0,2,0,0,0,0,0,0,0,0,0,1,1,1,1] [] (by kernel_rfl) (by kernel_rfl) (fun K hK => ?h1) ?h2 ?h3
 case h1 =>
  simp only [litP,evP,keysOf,go_sem,reduceAdd,reduceLT,reduceLeDiff,reduceMul,reduceEqDiff,reduceCtorEq]
  exact hK
 case h2 => kernel_rfl
 simp only [mwb,reduceAdd,reduceEqDiff]
 refine ex_region_w tt_ok 89 (0::0::0::2::2::(rp 11 0 [1,1])) [] rfl rfl fun K hK => ?_
 simp only [ltb,go_sem,reduceAdd,reduceLT,reduceLeDiff,reduceEqDiff,reduceCtorEq]
 refine hK _ _ rfl ?_
 simp only [mwb,reduceAdd,reduceEqDiff]
 refine ex_region_w tt_ok 89 (0::0::0::0::0::2::(rp 12 0 [1,1,1,1,1])) [] rfl rfl fun K hK => ?_
 simp only [ltb,go_sem,reduceAdd,reduceLT,reduceLeDiff,reduceMul,reduceEqDiff,reduceCtorEq]
 refine hK _ _ rfl ?_
 simp only [mwb,reduceAdd,reduceEqDiff]
 refine ex_region_w tt_ok 89 (0::0::0::0::0::0::2::(rp 16 0 [1,1,1,1,1])) [] rfl rfl fun K hK => ?_
 try simp only [ltb]
 simp only [ltb,go_sem,reduceAdd,reduceLT,reduceLeDiff,reduceMul,reduceEqDiff,reduceCtorEq]
 refine hK _ _ rfl ?_
 simp only [mwb,reduceAdd,reduceEqDiff]
 refine ex_region_w tt_ok 89 (0::0::0::0::0::0::0::2::2::(rp 19 0 (rp 8 1 []))) [] rfl rfl fun K hK => ?_
 try simp only [ltb]
 refine runX_cut 5 fun K1 hK1 => ?_
 simp only [ltb,go_sem,reduceAdd,reduceLT,reduceEqDiff]
 refine callF_ex (by have h := manifest_ok hG xA hbA; rw [manV_ok ex_ixA, ← hMS] at h; simp only [xA,exR,exQ,pA,pB,e0,encRqs,List.map_cons,List.map_nil,encRl,rlCells,encRq,encSet,encSpn] at h; exact h) ?_
 rintro _ rfl
 try simp only [go_sem]
 refine hK1 _ ?_
 simp only [ltb,go_sem,reduceLT,reduceEqDiff]
 refine hK _ _ rfl ?_
 simp only [mwb,reduceAdd,reduceEqDiff]
 refine ex_region_w tt_ok 89 (rp 9 0 (2::2::(rp 25 0 [1,1,1,1,1]))) [] rfl rfl fun K hK => ?_
 refine runX_cut 2 fun K1 hK1 => ?_
 simp only [ltb,go_sem,reduceLT]
 refine callF_ex (by have h := read_ok hG MS hMSl; rw [hMS, read_man ex_ixA hbA hmL, ← hMS] at h; simp only [xA,exR,exQ,pA,pB,e0,encRqs,List.map_cons,List.map_nil,encRl,rlCells,encRq,encSet,encSpn] at h; exact h) ?_
 rintro _ rfl
 try simp only [go_sem]
 refine hK1 _ ?_
 simp only [ltb,go_sem,reduceAdd,reduceLT,reduceEqDiff]
 refine hK _ _ rfl ?_
 simp only [mwb,reduceAdd,reduceEqDiff]
 refine ex_frz (v' := .slice [.agg [str ⟨#[97,47,118,49]⟩, .slice [.agg [num 0, num 1000000]]]]) 2 rfl rfl ?_
 simp only [ref1,refCell,frzAll,frz1,List.foldl_cons,List.foldl_nil,List.getElem?_cons_succ,List.getElem?_cons_zero,if_true,List.set_cons_zero,List.set_cons_succ]
 refine ex_frz (v' := .slice [.agg [str ⟨#[97,47,118,49]⟩, num 1, num 0, num 0], .agg [str ⟨#[98,47,118,49]⟩, num 1, num 0, num 0]]) 5 rfl rfl ?_
 simp only [ref1,refCell,frzAll,frz1,List.foldl_cons,List.foldl_nil,List.set_cons_zero,List.set_cons_succ]
 refine ex_frz (v' := .slice [.agg [str ⟨#[97,47,118,49]⟩, num 1, num 0, num 0], .agg [str ⟨#[98,47,118,49]⟩, num 1, num 1, num 0]]) 6 rfl rfl ?_
 simp only [ref1,refCell,frzAll,frz1,List.foldl_cons,List.foldl_nil,List.set_cons_zero,List.set_cons_succ]
 refine ex_mixed_w tt_ok mixed_ok 89 [2,0,0,0,0,0,0,0,0,0,0,0,0,0,0,0,0,0,0,0,0,0,0,0,0,0,0,0,0,0,0,0,0,0,0,0,0,0,0,0,0,1,1,1,1,1,1,1,1,1,1,1,1,1,1,1,1,1,1,1,1,1,1,1,1,1,1,1,1,1,1,1,1,1,1,1,1,1,1,1,1,1,1,1,1,1,1,1,1] (by kernel_rfl) [⟨.r, 0, [], [], []⟩, ⟨.n, 0, [], [], []⟩, ⟨.n, 0, [], [], []⟩, ⟨.n, 0, [], [], []⟩, ⟨.r, 0, [], [], []⟩, ⟨.n, 0, [], [], []⟩, ⟨.n, 0, [], [], []⟩, ⟨.n, 0, [], [], []⟩, ⟨.n, 0, [], [], []⟩, ⟨.n, 0, [], [], []⟩, ⟨.n, 0, [], [], []⟩, ⟨.r, 0, [], [], []⟩, ⟨.n, 0, [], [], []⟩, ⟨.n, 0, [], [], []⟩, ⟨.n, 0, [], [], []⟩, ⟨.n, 0, [], [], []⟩, ⟨.n, 0, [], [], []⟩, ⟨.n, 0, [], [], []⟩, ⟨.n, 0, [], [], []⟩, ⟨.r, 0, [], [], []⟩, ⟨.n, 0, [], [], []⟩, ⟨.n, 0, [], [], []⟩, ⟨.n, 0, [], [], []⟩, ⟨.n, 0, [], [], []⟩, ⟨.n, 0, [], [], []⟩, ⟨.n, 0, [], [], []⟩, ⟨.r, 0, [], [], []⟩, ⟨.n, 0, [], [], []⟩, ⟨.n, 0, [], [], []⟩, ⟨.n, 0, [], [], []⟩, ⟨.n, 0, [], [], []⟩, ⟨.n, 0, [], [], []⟩, ⟨.n, 0, [], [], []⟩, ⟨.n, 0, [], [], []⟩, ⟨.n, 0, [], [], []⟩, ⟨.n, 0, [], [], []⟩, ⟨.n, 0, [], [], []⟩, ⟨.n, 0, [], [], []⟩, ⟨.n, 0, [], [], []⟩, ⟨.n, 0, [], [], []⟩, ⟨.n, 0, [], [], []⟩, ⟨.r, 0, [], [], []⟩, ⟨.n, 0, [], [], []⟩, ⟨.r, 0, [], [], []⟩, ⟨.r, 0, [], [], []⟩, ⟨.r, 0, [], [], []⟩, ⟨.n, 0, [], [], []⟩, ⟨.n, 0, [], [], []⟩, ⟨.n, 0, [], [], []⟩] 0 (by kernel_rfl) fun K hK => ?_
 try simp only [ltb,List.replicate_zero]
 refine runM_cut 2 (by simp) (by simp) fun K1 hK1 => ?_
 simp only [ltb,go_sem,reduceAdd,reduceLT]
 refine callD_ex rfl (by have h := check_ok hG exL [] ex_b; rw [ex_ix] at h; simp only [exL,xA,xB0,xB1,xB2,exR,exQ,pA,pB,e0,encIx,encRls,encRqs,List.map_cons,List.map_nil,encRl,rlCells,encRq,encSet,encSpn] at h; exact h) ?_
 rintro _ rfl
 try simp only [go_sem]
 refine hK1 _ ?_
 refine runM_cut 2 (by simp) (by simp) fun K1 hK1 => ?_
 simp only [ltb,go_sem,reduceAdd,reduceLT,reduceEqDiff]
 refine hK1 _ ?_
 refine runM_case 44 (by rfl) fun b hb8_3 => ?_
 cases b
 ·exact absurd hb8_3 (by simp)
 ·refine runM_cut 3 (by simp) (by simp) fun K1 hK1 => ?_
  simp only [ltb,go_sem,reduceAdd,reduceLT,reduceEqDiff]
  refine callD_ex rfl (by have h := reach_ok hG exL [] ex_b exRoots (by decide) ex_rb; rw [← hRE] at h; simp only [exL,exRoots,xA,xB0,xB1,xB2,exR,exQ,pA,pB,e0,encIx,encRls,encRqs,encSels,List.map_cons,List.map_nil,encRl,rlCells,encRq,encSet,encSpn] at h; exact ⟨_, rfl, h⟩) ?_
  rintro _ rfl
  try simp only [go_sem]
  refine hK1 _ ?_
  refine runM_cut 4 (by simp) (by simp) fun K1 hK1 => ?_
  try simp only [ltb]
  simp only [List.length_map,hl3,go_sem,reduceAdd,reduceLT,reduceEqDiff]
  refine hK1 _ ?_
  refine runM_case 51 (by rfl) fun b hb8_10 => ?_
  cases b
  ·exact absurd hb8_10 (by simp)
  ·refine runM_cut 2 (by simp) (by simp) fun K1 hK1 => ?_
   simp only [ltb,go_sem,reduceAdd,reduceLT,reduceEqDiff]
   refine callD_ex rfl (by have h := avail_ok hG exL [] ex_b pB; rw [ex_avail] at h; simp only [exL,xA,xB0,xB1,xB2,exR,exQ,pA,pB,e0,encIx,encRls,encRqs,List.map_cons,List.map_nil,encRl,rlCells,encRq,encSet,encSpn] at h; exact ⟨_, rfl, h⟩) ?_
   rintro _ rfl
   try simp only [go_sem]
   refine hK1 _ ?_
   refine runM_cut 4 (by simp) (by simp) fun K1 hK1 => ?_
   simp only [ltb,go_sem,reduceAdd,reduceLT,reduceLeDiff,reduceMul,reduceEqDiff,reduceCtorEq]
   refine callD_ex rfl (by have h := same_ok [⟨0, 1⟩, ⟨1000, 1001⟩] [⟨0, 1⟩, ⟨1000, 1001⟩] (by decide); rw [show decide (([⟨0, 1⟩, ⟨1000, 1001⟩] : List Spn) = [⟨0, 1⟩, ⟨1000, 1001⟩]) = true from decide_eq_true rfl] at h; simp only [List.map_cons,List.map_nil,encSet,encSpn] at h; exact h) ?_
   rintro _ rfl
   try simp only [go_sem]
   refine hK1 _ ?_
   refine runM_cut 2 (by simp) (by simp) fun K1 hK1 => ?_
   simp only [ltb,go_sem,reduceAdd,reduceLT,reduceEqDiff]
   refine hK1 _ ?_
   refine runM_case 59 (by rfl) fun b hb8_18 => ?_
   cases b
   ·exact absurd hb8_18 (by simp)
   ·refine runM_cut 4 (by simp) (by simp) fun K1 hK1 => ?_
    simp only [ltb,go_sem,reduceAdd,reduceLT,reduceEqDiff]
    refine callD_ex rfl (by have h := solves_ok hG exL [] ex_b exRoots (by decide) ex_rb exS (by decide); rw [ex_solveS] at h; simp only [exL,exRoots,exS,xA,xB0,xB1,xB2,exR,exQ,pA,pB,e0,encIx,encRls,encRqs,encSels,List.map_cons,List.map_nil,encRl,rlCells,encRq,encSet,encSpn,encSel] at h; exact ⟨_, rfl, h⟩) ?_
    rintro _ rfl
    try simp only [go_sem]
    refine hK1 _ ?_
    refine runM_cut 3 (by simp) (by simp) fun K1 hK1 => ?_
    simp only [ltb,go_sem,reduceAdd,reduceLT,reduceEqDiff]
    refine hK1 _ ?_
    refine runM_case 66 (by rfl) fun b hb8_25 => ?_
    cases b
    ·exact absurd hb8_25 (by simp)
    ·refine runM_cut 4 (by simp) (by simp) fun K1 hK1 => ?_
     simp only [ltb,go_sem,reduceAdd,reduceLT,reduceEqDiff]
     refine callD_ex rfl (by have h := solves_ok hG exL [] ex_b exRoots (by decide) ex_rb exG (by decide); rw [ex_solveG] at h; simp only [exL,exRoots,exG,xA,xB0,xB1,xB2,exR,exQ,pA,pB,e0,encIx,encRls,encRqs,encSels,List.map_cons,List.map_nil,encRl,rlCells,encRq,encSet,encSpn,encSel] at h; exact ⟨_, rfl, h⟩) ?_
     rintro _ rfl
     try simp only [go_sem]
     refine hK1 _ ?_
     refine runM_cut 3 (by simp) (by simp) fun K1 hK1 => ?_
     simp only [ltb,go_sem,reduceAdd,reduceLT,reduceEqDiff]
     refine hK1 _ ?_
     refine runM_case 73 (by rfl) fun b hb8_32 => ?_
     cases b
     ·exact absurd hb8_32 (by simp)
     ·refine runM_cut 4 (by simp) (by simp) fun K1 hK1 => ?_
      simp only [ltb,go_sem,reduceAdd,reduceLT,reduceEqDiff]
      refine hK1 _ ?_
      refine runM_case 77 (by rfl) fun b hb8_36 => ?_
      cases b
      ·exact absurd hb8_36 (by simp)
      ·refine runM_cut 4 (by simp) (by simp) fun K1 hK1 => ?_
       simp only [ltb,go_sem,reduceAdd,reduceLT,reduceEqDiff]
       refine hK1 _ ?_
       refine runM_case 81 (by rfl) fun b hb8_40 => ?_
       cases b
       ·exact absurd hb8_40 (by simp)
       ·refine runM_cut 6 (by simp) (by simp) fun K1 hK1 => ?_
        simp only [ltb,go_sem,reduceAdd,reduceLT,reduceEqDiff]
        refine callD_ex rfl (by have h := sameRl_ok xA xA hbA; rw [show decide (xA = xA) = true from decide_eq_true rfl] at h; simp only [xA,exR,exQ,pA,pB,e0,encRqs,List.map_cons,List.map_nil,encRl,rlCells,encRq,encSet,encSpn] at h; exact h) ?_
        rintro _ rfl
        try simp only [go_sem]
        refine hK1 _ ?_
        simp only [ltb,go_sem,reduceAdd,reduceLT,reduceEqDiff]
        refine hK _ _ rfl ?_
        simp only [mwb,reduceEqDiff]
        exact ex_ret ⟨.inl rfl, _, rfl, rfl⟩
end Go.Proofs.YtnfeacnbgbggfaaGreatDoor
end

section
namespace Go.Proofs.YtnfeacnbgbggfaaGreatDoor
open Go.Eng
set_option maxRecDepth 100000
open Go.ChangeShapes Go.WideShapes Go.ChangeAt Go.RowKit
@[reducible] def gOf (n : Int) : Glob := { n := n, κ := fun _ => none, ok := fun j b hb => (by cases hb), g := some 0, tabs := fun _ => none }
theorem cell_int {W : World} {v : Value} (hok : Cell.ok Tryz.prog W .any 0 3 v) : ∃ n : Int, v = .int .i64 n := by
 unfold Cell.ok at hok
 rw [Tryz.underlying3] at hok
 cases v with
 | int k n => exact ⟨n, by rw [show k = .i64 from hok.1]⟩
 | _ => exact hok.elim
theorem maxLen_at {W : World} (hS : W.ShapedOpen Tryz.prog) : ∃ n : Int, W.cell? ⟨0, 0, none⟩ = some (.int .i64 n) := by
 have h0 : (((begin Tryz.prog (fun _ _ => 0) default).world.heap[0]?).bind Obj.row?) = some (#[.int .i64 0], 3) := by kernel_rfl
 obtain ⟨cs, hc, hz, hr⟩ := hS.1 0 _ _ (of_decide_eq_true (by kernel_rfl)) h0
 obtain ⟨ts, h1, -, h3⟩ := hr (by kernel_rfl)
 obtain rfl : [3] = ts := Option.some.inj ((show Tryz.prog.cellTypes Tryz.prog.depth 3 = some [3] by kernel_rfl).symm.trans h1)
 have hz' : cs.size = 1 := hz
 obtain ⟨v, hv⟩ : ∃ v, cs[0]? = some v := ⟨cs[0], Array.getElem?_eq_getElem (by omega)⟩
 obtain ⟨u, hu, hok⟩ := h3 0 v hv
 obtain rfl : 3 = u := by simpa using hu
 obtain ⟨n, rfl⟩ := cell_int hok
 exact ⟨n, by simp [World.cell?, hc, hv]⟩
theorem rep_one {F : Addr → Option Value} [Glob] {hg : Gl F} {cs : List V} {v : Value} (hne : cs.length ≠ 1) (h : Rd F hg cs v.cells.toList) : Rep ⟨F, fun _ _ => none, hg⟩ (.agg cs) v := by
 cases v with
 | agg xs => exact .agg _ _ _ (by simpa [Value.cells] using h.1.1) fun i c x hc hx => h.1.2 i c x hc (by simpa [Value.cells] using hx)
 | _ => exact absurd h.1.1 (by simpa [Value.cells] using hne)
theorem post_kept {H : Type} {enc : TypeId × Value → H} {P : Program} {f : Func} {s : ChangeSpec} {apart fresh handsOn again : Bool} {W W' : World} {args : Array Value} {v : Value} {ds gs : List (DataW H)} {before pa pv : List MemPlace}
  (hW : DataW.Whole enc P f.params.toList s.vars apart W args.toList ds gs before)
  (hres : ∀ (b : Nat) (sp : Nat → Bool) (hd : Bool), DataW.TrodAll enc P W' b sp hd f.resultTypes.toList (v.resultList f.resultTypes.size) (s.fn H (ds ++ gs)).results [])
  (hargs : ∀ sp : Nat → Bool, (∀ p ∈ before, sp p.block = true) → DataW.TrodAll enc P W' 0 sp true f.params.toList args.toList (s.fn H (ds ++ gs)).args pa)
  (hvars : ∀ sp : Nat → Bool, (∀ p ∈ before, sp p.block = true) → DataW.TrodVars enc P W' sp s.vars (s.fn H (ds ++ gs)).vars pv)
  (hps : before = pa ++ pv) (hb : Below W.heap.size W W')
  (hok : ∀ (j : Nat) (t : TypeId) (r : Value), f.resultTypes[j]? = some t → (v.resultList f.resultTypes.size)[j]? = some r → Value.okWide P W' .any 0 t r) :
  s.post enc P f apart fresh handsOn again W args v W' := by
 have hlt := hW.lt
 refine ⟨ds, gs, before, [], pa, pv, hW, hres _ _ _, hargs _ (fun p hp => by simpa using hlt p hp), hvars _ (fun p hp => by simpa using hlt p hp), hb.frame _, fun _ => ?_⟩
 obtain ⟨_, _, _, _, _, hz, hn⟩ := hW
 refine ⟨hok, _, _, ([] ++ pa) ++ pv, ⟨[] ++ pa, pv, trodAll_append (hargs _ (fun _ _ => rfl)) (hres _ _ _), hvars _ (fun _ _ => rfl), rfl, fun b off hp => ?_, fun ha => ?_⟩, fun p hp _ => ?_⟩
 ·have hp' : MemPlace.cell b off ∈ before := by rw [hps]; simpa using hp
  rw [hb.frozen (show (⟨b, off, none⟩ : Addr).block < W.heap.size from hlt _ hp')]
  exact hz b off hp'
 ·have := hn ha
  rw [hps] at this
  simpa using this
 ·rw [hps]
  simpa using hp
theorem rep_sl {F : Addr → Option Value} [Glob] {hg : Gl F} {rows : List V} {a : Option Addr} {l c : Nat} (h : Rd F hg [.slice rows] (Value.slice a l c).cells.toList) : Rep ⟨F, fun _ _ => none, hg⟩ (.slice rows) (.slice a l c) := h.1.2 0 _ _ rfl rfl
end Go.Proofs.YtnfeacnbgbggfaaGreatDoor
end

section
namespace Go.Proofs.YtnfeacnbgbggfaaGreatDoor
open Go.Eng
open Nat (reduceAdd reduceLT reduceLeDiff reduceMul reduceEqDiff reduceSub)
variable [Glob]
set_option maxHeartbeats 4000000
set_option maxRecDepth 100000
attribute [local irreducible] runM stepM valD stepOp stepD callF callS
def satY (q : Rq) (y : Sel) : Bool := decide (y.path = q.path) && y.ver.ok && has q.set y.ver.pl
def satS (s : List Sel) (q : Rq) : Bool := s.any (satY q)
theorem clo32_ok (q : Rq) (hq : RqB q) (y : Sel) : ∃ r_, (fun w => w = bl (satY q y)) r_ ∧ FnOkS Tryz.prog 32 [encSel y, .ptr 0 0] ([.box [str q.path, .slice (q.set.map encSpn)]]) r_ ([.box [str q.path, .slice (q.set.map encSpn)]]) := by
 refine fns_ex tt_ok (fn := Tryz.f32) Tryz.func32 rfl Tryz.call32 (rfl) ?_
 simp only [ltb,startSt,Tryz.ntmps32,List.length_cons,List.length_nil,reduceAdd,reduceSub,List.replicate_succ,List.replicate_zero]
 simp only [encSel]
 refine ex_region_w tt_ok 27 [0,0,2,2] [] rfl rfl fun K hK => ?_
 simp only [ltb,go_sem,reduceAdd,reduceLT]
 refine hK _ _ rfl ?_
 simp only [mwb,reduceAdd,reduceEqDiff]
 refine ex_region_w tt_ok 27 [0,0,0,0,2,2,1,1,1,1,1,1] [] rfl rfl fun K hK => ?_
 refine runX_cut 3 fun K1 hK1 => ?_
 simp only [ltb,go_sem,reduceAdd,reduceLT,reduceEqDiff]
 refine callF_ex (by have h := cplace_ok y.ver; simp only [encVer] at h; exact h) ?_
 rintro _ rfl
 try simp only [go_sem]
 refine hK1 _ ?_
 simp only [ltb,go_sem,reduceAdd,reduceLT,reduceEqDiff]
 refine hK _ _ rfl ?_
 simp only [mwb,reduceAdd,reduceEqDiff]
 refine ex_region_w tt_ok 27 (0::0::0::2::(rp 8 0 (rp 15 1 []))) [(5, 17), (9, 21)] rfl rfl fun K hK => ?_
 refine runX_cut 6 fun K1 hK1 => ?_
 simp only [ltb,go_sem,reduceAdd,reduceLT,reduceLeDiff,reduceEqDiff]
 refine hK1 _ ?_
 refine runX_case 17 (by rfl) fun b hb2_5 => ?_
 cases b
 ·refine runX_cut 8 fun K1 hK1 => ?_
  simp only [ltb,go_sem,reduceAdd,reduceLT,reduceEqDiff]
  refine hK1 _ ?_
  simp only [ltb,go_sem,reduceAdd,reduceLT,reduceEqDiff]
  refine hK _ _ rfl ?_
  simp only [mwb,reduceAdd,reduceEqDiff]
  refine ex_ret ?_
  refine ⟨.inl rfl, _, congrArg bl ?_, rfl, rfl, rfl⟩
  unfold satY
  cases hvo : y.ver.ok <;> simp_all [str_beq]
 ·refine runX_cut 4 fun K1 hK1 => ?_
  simp only [ltb,go_sem,reduceAdd,reduceLT,reduceEqDiff]
  refine hK1 _ ?_
  refine runX_case 21 (by rfl) fun b hb2_9 => ?_
  cases b
  ·simp only [ltb,go_sem,reduceAdd,reduceLT,reduceEqDiff]
   refine hK _ _ rfl ?_
   simp only [mwb,reduceAdd,reduceEqDiff]
   refine ex_ret ?_
   refine ⟨.inl rfl, _, congrArg bl ?_, rfl, rfl, rfl⟩
   unfold satY
   cases hvo : y.ver.ok <;> simp_all [str_beq]
  ·refine runX_cut 4 fun K1 hK1 => ?_
   simp only [ltb,go_sem,reduceAdd,reduceLT,reduceEqDiff]
   refine callF_ex (by have h := has_ok q.set y.ver.pl hq.2; simp only [encSet] at h; exact h) ?_
   rintro _ rfl
   try simp only [go_sem]
   refine hK1 _ ?_
   simp only [ltb,go_sem,reduceAdd,reduceLT,reduceEqDiff]
   refine hK _ _ rfl ?_
   simp only [mwb,reduceAdd,reduceEqDiff]
   refine ex_ret ?_
   refine ⟨.inl rfl, _, congrArg bl ?_, rfl, rfl, rfl⟩
   unfold satY
   cases hvo : y.ver.ok <;> simp_all [str_beq]
theorem idxS_32 (q : Rq) (hq : RqB q) (l : List Sel) (hl : l.length ≤ 2097152) : ∃ r_, (fun w => ∃ k : Int, w = num k ∧ decide (0 ≤ k) = l.any (satY q)) r_ ∧ FnOkS Tryz.prog 83 [encSels l, .clo (.func 32) [] [.ptr 0 0]] ([.box [str q.path, .slice (q.set.map encSpn)]]) r_ ([.box [str q.path, .slice (q.set.map encSpn)]]) := by
 refine fns_ex tt_ok (fn := Tryz.f83) Tryz.func83 rfl Tryz.call83 (rfl) ?_
 simp only [ltb,startSt,Tryz.ntmps83,List.length_cons,List.length_nil,reduceAdd,reduceSub,List.replicate_succ,List.replicate_zero]
 simp only [encSels]
 refine ex_region_w tt_ok 19 [0,0,0,0,2] [] rfl rfl fun K hK => ?_
 simp only [ltb,go_sem]
 refine hK _ _ rfl ?_
 simp only [mwb,reduceAdd]
 refine ex_seq ?_
 refine ex_region_w tt_ok 19 [0,0,0,0,0,0,1,2,2] [] rfl rfl fun K hK => ?_
 try simp only [ltb]
 simp only [List.length_map,go_sem,reduceLT]
 refine hK _ _ rfl ?_
 simp only [mwb,reduceAdd,reduceEqDiff]
 refine ex_block ?_
 refine ex_loopK [8] [num 0] 1 [true,true,false,false,true,false,false,true,true] (fun vs => ((l.length : Int) - Go.Eng.intOf (vs.headD .undef)).toNat) (fun vs => ∃ i : Nat, vs = [num i] ∧ i ≤ l.length ∧ ∀ j < i, ∀ x, l[j]? = some x → (satY q) x = false) (by omega) (by simp only [maskFr,belowV,belowL,reduceLT,mkb]) (by simp only [List.all_cons,List.all_nil,belowV,belowB,Bool.and_self,List.take_succ_cons,List.take_nil]) (by rfl) (⟨0, rfl, Nat.zero_le _, fun j hj => absurd hj (Nat.not_lt_zero j)⟩) fun vs hI => ?_
 obtain ⟨i, rfl, hi, hall⟩ := hI
 simp only [maskFr,putAll,List.set_cons_zero,List.set_cons_succ,mkb]
 refine ex_region_w tt_ok 19 (rp 9 0 [2]) [] rfl rfl fun K hK => ?_
 simp only [ltb,go_sem,reduceLT]
 refine hK _ _ rfl ?_
 simp only [mwb,reduceAdd]
 refine ex_seq ?_
 refine ex_if rfl (fun hc9 => ?_) (fun hc9 => ?_)
 ·have hlt : i < l.length := by simpa using hc9
  have hw := i64_succ i (by omega)
  obtain ⟨x, hx⟩ : ∃ x, l[i]? = some x := ⟨_, List.getElem?_eq_getElem hlt⟩
  refine ex_skip ?_
  show Go.Eng.Ex _ _ _ _ _ _
  refine ex_seq ?_
  refine ex_block ?_
  refine ex_region_w tt_ok 19 [0,0,0,0,0,2,0,0,0,0,1] [] rfl rfl fun K hK => ?_
  simp only [ltb,go_sem,reduceLT]
  refine hK _ _ rfl ?_
  simp only [mwb,reduceAdd,reduceEqDiff]
  refine ex_region_w tt_ok 19 (rp 11 0 [1,1,1,1,1,2]) [] rfl rfl fun K hK => ?_
  try simp only [ltb]
  simp only [List.getElem?_map,hx,encSel,Option.map_some,go_sem,reduceAdd,reduceLT,reduceEqDiff,reduceCtorEq]
  refine callS_ex (by have h := clo32_ok q hq x; simp only [encSel] at h; exact h) ?_
  rintro _ rfl
  try simp only [go_sem]
  refine hK _ _ rfl ?_
  simp only [mwb,reduceAdd,reduceEqDiff]
  refine ex_if rfl (fun hc16 => ?_) (fun hc16 => ?_)
  ·have hres : decide (0 ≤ (i : Int)) = l.any (satY q) := by rw [any_of hx hc16]; exact decide_eq_true (Int.natCast_nonneg i)
   refine ex_region_w tt_ok 19 (0::0::0::0::2::(rp 12 0 [1])) [] rfl rfl fun K hK => ?_
   simp only [ltb,go_sem,reduceLT]
   refine hK _ _ rfl ?_
   simp only [mwb,reduceAdd,reduceEqDiff]
   exact ex_ret ⟨.inl rfl, _, ⟨_, rfl, hres⟩, rfl, rfl, rfl⟩
  ·refine ex_skip ?_
   show Go.Eng.Ex _ _ _ _ _ _
   refine ex_last_region_w tt_ok 19 (rp 8 0 (2::(rp 9 0 [2]))) [] (by kernel_rfl) rfl rfl fun K hK => ?_
   try simp only [ltb]
   simp only [hw,go_sem,reduceLT]
   refine hK _ _ rfl ?_
   simp only [mwb,reduceAdd,reduceEqDiff]
   refine ⟨[_], ?_, ?_, 1, [true,true,false,false,true,false,false,true,true], by omega, by simp only [maskFr,belowV,belowL,reduceLT,mkb], by simp only [List.all_cons,List.all_nil,belowV,belowB,Bool.and_self,List.take_succ_cons,List.take_nil], by simp only [maskFr,putAll,List.set_cons_zero,List.set_cons_succ,mkb]; rfl⟩
   ·refine ⟨i + 1, rfl, hlt, fun j hj => ?_⟩
    rcases Nat.lt_or_ge j i with h | h
    ·exact hall j h
    ·obtain rfl : j = i := by omega
     intro y hy
     rw [hx] at hy; cases hy; exact hc16
   ·simp only [Go.Eng.intOf,List.headD_cons]; omega
 ·have hge : ¬ i < l.length := by simpa using hc9
  have hres : decide (0 ≤ (-1 : Int)) = l.any (satY q) := (any_none fun j hj => hall j (by omega)).symm ▸ rfl
  refine ex_exit ?_
  show Go.Eng.Ex _ _ _ _ _ _
  refine ex_region_w tt_ok 19 [0,0,0,0,2] [] rfl rfl fun K hK => ?_
  simp only [ltb,go_sem]
  refine hK _ _ rfl ?_
  simp only [mwb,reduceAdd]
  exact ex_ret ⟨.inl rfl, _, ⟨_, rfl, hres⟩, rfl, rfl, rfl⟩
theorem anyS_32 (q : Rq) (hq : RqB q) (l : List Sel) (hl : l.length ≤ 2097152) : ∃ r_, (fun w => w = bl (l.any (satY q))) r_ ∧ FnOkS Tryz.prog 31 [encSels l, .clo (.func 32) [] [.ptr 0 0]] ([.box [str q.path, .slice (q.set.map encSpn)]]) r_ ([.box [str q.path, .slice (q.set.map encSpn)]]) := by
 refine fns_ex tt_ok (fn := Tryz.f31) Tryz.func31 rfl Tryz.call31 (rfl) ?_
 simp only [ltb,startSt,Tryz.ntmps31,List.length_cons,List.length_nil,reduceAdd,reduceSub,List.replicate_succ,List.replicate_zero]
 simp only [encSels]
 refine ex_region_w tt_ok 9 [0,0,0,0,2] [] rfl rfl fun K hK => ?_
 simp only [ltb,go_sem]
 refine hK _ _ rfl ?_
 simp only [mwb,reduceAdd]
 refine ex_region_w tt_ok 9 [0,0,0,0,2,1,1,1,1] [] rfl rfl fun K hK => ?_
 refine runX_cut 3 fun K1 hK1 => ?_
 simp only [ltb,go_sem,reduceLT,reduceEqDiff]
 refine callS_ex (by have h := idxS_32 q hq l hl; simp only [encSels] at h; exact h) ?_
 rintro _ ⟨k, rfl, hk⟩
 try simp only [go_sem]
 refine hK1 _ ?_
 simp only [ltb,go_sem,reduceLT,reduceEqDiff]
 refine hK _ _ rfl ?_
 simp only [mwb,reduceAdd,reduceEqDiff]
 exact ex_ret ⟨.inl rfl, _, congrArg bl hk, rfl, rfl, rfl⟩
theorem anyS32_at (q : Rq) (hq : RqB q) (l : List Sel) (hl : l.length ≤ 2097152) (M : List Blk) (k : Nat) (hk : M[k]? = some (.box [str q.path, .slice (q.set.map encSpn)])) : ∃ r_, (fun w => w = bl (satS l q)) r_ ∧ FnOkS Tryz.prog 31 [.slice (l.map encSel), .clo (.func 32) [] [.ptr k 0]] M r_ M := by
 obtain ⟨r, rfl, h⟩ := anyS_32 q hq l hl
 have h3 := fnOkS_at1 h M k (by simp [encSels, belowV, belowL]) (by simp [belowB, belowV]) (by simp [belowV]) (by simp [belowB, belowV]) (fun σ => by simp [renB, renL, renV]) (fun σ => by simp [renB, renL, renV]) hk
 rw [set_same hk] at h3
 exact ⟨_, rfl, by simpa [renL, renV, encSels, satS] using h3⟩
theorem clo30_ok (s : List Sel) (hs : s.length ≤ 1048576) (q : Rq) (hq : RqB q) : ∃ r_, (fun w => w = bl (satS s q)) r_ ∧ FnOkS Tryz.prog 30 [encRq q, .ptr 0 0] ([.box [.slice (s.map encSel)]]) r_ ([.box [.slice (s.map encSel)]]) := by
 refine fns_ex tt_ok (fn := Tryz.f30) Tryz.func30 rfl Tryz.call30 (rfl) ?_
 simp only [ltb,startSt,Tryz.ntmps30,List.length_cons,List.length_nil,reduceAdd,reduceSub,List.replicate_succ,List.replicate_zero]
 simp only [encRq,encSet]
 refine ex_region_w tt_ok 7 [0,0,2,2] [] rfl rfl fun K hK => ?_
 simp only [ltb,go_sem,reduceAdd,reduceLT]
 refine hK _ _ rfl ?_
 simp only [mwb,reduceAdd,reduceEqDiff]
 refine ex_region_w tt_ok 7 [0,0,0,2,1,1,1] [] rfl rfl fun K hK => ?_
 refine runX_cut 3 fun K1 hK1 => ?_
 simp only [ltb,go_sem,reduceAdd,reduceLT,reduceEqDiff]
 refine callS_ex (anyS32_at q hq s (by omega) _ 1 rfl) ?_
 rintro _ rfl
 try simp only [go_sem]
 refine hK1 _ ?_
 simp only [ltb,go_sem,reduceAdd,reduceLT,reduceEqDiff]
 refine hK _ _ rfl ?_
 simp only [mwb,reduceAdd,reduceEqDiff]
 exact ex_ret ⟨.inl rfl, _, rfl, rfl, rfl, rfl⟩
theorem clo30_at (s : List Sel) (hs : s.length ≤ 1048576) (q : Rq) (hq : RqB q) (M : List Blk) (k : Nat) (hk : M[k]? = some (.box [.slice (s.map encSel)])) : ∃ r_, (fun w => w = bl (satS s q)) r_ ∧ FnOkS Tryz.prog 30 [encRq q, .ptr k 0] M r_ M := by
 obtain ⟨r, rfl, h⟩ := clo30_ok s hs q hq
 have h3 := fnOkS_at1 h M k (by simp [encRq, encSet, belowV, belowL]) (by simp [belowB, belowV]) (by simp [belowV]) (by simp [belowB, belowV]) (fun σ => by simp [renB, renL, renV]) (fun σ => by simp [renB, renL, renV]) hk
 rw [set_same hk] at h3
 exact ⟨_, rfl, by simpa [renL, renV, encRq, encSet] using h3⟩
theorem clo34_ok (s : List Sel) (hs : s.length ≤ 1048576) (q : Rq) (hq : RqB q) : ∃ r_, (fun w => w = bl (!satS s q)) r_ ∧ FnOkS Tryz.prog 34 [encRq q, .ptr 1 0] ([.box [.slice (s.map encSel)], .box [.clo (.func 30) [] [.ptr 0 0]]]) r_ ([.box [.slice (s.map encSel)], .box [.clo (.func 30) [] [.ptr 0 0]]]) := by
 refine fns_ex tt_ok (fn := Tryz.f34) Tryz.func34 rfl Tryz.call34 (rfl) ?_
 simp only [ltb,startSt,Tryz.ntmps34,List.length_cons,List.length_nil,reduceAdd,reduceSub,List.replicate_succ,List.replicate_zero]
 simp only [encRq,encSet]
 refine ex_region_w tt_ok 8 [0,0,2,2] [] rfl rfl fun K hK => ?_
 simp only [ltb,go_sem,reduceAdd,reduceLT]
 refine hK _ _ rfl ?_
 simp only [mwb,reduceAdd,reduceEqDiff]
 refine ex_region_w tt_ok 8 [0,0,0,2,1,1,1,1] [] rfl rfl fun K hK => ?_
 refine runX_cut 3 fun K1 hK1 => ?_
 simp only [ltb,go_sem,reduceAdd,reduceLT,reduceEqDiff]
 refine callS_ex (by have h := fun M hk => clo30_at s hs q hq M 0 hk; simp only [encRq,encSet] at h; exact h _ rfl) ?_
 rintro _ rfl
 try simp only [go_sem]
 refine hK1 _ ?_
 simp only [ltb,go_sem,reduceAdd,reduceLT,reduceEqDiff]
 refine hK _ _ rfl ?_
 simp only [mwb,reduceAdd,reduceEqDiff]
 exact ex_ret ⟨.inl rfl, _, rfl, rfl, rfl, rfl⟩
theorem idxQ_34 (s : List Sel) (hs : s.length ≤ 1048576) (l : List Rq) (hl : l.length ≤ 2097152) (hlb : ∀ q ∈ l, RqB q) : ∃ r_, (fun w => ∃ k : Int, w = num k ∧ decide (0 ≤ k) = l.any (fun q => !satS s q)) r_ ∧ FnOkS Tryz.prog 79 [encRqs l, .clo (.func 34) [] [.ptr 1 0]] ([.box [.slice (s.map encSel)], .box [.clo (.func 30) [] [.ptr 0 0]]]) r_ ([.box [.slice (s.map encSel)], .box [.clo (.func 30) [] [.ptr 0 0]]]) := by
 refine fns_ex tt_ok (fn := Tryz.f79) Tryz.func79 rfl Tryz.call79 (rfl) ?_
 simp only [ltb,startSt,Tryz.ntmps79,List.length_cons,List.length_nil,reduceAdd,reduceSub,List.replicate_succ,List.replicate_zero]
 simp only [encRqs]
 refine ex_region_w tt_ok 19 [0,0,0,0,2] [] rfl rfl fun K hK => ?_
 simp only [ltb,go_sem,reduceAdd]
 refine hK _ _ rfl ?_
 simp only [mwb,reduceAdd]
 refine ex_seq ?_
 refine ex_region_w tt_ok 19 [0,0,0,0,0,0,1,2,2] [] rfl rfl fun K hK => ?_
 try simp only [ltb]
 simp only [List.length_map,go_sem,reduceAdd,reduceLT]
 refine hK _ _ rfl ?_
 simp only [mwb,reduceAdd,reduceEqDiff]
 refine ex_block ?_
 refine ex_loopK [8] [num 0] 2 [true,true,false,false,true,false,false,true,true] (fun vs => ((l.length : Int) - Go.Eng.intOf (vs.headD .undef)).toNat) (fun vs => ∃ i : Nat, vs = [num i] ∧ i ≤ l.length ∧ ∀ j < i, ∀ x, l[j]? = some x → (fun q => !satS s q) x = false) (by omega) (by simp only [maskFr,belowV,belowL,reduceLT,mkb]) (by simp only [List.all_cons,List.all_nil,belowV,belowL,belowB,reduceLT,decide_true,Bool.and_self,List.take_succ_cons,List.take_nil]) (by rfl) (⟨0, rfl, Nat.zero_le _, fun j hj => absurd hj (Nat.not_lt_zero j)⟩) fun vs hI => ?_
 obtain ⟨i, rfl, hi, hall⟩ := hI
 simp only [maskFr,putAll,List.set_cons_zero,List.set_cons_succ,mkb]
 refine ex_region_w tt_ok 19 (rp 9 0 [2]) [] rfl rfl fun K hK => ?_
 simp only [ltb,go_sem,reduceAdd,reduceLT]
 refine hK _ _ rfl ?_
 simp only [mwb,reduceAdd]
 refine ex_seq ?_
 refine ex_if rfl (fun hc9 => ?_) (fun hc9 => ?_)
 ·have hlt : i < l.length := by simpa using hc9
  have hw := i64_succ i (by omega)
  obtain ⟨x, hx⟩ : ∃ x, l[i]? = some x := ⟨_, List.getElem?_eq_getElem hlt⟩
  have hxb := hlb x (List.mem_of_getElem? hx)
  refine ex_skip ?_
  show Go.Eng.Ex _ _ _ _ _ _
  refine ex_seq ?_
  refine ex_block ?_
  refine ex_region_w tt_ok 19 [0,0,0,0,0,2,0,0,0,0,1] [] rfl rfl fun K hK => ?_
  simp only [ltb,go_sem,reduceAdd,reduceLT]
  refine hK _ _ rfl ?_
  simp only [mwb,reduceAdd,reduceEqDiff]
  refine ex_region_w tt_ok 19 (rp 11 0 [1,1,1,1,1,2]) [] rfl rfl fun K hK => ?_
  try simp only [ltb]
  simp only [List.getElem?_map,hx,encRq,encSet,go_sem,reduceAdd,reduceLT,reduceEqDiff,reduceCtorEq]
  refine callS_ex (by have h := clo34_ok s hs x hxb; simp only [encRq,encSet] at h; exact h) ?_
  rintro _ rfl
  try simp only [go_sem]
  refine hK _ _ rfl ?_
  simp only [mwb,reduceAdd,reduceEqDiff]
  refine ex_if rfl (fun hc16 => ?_) (fun hc16 => ?_)
  ·have hres : decide (0 ≤ (i : Int)) = l.any (fun q => !satS s q) := by rw [any_of hx hc16]; exact decide_eq_true (Int.natCast_nonneg i)
   refine ex_region_w tt_ok 19 (0::0::0::0::2::(rp 12 0 [1])) [] rfl rfl fun K hK => ?_
   simp only [ltb,go_sem,reduceAdd,reduceLT]
   refine hK _ _ rfl ?_
   simp only [mwb,reduceAdd,reduceEqDiff]
   exact ex_ret ⟨.inl rfl, _, ⟨_, rfl, hres⟩, rfl, rfl, rfl⟩
  ·refine ex_skip ?_
   show Go.Eng.Ex _ _ _ _ _ _
   refine ex_last_region_w tt_ok 19 (rp 8 0 (2::(rp 9 0 [2]))) [] (by kernel_rfl) rfl rfl fun K hK => ?_
   try simp only [ltb]
   simp only [hw,go_sem,reduceAdd,reduceLT]
   refine hK _ _ rfl ?_
   simp only [mwb,reduceAdd,reduceEqDiff]
   refine ⟨[_], ?_, ?_, 2, [true,true,false,false,true,false,false,true,true], by omega, by simp only [maskFr,belowV,belowL,reduceLT,mkb], by simp only [List.all_cons,List.all_nil,belowV,belowL,belowB,reduceLT,decide_true,Bool.and_self,List.take_succ_cons,List.take_nil], by simp only [maskFr,putAll,List.set_cons_zero,List.set_cons_succ,mkb]; rfl⟩
   ·refine ⟨i + 1, rfl, hlt, fun j hj => ?_⟩
    rcases Nat.lt_or_ge j i with h | h
    ·exact hall j h
    ·obtain rfl : j = i := by omega
     intro y hy
     rw [hx] at hy; cases hy; exact hc16
   ·simp only [Go.Eng.intOf,List.headD_cons]; omega
 ·have hge : ¬ i < l.length := by simpa using hc9
  have hres : decide (0 ≤ (-1 : Int)) = l.any (fun q => !satS s q) := (any_none fun j hj => hall j (by omega)).symm ▸ rfl
  refine ex_exit ?_
  show Go.Eng.Ex _ _ _ _ _ _
  refine ex_region_w tt_ok 19 [0,0,0,0,2] [] rfl rfl fun K hK => ?_
  simp only [ltb,go_sem,reduceAdd]
  refine hK _ _ rfl ?_
  simp only [mwb,reduceAdd]
  exact ex_ret ⟨.inl rfl, _, ⟨_, rfl, hres⟩, rfl, rfl, rfl⟩
theorem anyQ_34 (s : List Sel) (hs : s.length ≤ 1048576) (l : List Rq) (hl : l.length ≤ 2097152) (hlb : ∀ q ∈ l, RqB q) : ∃ r_, (fun w => w = bl (l.any (fun q => !satS s q))) r_ ∧ FnOkS Tryz.prog 26 [encRqs l, .clo (.func 34) [] [.ptr 1 0]] ([.box [.slice (s.map encSel)], .box [.clo (.func 30) [] [.ptr 0 0]]]) r_ ([.box [.slice (s.map encSel)], .box [.clo (.func 30) [] [.ptr 0 0]]]) := by
 refine fns_ex tt_ok (fn := Tryz.f26) Tryz.func26 rfl Tryz.call26 (rfl) ?_
 simp only [ltb,startSt,Tryz.ntmps26,List.length_cons,List.length_nil,reduceAdd,reduceSub,List.replicate_succ,List.replicate_zero]
 simp only [encRqs]
 refine ex_region_w tt_ok 9 [0,0,0,0,2] [] rfl rfl fun K hK => ?_
 simp only [ltb,go_sem,reduceAdd]
 refine hK _ _ rfl ?_
 simp only [mwb,reduceAdd]
 refine ex_region_w tt_ok 9 [0,0,0,0,2,1,1,1,1] [] rfl rfl fun K hK => ?_
 refine runX_cut 3 fun K1 hK1 => ?_
 simp only [ltb,go_sem,reduceAdd,reduceLT,reduceEqDiff]
 refine callS_ex (by have h := idxQ_34 s hs l hl hlb; simp only [encRqs] at h; exact h) ?_
 rintro _ ⟨k, rfl, hk⟩
 try simp only [go_sem]
 refine hK1 _ ?_
 simp only [ltb,go_sem,reduceAdd,reduceLT,reduceEqDiff]
 refine hK _ _ rfl ?_
 simp only [mwb,reduceAdd,reduceEqDiff]
 exact ex_ret ⟨.inl rfl, _, congrArg bl hk, rfl, rfl, rfl⟩
theorem any34_at (s : List Sel) (hs : s.length ≤ 1048576) (l : List Rq) (hl : l.length ≤ 2097152) (hlb : ∀ q ∈ l, RqB q) (M : List Blk) (k k2 : Nat) (hk : M[k]? = some (.box [.slice (s.map encSel)])) (hk2 : M[k2]? = some (.box [.clo (.func 30) [] [.ptr k 0]])) (hne : k ≠ k2) :
  ∃ r_, (fun w => w = bl (l.any fun q => !satS s q)) r_ ∧ FnOkS Tryz.prog 26 [.slice (l.map encRq), .clo (.func 34) [] [.ptr k2 0]] M r_ M := by
 obtain ⟨r, rfl, h⟩ := anyQ_34 s hs l hl hlb
 have h3 := fnOkS_at2' h M k k2 (by simp [encRqs, belowV, belowL]) (by simp [belowB, belowV, belowL]) (by simp [belowV]) (by simp [belowB, belowV, belowL]) (by simpa [renB, renL, renV, σ2] using hk) (by simpa [renB, renL, renV, σ2] using hk2) hne
 have hM : M.set k (renB (σ2 k k2 M.length) (.box [.slice (s.map encSel)])) = M := set_same (by simpa [renB, renL, renV, σ2] using hk)
 rw [hM] at h3
 exact ⟨_, rfl, by simpa [renL, renV, σ2, encRqs] using h3⟩
end Go.Proofs.YtnfeacnbgbggfaaGreatDoor
end

section
namespace Go.Proofs.YtnfeacnbgbggfaaGreatDoor
open Go.Eng
variable [Glob]
theorem selM_mem {l : List Rl} : ∀ {s : List Sel} {m : List Rl}, selM l s = some m → ∀ r, r ∈ m ↔ ∃ y ∈ s, fnd l y = some r
 | [], m, h, r => by unfold selM at h; simp at h; subst h; simp
 | y :: t, m, h, r => by
  unfold selM at h
  rw [List.mapM_cons] at h
  cases h1 : fnd l y with
  | none => rw [h1] at h; simp at h
  | some r0 =>
   rw [h1] at h
   cases h2 : t.mapM (fnd l) with
   | none => rw [h2] at h; simp at h
   | some m' =>
    rw [h2] at h
    simp at h
    subst h
    rw [List.mem_cons, selM_mem (s := t) h2]
    constructor
    ·rintro (rfl | ⟨z, hz, he⟩)
     ·exact ⟨y, by simp, h1⟩
     ·exact ⟨z, by simp [hz], he⟩
    ·rintro ⟨z, hz, he⟩
     rcases List.mem_cons.1 hz with rfl | hz
     ·rw [h1] at he; cases he; exact .inl rfl
     ·exact .inr ⟨z, hz, he⟩
theorem filter_all {α : Type} {p : α → Bool} : ∀ {l : List α}, l.length ≤ (l.filter p).length → ∀ x ∈ l, p x = true
 | [], _, x, hx => by simp at hx
 | a :: t, h, x, hx => by
  rw [List.filter_cons] at h
  have h2 := List.length_filter_le p t
  split at h
  ·rename_i ha
   rcases List.mem_cons.1 hx with rfl | hx
   ·exact ha
   ·exact filter_all (by simpa using h) x hx
  ·rw [List.length_cons] at h; omega
structure Sol (l : List Rl) (roots : List Rq) (s : List Sel) (m : List Rl) : Prop where
 ix : ixE l = 0
 inc : incr s = true
 sel : selM l s = some m
 reqs : ∀ r ∈ m, ∀ q ∈ r.reqs, brk m q = false
 rts : ∀ q ∈ roots, brk m q = false
 rch : ∀ r ∈ m, Rch m roots r
theorem solve_spec {l : List Rl} {roots : List Rq} {s : List Sel} (h : solveE l roots s = 0) : ∃ m, Sol l roots s m := by
 unfold solveE at h
 by_cases hx : ixE l = 0
 ·rw [if_neg (by simp [hx])] at h
  by_cases hi : incr s = true
  ·rw [if_pos hi] at h
   cases hm : selM l s with
   | none => rw [hm] at h; simp at h
   | some m =>
    rw [hm] at h
    dsimp only at h
    split at h
    ·omega
    ·rename_i hn
     split at h
     ·omega
     ·rename_i hr
      simp only [not_or,Bool.not_eq_true] at hn
      refine ⟨m, hx, hi, hm, fun r hr q hq => ?_, fun q hq => ?_, fun r hr2 => ?_⟩
      ·have h1 := List.any_eq_false.1 hn.1 r hr
       have h2 := List.any_eq_false.1 (by simpa using h1) q hq
       simpa using h2
      ·have := List.any_eq_false.1 hn.2 q hq; simpa using this
      ·have := filter_all (p := fun r => @decide _ (Classical.propDecidable (Rch m roots r))) (by show m.length ≤ (reached m roots).length; omega) r hr2
       exact @of_decide_eq_true _ (Classical.propDecidable _) this
  ·rw [if_neg hi] at h; omega
 ·rw [if_pos hx] at h; omega
variable {l : List Rl} {roots : List Rq} {s : List Sel} {m : List Rl}
theorem Sol.gd (h : Sol l roots s m) : ∀ r ∈ m, r ∈ good l := (selM_spec h.sel).2
theorem Sol.uniq (h : Sol l roots s m) : ∀ a ∈ m, ∀ b ∈ m, a.path = b.path → a = b := paths_uniq (selM_paths h.sel h.inc)
theorem selM_of (h : selM l s = some m) {y : Sel} (hy : y ∈ s) : ∃ r, fnd l y = some r ∧ r ∈ m := by
 rw [← (selM_spec h).1] at hy
 obtain ⟨r, hr, rfl⟩ := List.mem_map.1 hy
 obtain ⟨z, hz, hf⟩ := (selM_mem h r).1 hr
 have := (fnd_some hf).2
 subst this
 exact ⟨r, hf, hr⟩
theorem Sol.reach (h : Sol l roots s m) {y : Sel} (hy : y ∈ s) : ∃ r, fnd l y = some r ∧ r ∈ m ∧ y ∈ (reached (good l) roots).map Rl.key := by
 obtain ⟨r, hf, hr⟩ := selM_of h.sel hy
 refine ⟨r, hf, hr, List.mem_map.2 ⟨r, mem_reached.2 ((h.rch r hr).sub h.gd), (fnd_some hf).2⟩⟩
theorem Sol.sat (h : Sol l roots s m) {q : Rq} (hq : brk m q = false) : satS s q = true := by
 obtain ⟨r, hb, hr, hh⟩ := brk_no (fun r hr => good_ver (h.gd r hr)) hq
 have hv := good_ver (h.gd r hr)
 unfold satS
 refine List.any_eq_true.2 ⟨r.key, ?_, ?_⟩
 ·rw [← (selM_spec h.sel).1]; exact List.mem_map.2 ⟨r, hr, rfl⟩
 ·have hpl : r.ver.pl = r.ver.place := by unfold Ver.pl; rw [if_pos hv]
  unfold satY
  unfold hits at hh
  simp only [Bool.and_eq_true,decide_eq_true_eq] at hh
  show (decide (r.path = q.path) && r.ver.ok && has q.set r.ver.pl) = true
  rw [hv, hpl, hh.2, hh.1]; simp
theorem Sol.less (h : Sol l roots s m) {i : Nat} (hi : i < s.length) : solveE l roots (s.take i ++ s.drop (i + 1)) ≠ 0 := fun h0 => by
 obtain ⟨m', h'⟩ := solve_spec h0
 obtain ⟨y, hy⟩ : ∃ y, s[i]? = some y := ⟨_, List.getElem?_eq_getElem hi⟩
 obtain ⟨r, hf, hr⟩ := selM_of h.sel (List.mem_of_getElem? hy)
 have hsub : ∀ z ∈ s.take i ++ s.drop (i + 1), z ∈ s := fun z hz => by
  rcases List.mem_append.1 hz with hz | hz
  ·exact List.mem_of_mem_take hz
  ·exact List.mem_of_mem_drop hz
 have hmm : ∀ x ∈ m', x ∈ m := fun x hx => by
  obtain ⟨z, hz, he⟩ := (selM_mem h'.sel x).1 hx
  exact (selM_mem h.sel x).2 ⟨z, hsub z hz, he⟩
 have hsol : solved m' roots = true := solved_iff.2 ⟨fun a ha q hq => by
  obtain ⟨b, -, hb, hh⟩ := brk_no (fun r hr => good_ver (h'.gd r hr)) (h'.reqs a ha q hq)
  exact sat_iff.2 ⟨b, hb, hh⟩, fun q hq => by
  obtain ⟨b, -, hb, hh⟩ := brk_no (fun r hr => good_ver (h'.gd r hr)) (h'.rts q hq)
  exact sat_iff.2 ⟨b, hb, hh⟩⟩
 obtain ⟨r', hr', hp⟩ := need_sub hmm h.uniq hsol (rch_need (h.rch r hr))
 have he : r' = r := h.uniq r' (hmm r' hr') r hr hp
 subst he
 have hk : y ∈ s.take i ++ s.drop (i + 1) := by
  rw [← (fnd_some hf).2, ← (selM_spec h'.sel).1]
  exact List.mem_map.2 ⟨r', hr', rfl⟩
 have hlt := incr_lt h.inc
 rcases List.mem_append.1 hk with hk | hk
 ·obtain ⟨j, hj⟩ := List.mem_iff_getElem?.1 hk
  have hjl := (List.getElem?_eq_some_iff.1 hj).1
  rw [List.length_take] at hjl
  rw [List.getElem?_take_of_lt (by omega)] at hj
  have h1 := List.pairwise_iff_getElem.1 hlt j i (by omega) hi (by omega)
  rw [(List.getElem?_eq_some_iff.1 hj).2, (List.getElem?_eq_some_iff.1 hy).2] at h1
  exact List.lt_irrefl _ h1
 ·obtain ⟨j, hj⟩ := List.mem_iff_getElem?.1 hk
  rw [List.getElem?_drop] at hj
  have hjl := (List.getElem?_eq_some_iff.1 hj).1
  have h1 := List.pairwise_iff_getElem.1 hlt i (i + 1 + j) hi hjl (by omega)
  rw [(List.getElem?_eq_some_iff.1 hj).2, (List.getElem?_eq_some_iff.1 hy).2] at h1
  exact List.lt_irrefl _ h1
end Go.Proofs.YtnfeacnbgbggfaaGreatDoor
end

section
namespace Go.Proofs.YtnfeacnbgbggfaaGreatDoor
open Go.Shelf
def laysGrow_ren : Ren := ⟨fun | 4 => 84 | n => n, fun | 22 => 27 | 25 => 54 | n => n, fun n => n⟩
theorem laysGrow : Lays8.n4 Tryz.prog laysGrow_ren := {
 mixed := by kernel_rfl
 f4 := ⟨Tryz.f84.name, by kernel_rfl, Tryz.func84.trans (congrArg some (by kernel_rfl))⟩
 t0 := Tryz.underlying0
 a0 := Tryz.isAgg0
 z0 := Tryz.sizeOf0
 v0 := Tryz.zeroValue0
 t3 := Tryz.underlying3
 a3 := Tryz.isAgg3
 z3 := Tryz.sizeOf3
 v3 := Tryz.zeroValue3
 t4 := Tryz.underlying4
 a4 := Tryz.isAgg4
 z4 := Tryz.sizeOf4
 v4 := Tryz.zeroValue4
 t9 := Tryz.underlying9
 a9 := Tryz.isAgg9
 z9 := Tryz.sizeOf9
 v9 := Tryz.zeroValue9
 t20 := Tryz.underlying20
 a20 := Tryz.isAgg20
 z20 := Tryz.sizeOf20
 v20 := Tryz.zeroValue20
 t22 := Tryz.underlying27
 a22 := Tryz.isAgg27
 z22 := Tryz.sizeOf27
 v22 := Tryz.zeroValue27 }
open Go.Eng Go.RowKit
variable [Glob]
theorem args2 {E : Env} {v u : V} {x y : Value} {xs : Array Value} (hx : RepL E [.sc x, .sc y] xs.toList) : xs = #[x, y] := by
 obtain ⟨a, us, h1, h2, h3⟩ := hx.of_cons
 obtain ⟨b, bs, h4, h5, h6⟩ := h3.of_cons
 have h7 := h6.of_nil
 have e1 := rep_sc h2
 have e2 := rep_sc h5
 subst e1; subst e2; subst h4; subst h7
 rw [← Array.toArray_toList (xs := xs), h1]
theorem grow0_at (M : List Blk) : ∃ r_ m_, (fun r m => r = V.sc (.slice none 0 0) ∧ m = M) r_ m_ ∧ FnOkS Tryz.prog 84 [.sc (.slice none 0 0), num 0] M r_ m_ :=
 ⟨_, _, ⟨rfl, rfl⟩, Tryz.call84, fun E w xs hs hx => by
  obtain rfl := args2 (v := .undef) (u := .undef) hx
  refine Calls.mono (Any8.slices_Grow_room laysGrow none 0 0 0 w (Nat.le_refl _) (by omega) (by omega) (Nat.le_refl _)) ?_
  rintro e w' ⟨rfl, rfl⟩
  exact ⟨E, _, rfl, Evo.refl E w', hs, .sc _ _⟩⟩
theorem grow_at (n : Nat) (h0 : 0 < n) (hn : n ≤ 1048576) (M : List Blk) : ∃ r_ m_, (fun r m => r = V.ms M.length 0 0 0 ∧ m = M ++ [.rows 0 4 []]) r_ m_ ∧ FnOkS Tryz.prog 84 [.sc (.slice none 0 0), num n] M r_ m_ :=
 ⟨_, _, ⟨rfl, rfl⟩, Tryz.call84, fun E w xs hs hx => by
  obtain rfl := args2 (v := .undef) (u := .undef) hx
  obtain ⟨info, i1, i2, i3, z, i4, i5⟩ := tt_ok.size 54 _ tt54
  have hzs : z.cells.size = 4 := by have := congrArg List.length i5; simpa using this
  have hib : info.bytes ≤ 4096 := by rw [i3]; decide
  refine Calls.mono (Any8.slices_Grow_grow laysGrow info z i1 i4 (by rw [i2]; decide) none 0 0 n [] w (Nat.le_refl _) (by omega) (Nat.le_trans (Nat.mul_le_mul (show 0 + n ≤ 1048576 by omega) hib) (by decide)) (by omega) (by simp) (fun _ => rfl) (fun a h => by cases h)) ?_
  rintro e w' ⟨rfl, rfl⟩
  have hge : 0 + n ≤ grownCap w (0 + n) 0 54 := grownCap_ge w _ _ _
  have hsz : ∀ G, 0 + n ≤ G → (([] : List Value).toArray ++ Builtin.zeroCells z.cells (0 + n - 0) ++ Builtin.zeroCells z.cells (G - (0 + n))).size = G * 4 := fun G hG => by
   simp only [Array.size_append,size_zeroCells,hzs,List.size_toArray,List.length_nil]; omega
  obtain ⟨E', h1, h2, h3⟩ := hs.drew.newRows (key := M.length) (.inr rfl) (T := 54) (xs := ([] : List Value).toArray ++ Builtin.zeroCells z.cells (0 + n - 0) ++ Builtin.zeroCells z.cells (grownCap w (0 + n) 0 54 - (0 + n))) (rs := []) (e := 4) (c := grownCap w (0 + n) 0 54) (hsz _ hge) (Nat.zero_le _) (fun i row hi => by simp at hi)
  refine ⟨E', _, rfl, (Evo.drew E w).trans h2, ?_, h3⟩
  have : setMem M M.length (.rows 0 4 []) = M ++ [.rows 0 4 []] := by simp [setMem]
  rw [← this]; exact h1⟩
end Go.Proofs.YtnfeacnbgbggfaaGreatDoor
end

section
namespace Go.Proofs.YtnfeacnbgbggfaaGreatDoor
open Go.Eng
open Nat (reduceAdd reduceLT reduceLeDiff reduceMul reduceEqDiff reduceSub)
variable [Glob]
set_option maxHeartbeats 4000000
set_option maxRecDepth 100000
attribute [local irreducible] runM stepM valD stepOp stepD callF callS
theorem sel_first (l : List Sel) : firstOk (l.map encSel) 0 4 = true := by
 cases l <;> rfl
def lenSum (L : List (List Sel)) : Nat := L.flatten.length
theorem lenSum_snoc {L : List (List Sel)} {i : Nat} {x : List Sel} (h : L[i]? = some x) : (L.take (i + 1)).flatten = (L.take i).flatten ++ x := by
 rw [List.take_add_one, h, List.flatten_append]; simp
theorem concat_ok (L : List (List Sel)) (hL : L.length ≤ 1048576) (hT : L.flatten.length ≤ 1048576) : ∃ r_, (fun w => w = .slice (L.flatten.map encSel)) r_ ∧ FnOk Tryz.prog 33 [.slice (L.map encSels)] r_ := by
 refine fn_ex tt_ok (fn := Tryz.f33) Tryz.func33 rfl Tryz.call33 ?_
 simp only [ltb,startSt,Tryz.ntmps33,List.length_cons,List.length_nil,reduceAdd,reduceSub,List.replicate_succ,List.replicate_zero]
 have htl : ∀ i, (L.take i).flatten.length ≤ L.flatten.length := fun i => by
  conv => rhs; rw [← List.take_append_drop i L]
  rw [List.flatten_append, List.length_append]; omega
 refine ex_region_w tt_ok 36 [0,0,2] [] rfl rfl fun K hK => ?_
 simp only [ltb,go_sem]
 refine hK _ _ rfl ?_
 simp only [mwb,reduceAdd]
 refine ex_region_w tt_ok 36 [0,0,0,2] [] rfl rfl fun K hK => ?_
 simp only [ltb,go_sem]
 refine hK _ _ rfl ?_
 simp only [mwb,reduceAdd]
 refine ex_seq ?_
 refine ex_region_w tt_ok 36 (rp 9 0 [2,2,2]) [] rfl rfl fun K hK => ?_
 try simp only [ltb]
 simp only [List.length_map,go_sem,reduceLT]
 refine hK _ _ rfl ?_
 simp only [mwb,reduceAdd,reduceEqDiff]
 refine ex_block ?_
 refine ex_loopF (fun i : Nat => { fr := [.slice (L.map encSels), .undef, .undef, num ((L.take i).flatten.length : Int), .undef, .undef, .undef, .undef, .undef, .slice (L.map encSels), num L.length, num i, .undef, .undef, .undef, .undef, .undef, .undef, .undef, .undef, .undef, .undef, .undef, .undef, .undef, .undef, .undef, .undef, .undef, .undef, .undef, .undef, .undef, .undef, .undef, .undef], mem := [] }) (fun i => L.length - i) (fun i => i ≤ L.length) (0) 0 [true,false,false,true,false,false,false,false,false,true,true,true] (by omega) (by simp only [maskFr,belowV,mkb]) (by simp only [List.all_nil,List.take_nil]) (by simp only [maskFr,List.flatten_nil,List.length_nil,mkb] <;> rfl) (Nat.zero_le _) ?_
 intro i hi
 refine ex_region_w tt_ok 36 (rp 12 0 [2]) [] rfl rfl fun K hK => ?_
 simp only [ltb,go_sem,reduceLT]
 refine hK _ _ rfl ?_
 simp only [mwb,reduceAdd]
 refine ex_seq ?_
 refine ex_if rfl (fun hc12 => ?_) (fun hc12 => ?_)
 ·have hlt : i < L.length := by simpa using hc12
  have hw := i64_succ i (by omega)
  obtain ⟨x, hx⟩ : ∃ x, L[i]? = some x := ⟨_, List.getElem?_eq_getElem hlt⟩
  have hft := lenSum_snoc hx
  have h1 := htl (i + 1)
  rw [hft, List.length_append] at h1
  have hwt := i64_add (L.take i).flatten.length x.length (by omega)
  refine ex_skip ?_
  show Go.Eng.Ex _ _ _ _ _ _
  refine ex_seq ?_
  refine ex_block ?_
  refine ex_region_w tt_ok 36 [0,0,0,0,0,2,0,0,0,0,0,0,0,1,1] [] rfl rfl fun K hK => ?_
  try simp only [ltb]
  simp only [List.getElem?_map,hx,Option.map_some,encSels,go_sem,reduceLT,reduceEqDiff]
  refine hK _ _ rfl ?_
  simp only [mwb,reduceAdd,reduceEqDiff]
  refine ex_region_w tt_ok 36 (0::0::0::2::(rp 11 0 [1,1,1,1])) [] rfl rfl fun K hK => ?_
  try simp only [ltb]
  simp only [hwt,List.length_map,go_sem,reduceLT,reduceEqDiff]
  refine hK _ _ rfl ?_
  simp only [mwb,reduceAdd,reduceEqDiff]
  refine ex_region_w tt_ok 36 (rp 19 0 [1,2]) [] rfl rfl fun K hK => ?_
  simp only [ltb,go_sem,reduceLT]
  refine hK _ _ rfl ?_
  simp only [mwb,reduceAdd,reduceEqDiff]
  refine ex_if rfl (fun hc20 => ?_) (fun hc20 => ?_)
  ·exact absurd (of_decide_eq_true hc20) (by omega)
  ·refine ex_skip ?_
   show Go.Eng.Ex _ _ _ _ _ _
   refine ex_last_region_w tt_ok 36 (rp 11 0 (2::(rp 10 0 [2]))) [] (by kernel_rfl) rfl rfl fun K hK => ?_
   try simp only [ltb]
   simp only [hw,go_sem,reduceLT]
   refine hK _ _ rfl ?_
   simp only [mwb,reduceAdd,reduceEqDiff]
   refine ⟨i + 1, ?_, ?_, 0, [true,false,false,true,false,false,false,false,false,true,true,true], by omega, by simp only [maskFr,belowV,mkb], by simp only [List.all_nil,List.take_nil], by (simp only [hft,List.length_append,maskFr,mkb])⟩
   ·exact hlt
   ·omega
 ·have hge : ¬ i < L.length := by simpa using hc12
  have hil : i = L.length := by omega
  subst hil
  rw [List.take_length]
  refine ex_exit ?_
  show Go.Eng.Ex _ _ _ _ _ _
  rcases Nat.eq_zero_or_pos L.flatten.length with hz | hz
  ·rw [hz]
   refine ex_region_w tt_ok 36 (0::0::0::0::0::0::2::(rp 16 0 [1,1])) [] rfl rfl fun K hK => ?_
   refine runX_cut 2 fun K1 hK1 => ?_
   simp only [ltb,go_sem,reduceLT]
   refine callF_w (grow0_at _) ?_
   rintro _ _ ⟨rfl, rfl⟩
   try simp only [go_sem]
   refine hK1 _ ?_
   simp only [ltb,go_sem,reduceLT,reduceEqDiff]
   refine hK _ _ rfl ?_
   simp only [mwb,reduceAdd,reduceEqDiff]
   refine ex_nilMs 6 0 4 rfl ?_
   simp only [List.set_cons_zero,List.set_cons_succ,List.length_nil,List.nil_append]
   refine ex_seq ?_
   refine ex_region_w tt_ok 36 (rp 25 0 [2,2,2]) [] rfl rfl fun K hK => ?_
   try simp only [ltb]
   simp only [List.length_map,go_sem,reduceLT]
   refine hK _ _ rfl ?_
   simp only [mwb,reduceAdd,reduceEqDiff]
   refine ex_block ?_
   refine ex_loopF (fun i : Nat => { fr := [.undef, .undef, .undef, .undef, .undef, .undef, .ms 0 i 0 (L.take i).flatten.length, .undef, .undef, .undef, .undef, .undef, .undef, .undef, .undef, .undef, .undef, .undef, .undef, .undef, .undef, .undef, .undef, .undef, .undef, .slice (L.map encSels), num L.length, num i, .undef, .undef, .undef, .undef, .undef, .undef, .undef, .undef], mem := [.rows i 4 ((L.take i).flatten.map encSel)] }) (fun i => L.length - i) (fun i => i ≤ L.length) (0) 1 (false::false::false::false::false::false::true::(rp 18 false [true,true,true])) (by omega) (by simp only [maskFr,belowV,reduceLT,mkb]) (by simp only [List.all_cons,List.all_nil,belowB,Bool.and_self,List.take_succ_cons,List.take_nil]) (by simp only [maskFr,List.flatten_nil,List.length_nil,List.map_nil,mkb] <;> rfl) (Nat.zero_le _) ?_
   intro i hi
   refine ex_region_w tt_ok 36 (rp 28 0 [2]) [] rfl rfl fun K hK => ?_
   simp only [ltb,go_sem,reduceLT]
   refine hK _ _ rfl ?_
   simp only [mwb,reduceAdd]
   refine ex_seq ?_
   refine ex_if rfl (fun hc28 => ?_) (fun hc28 => ?_)
   ·have hlt : i < L.length := by simpa using hc28
    have hw := i64_succ i (by omega)
    obtain ⟨x, hx⟩ : ∃ x, L[i]? = some x := ⟨_, List.getElem?_eq_getElem hlt⟩
    have hft := lenSum_snoc hx
    have h1 := htl (i + 1)
    rw [hft, List.length_append] at h1
    have hfo := sel_first x
    have hbd : (L.take i).flatten.length + x.length ≤ 34359738368 := by omega
    refine ex_skip ?_
    show Go.Eng.Ex _ _ _ _ _ _
    refine ex_seq ?_
    refine ex_block ?_
    refine ex_region_w tt_ok 36 (rp 8 0 (2::(rp 20 0 [1,1]))) [] rfl rfl fun K hK => ?_
    try simp only [ltb]
    simp only [List.getElem?_map,hx,Option.map_some,encSels,go_sem,reduceLT,reduceEqDiff]
    refine hK _ _ rfl ?_
    simp only [mwb,reduceAdd,reduceEqDiff]
    refine ex_last_region_w tt_ok 36 (0::0::0::0::0::0::2::(rp 24 0 [2,2,2])) [] (by kernel_rfl) rfl rfl fun K hK => ?_
    try simp only [ltb]
    simp only [hfo,hbd,List.length_map,go_sem,reduceAdd,reduceLT,reduceLeDiff,reduceEqDiff]
    refine hK _ _ rfl ?_
    simp only [mwb,reduceAdd,reduceEqDiff]
    show Go.Eng.Ex _ _ _ _ _ _
    refine ex_last_region_w tt_ok 36 (rp 27 0 [2,0,0,0,0,0,0,2]) [] (by kernel_rfl) rfl rfl fun K hK => ?_
    try simp only [ltb]
    simp only [hw,go_sem,reduceLT]
    refine hK _ _ rfl ?_
    simp only [mwb,reduceAdd,reduceEqDiff]
    refine ⟨i + 1, ?_, ?_, 1, (false::false::false::false::false::false::true::(rp 18 false [true,true,true])), by omega, by simp only [maskFr,belowV,reduceLT,mkb], by simp only [List.all_cons,List.all_nil,belowB,Bool.and_self,List.take_succ_cons,List.take_nil], by (simp only [hft,List.length_append,List.map_append,List.length_map,maskFr,mkb])⟩
    ·exact hlt
    ·omega
   ·have hge2 : ¬ i < L.length := by simpa using hc28
    have hil2 : i = L.length := by omega
    subst hil2
    rw [List.take_length]
    obtain ⟨T, hT2⟩ : ∃ T, T = L.flatten := ⟨_, rfl⟩
    rw [← hT2]
    refine ex_frz (v' := .slice (T.map encSel)) 6 rfl (by simp [pur1, purCell, List.take_of_length_le]) ?_
    simp only [ref1,refCell,frzAll,frz1,List.foldl_cons,List.foldl_nil,List.getElem?_cons_zero,if_true,List.set_cons_zero,List.set_cons_succ]
    refine ex_exit ?_
    show Go.Eng.Ex _ _ _ _ _ _
    refine ex_region_w tt_ok 36 (0::0::2::(rp 32 0 [1])) [] rfl rfl fun K hK => ?_
    simp only [ltb,go_sem,reduceLT]
    refine hK _ _ rfl ?_
    simp only [mwb,reduceAdd,reduceEqDiff]
    exact ex_ret ⟨.inl rfl, _, rfl, rfl⟩
  ·refine ex_region_w tt_ok 36 (0::0::0::0::0::0::2::(rp 16 0 [1,1])) [] rfl rfl fun K hK => ?_
   refine runX_cut 2 fun K1 hK1 => ?_
   simp only [ltb,go_sem,reduceLT]
   refine callF_w (grow_at L.flatten.length (by omega) (by omega) _) ?_
   rintro _ _ ⟨rfl, rfl⟩
   try simp only [go_sem]
   try simp only [ltb,List.length_cons,List.length_nil,reduceAdd]
   refine hK1 _ ?_
   simp only [ltb,go_sem,reduceLT,reduceEqDiff]
   refine hK _ _ rfl ?_
   simp only [mwb,reduceAdd,reduceEqDiff]
   refine ex_seq ?_
   refine ex_region_w tt_ok 36 (rp 25 0 [2,2,2]) [] rfl rfl fun K hK => ?_
   try simp only [ltb]
   simp only [List.length_map,go_sem,reduceLT]
   refine hK _ _ rfl ?_
   simp only [mwb,reduceAdd,reduceEqDiff]
   refine ex_block ?_
   refine ex_loopF (fun i : Nat => { fr := [.undef, .undef, .undef, .undef, .undef, .undef, .ms 0 i 0 (L.take i).flatten.length, .undef, .undef, .undef, .undef, .undef, .undef, .undef, .undef, .undef, .undef, .undef, .undef, .undef, .undef, .undef, .undef, .undef, .undef, .slice (L.map encSels), num L.length, num i, .undef, .undef, .undef, .undef, .undef, .undef, .undef, .undef], mem := [.rows i 4 ((L.take i).flatten.map encSel)] }) (fun i => L.length - i) (fun i => i ≤ L.length) (0) 1 (false::false::false::false::false::false::true::(rp 18 false [true,true,true])) (by omega) (by simp only [maskFr,belowV,reduceLT,mkb]) (by simp only [List.all_cons,List.all_nil,belowB,Bool.and_self,List.take_succ_cons,List.take_nil]) (by simp only [maskFr,List.flatten_nil,List.length_nil,List.map_nil,mkb] <;> rfl) (Nat.zero_le _) ?_
   intro i hi
   refine ex_region_w tt_ok 36 (rp 28 0 [2]) [] rfl rfl fun K hK => ?_
   simp only [ltb,go_sem,reduceLT]
   refine hK _ _ rfl ?_
   simp only [mwb,reduceAdd]
   refine ex_seq ?_
   refine ex_if rfl (fun hc28 => ?_) (fun hc28 => ?_)
   ·have hlt : i < L.length := by simpa using hc28
    have hw := i64_succ i (by omega)
    obtain ⟨x, hx⟩ : ∃ x, L[i]? = some x := ⟨_, List.getElem?_eq_getElem hlt⟩
    have hft := lenSum_snoc hx
    have h1 := htl (i + 1)
    rw [hft, List.length_append] at h1
    have hfo := sel_first x
    have hbd : (L.take i).flatten.length + x.length ≤ 34359738368 := by omega
    refine ex_skip ?_
    show Go.Eng.Ex _ _ _ _ _ _
    refine ex_seq ?_
    refine ex_block ?_
    refine ex_region_w tt_ok 36 (rp 8 0 (2::(rp 20 0 [1,1]))) [] rfl rfl fun K hK => ?_
    try simp only [ltb]
    simp only [List.getElem?_map,hx,Option.map_some,encSels,go_sem,reduceLT,reduceEqDiff]
    refine hK _ _ rfl ?_
    simp only [mwb,reduceAdd,reduceEqDiff]
    refine ex_last_region_w tt_ok 36 (0::0::0::0::0::0::2::(rp 24 0 [2,2,2])) [] (by kernel_rfl) rfl rfl fun K hK => ?_
    try simp only [ltb]
    simp only [hfo,hbd,List.length_map,go_sem,reduceAdd,reduceLT,reduceLeDiff,reduceEqDiff]
    refine hK _ _ rfl ?_
    simp only [mwb,reduceAdd,reduceEqDiff]
    show Go.Eng.Ex _ _ _ _ _ _
    refine ex_last_region_w tt_ok 36 (rp 27 0 [2,0,0,0,0,0,0,2]) [] (by kernel_rfl) rfl rfl fun K hK => ?_
    try simp only [ltb]
    simp only [hw,go_sem,reduceLT]
    refine hK _ _ rfl ?_
    simp only [mwb,reduceAdd,reduceEqDiff]
    refine ⟨i + 1, ?_, ?_, 1, (false::false::false::false::false::false::true::(rp 18 false [true,true,true])), by omega, by simp only [maskFr,belowV,reduceLT,mkb], by simp only [List.all_cons,List.all_nil,belowB,Bool.and_self,List.take_succ_cons,List.take_nil], by (simp only [hft,List.length_append,List.map_append,List.length_map,maskFr,mkb])⟩
    ·exact hlt
    ·omega
   ·have hge2 : ¬ i < L.length := by simpa using hc28
    have hil2 : i = L.length := by omega
    subst hil2
    rw [List.take_length]
    obtain ⟨T, hT2⟩ : ∃ T, T = L.flatten := ⟨_, rfl⟩
    rw [← hT2]
    refine ex_frz (v' := .slice (T.map encSel)) 6 rfl (by simp [pur1, purCell, List.take_of_length_le]) ?_
    simp only [ref1,refCell,frzAll,frz1,List.foldl_cons,List.foldl_nil,List.getElem?_cons_zero,if_true,List.set_cons_zero,List.set_cons_succ]
    refine ex_exit ?_
    show Go.Eng.Ex _ _ _ _ _ _
    refine ex_region_w tt_ok 36 (0::0::2::(rp 32 0 [1])) [] rfl rfl fun K hK => ?_
    simp only [ltb,go_sem,reduceLT]
    refine hK _ _ rfl ?_
    simp only [mwb,reduceAdd,reduceEqDiff]
    exact ex_ret ⟨.inl rfl, _, rfl, rfl⟩
end Go.Proofs.YtnfeacnbgbggfaaGreatDoor
end

section
namespace Go.Proofs.YtnfeacnbgbggfaaGreatDoor
open Go.Eng
open Nat (reduceAdd reduceLT reduceLeDiff reduceMul reduceEqDiff reduceSub)
variable [Glob]
set_option maxHeartbeats 4000000
set_option maxRecDepth 100000
attribute [local irreducible] runM stepM valD stepOp stepD callF callS
theorem sel_firstAt (l : List Sel) (k : Nat) : firstOk (l.map encSel) k 4 = true := by
 unfold firstOk
 rw [List.getElem?_map]
 cases l[k]? <;> rfl
theorem solutions_ok (hG : Glob.g = some 0) (haw : FnOk Tryz.prog 9 [] (bl true)) (l : List Rl) (I : List V) (hb : IxB l) (roots : List Rq) (hr : roots.length ≤ 1048576) (hrb : ∀ q ∈ roots, RqB q) (s : List Sel) (hs : s.length ≤ 1048576) : ∃ r_, (fun w => w = bl (true)) r_ ∧ FnOk Tryz.prog 7 [encIx l I, encRqs roots, encSels s] r_ := by
 refine fn_ex tt_ok (fn := Tryz.f7) Tryz.func7 rfl Tryz.call7 ?_
 simp only [ltb,startSt,Tryz.ntmps7,List.length_cons,List.length_nil,reduceAdd,reduceSub,List.replicate_succ,List.replicate_zero]
 simp only [encIx,encRls,encRqs,encSels]
 have hman : ∀ (mem : List Blk) (ks : List (Nat × Nat)) (n : Int), memAfter mem ks (num n) = mem := fun _ _ _ => rfl
 have hmab : ∀ (mem : List Blk) (ks : List (Nat × Nat)) (b : Bool), memAfter mem ks (bl b) = mem := fun _ _ _ => rfl
 refine ex_region_w tt_ok 94 [0,0,0,2,0,2,2] [] rfl rfl fun K hK => ?_
 simp only [ltb,go_sem,reduceLT,reduceEqDiff]
 refine hK _ _ rfl ?_
 simp only [mwb,reduceAdd,reduceEqDiff]
 refine ex_seq ?_
 refine ex_region_w tt_ok 94 (rp 15 0 [1,2]) [] rfl rfl fun K hK => ?_
 refine runX_cut 1 fun K1 hK1 => ?_
 simp only [ltb,go_sem,reduceAdd]
 refine callF_ex (⟨_, rfl, haw⟩) ?_
 rintro _ rfl
 try simp only [hmab,go_sem]
 refine hK1 _ ?_
 simp only [ltb,go_sem,reduceAdd,reduceLT]
 refine hK _ _ rfl ?_
 simp only [mwb,reduceAdd,reduceEqDiff]
 refine ex_if rfl (fun hc16 => ?_) (fun hc16 => ?_)
 ·exact absurd hc16 (by simp)
 ·refine ex_skip ?_
  show Go.Eng.Ex _ _ _ _ _ _
  refine ex_seq ?_
  refine ex_region_w tt_ok 94 (rp 17 0 (rp 13 1 [2])) [(4, 21), (9, 26)] rfl rfl fun K hK => ?_
  refine runX_cut 3 fun K1 hK1 => ?_
  simp only [ltb,go_sem,reduceAdd,reduceLT,reduceLeDiff,reduceEqDiff]
  refine callF_ex (by have h := fewR_ok l 30 hb; simp only [encRls] at h; exact h) ?_
  rintro _ rfl
  try simp only [hmab,go_sem]
  refine hK1 _ ?_
  refine runX_cut 2 fun K1 hK1 => ?_
  simp only [ltb,go_sem,reduceAdd,reduceLT,reduceEqDiff]
  refine hK1 _ ?_
  refine runX_case 21 (by rfl) fun b hb3_4 => ?_
  cases b
  ·refine runX_cut 2 fun K1 hK1 => ?_
   simp only [ltb,go_sem,reduceAdd,reduceLT,reduceEqDiff]
   refine callF_ex (by have h := fewQ_ok roots (by omega); simp only [encRqs] at h; exact h) ?_
   rintro _ rfl
   try simp only [hmab,go_sem]
   refine hK1 _ ?_
   refine runX_cut 3 fun K1 hK1 => ?_
   simp only [ltb,go_sem,reduceAdd,reduceLT,reduceEqDiff]
   refine hK1 _ ?_
   refine runX_case 26 (by rfl) fun b hb3_9 => ?_
   cases b
   ·try simp only [ltb]
    simp only [List.length_map,go_sem,reduceAdd,reduceLT,reduceEqDiff]
    refine hK _ _ rfl ?_
    simp only [mwb,reduceAdd,reduceEqDiff]
    refine ex_if rfl (fun hc30 => ?_) (fun hc30 => ?_)
    ·refine ex_region_w tt_ok 94 [0,0,0,0,0,0,2] [] rfl rfl fun K hK => ?_
     simp only [ltb,go_sem,reduceAdd]
     refine hK _ _ rfl ?_
     simp only [mwb,reduceAdd]
     exact ex_ret ⟨.inl rfl, _, rfl, rfl⟩
    ·refine ex_skip ?_
     show Go.Eng.Ex _ _ _ _ _ _
     refine ex_seq ?_
     refine ex_region_w tt_ok 94 (rp 31 0 [1,1,1,1,2]) [] rfl rfl fun K hK => ?_
     refine runX_cut 4 fun K1 hK1 => ?_
     simp only [ltb,go_sem,reduceAdd,reduceLT,reduceEqDiff]
     refine callF_ex (by have h := solves_ok hG l I hb roots hr hrb s hs; simp only [encIx,encRls,encRqs,encSels] at h; exact ⟨_, rfl, h⟩) ?_
     rintro _ rfl
     try simp only [hman,go_sem]
     refine hK1 _ ?_
     simp only [ltb,go_sem,reduceAdd,reduceLT,reduceEqDiff]
     refine hK _ _ rfl ?_
     simp only [mwb,reduceAdd,reduceEqDiff]
     refine ex_if rfl (fun hc35 => ?_) (fun hc35 => ?_)
     ·refine ex_region_w tt_ok 94 [0,0,0,0,0,0,2] [] rfl rfl fun K hK => ?_
      simp only [ltb,go_sem,reduceAdd]
      refine hK _ _ rfl ?_
      simp only [mwb,reduceAdd]
      exact ex_ret ⟨.inl rfl, _, rfl, rfl⟩
     ·have hsv : solveE l roots s = 0 := by simpa using hc35
      obtain ⟨m, hm⟩ := solve_spec hsv
      obtain ⟨RL, hRL⟩ : ∃ x, x = reached (good l) roots := ⟨_, rfl⟩
      have hRLl : RL.length ≤ 1048576 := by rw [hRL]; unfold reached; exact Nat.le_trans (List.length_filter_le _ _) (by have := good_len l; omega)
      refine ex_skip ?_
      show Go.Eng.Ex _ _ _ _ _ _
      refine ex_region_w tt_ok 94 (0::0::0::0::0::0::0::2::(rp 28 0 [1])) [] rfl rfl fun K hK => ?_
      simp only [ltb,go_sem,reduceAdd,reduceLT,reduceEqDiff]
      refine hK _ _ rfl ?_
      simp only [mwb,reduceAdd,reduceEqDiff]
      refine ex_region_w tt_ok 94 (rp 8 0 (2::(rp 28 0 [1,1,1]))) [] rfl rfl fun K hK => ?_
      refine runX_cut 3 fun K1 hK1 => ?_
      simp only [ltb,go_sem,reduceAdd,reduceLT,reduceEqDiff]
      refine callF_ex (by have h := reach_ok hG l I hb roots hr hrb; rw [← hRL] at h; simp only [encIx,encRls,encRqs,encSels] at h; exact ⟨_, rfl, h⟩) ?_
      rintro _ rfl
      try simp only [go_sem]
      refine hK1 _ ?_
      simp only [ltb,go_sem,reduceAdd,reduceLT,reduceEqDiff]
      refine hK _ _ rfl ?_
      simp only [mwb,reduceAdd,reduceEqDiff]
      refine ex_seq ?_
      refine ex_region_w tt_ok 94 (rp 40 0 [2,2,2]) [] rfl rfl fun K hK => ?_
      try simp only [ltb]
      simp only [List.length_map,go_sem,reduceAdd,reduceLT]
      refine hK _ _ rfl ?_
      simp only [mwb,reduceAdd,reduceEqDiff]
      refine ex_block ?_
      refine ex_loopF (fun i : Nat => { fr := [.undef, .slice (roots.map encRq), .undef, .ptr 0 0, .undef, .ptr 1 0, .undef, .ptr 2 0, .slice ((RL.map Rl.key).map encSel), .undef, .undef, .undef, .undef, .undef, .undef, .undef, .undef, .undef, .undef, .undef, .undef, .undef, .undef, .undef, .undef, .undef, .undef, .undef, .undef, .undef, .undef, .undef, .undef, .undef, .undef, .undef, .undef, .undef, .undef, .undef, .slice (s.map encSel), num s.length, num i, .undef, .undef, .undef, .undef, .undef, .undef, .undef, .undef, .undef, .undef, .undef, .undef, .undef, .undef, .undef, .undef, .undef, .undef, .undef, .undef, .undef, .undef, .undef, .undef, .undef, .undef, .undef, .undef, .undef, .undef, .undef, .undef, .undef, .undef, .undef, .undef, .undef, .undef, .undef, .undef, .undef, .undef, .undef, .undef, .undef, .undef, .undef, .undef, .undef, .undef, .undef], mem := [.box [.slice (l.map encRl), .slice I], .box [.slice (s.map encSel)], .box [.clo (.func 30) [] [.ptr 1 0]]] }) (fun i => s.length - i) (fun i => i ≤ s.length) (0) 3 (false::true::false::true::false::true::false::true::true::(rp 31 false [true,true,true])) (by omega) (by simp only [maskFr,belowV,reduceLT,mkb]) (by simp only [List.all_cons,List.all_nil,belowV,belowL,belowB,reduceLT,decide_true,Bool.and_self,List.take_succ_cons,List.take_nil]) (by simp only [maskFr,mkb] <;> rfl) (Nat.zero_le _) ?_
      intro i hi
      refine ex_region_w tt_ok 94 (rp 43 0 [2]) [] rfl rfl fun K hK => ?_
      simp only [ltb,go_sem,reduceAdd,reduceLT]
      refine hK _ _ rfl ?_
      simp only [mwb,reduceAdd]
      refine ex_seq ?_
      refine ex_if rfl (fun hc43 => ?_) (fun hc43 => ?_)
      ·have hlt : i < s.length := by simpa using hc43
       rw [hc43]
       have hw := i64_succ i (by omega)
       obtain ⟨y, hx⟩ : ∃ y, s[i]? = some y := ⟨_, List.getElem?_eq_getElem hlt⟩
       obtain ⟨r, hf0, hrm, hin0⟩ := hm.reach (List.mem_of_getElem? hx)
       have hf : fnd l ⟨y.path, y.ver⟩ = some r := hf0
       have hin : decide (y ∈ RL.map Rl.key) = true := decide_eq_true (hRL ▸ hin0)
       have hrg := hm.gd r hrm
       have hrb2 := (hb.2 r (good_mem hrg)).2.2
       have hrl := good_reqs hrg
       have hltI : (i : Int) < (s.length : Int) := by omega
       have hcut1 : ∀ mem : List Blk, cutAt mem 4 0 (some (i : Int)) (.slice (s.map encSel)) = some (.slice ((s.take i).map encSel)) := fun mem => by
        unfold cutAt
        have hfo : firstOk (s.map encSel) 0 4 = true := sel_first s
        simp [hfo, List.map_take]; omega
       have hcut2 : ∀ mem : List Blk, cutAt mem 4 ((i + 1 : Nat) : Int) none (.slice (s.map encSel)) = some (.slice ((s.drop (i + 1)).map encSel)) := fun mem => by
        unfold cutAt
        have hfo : firstOk (s.map encSel) (i + 1) 4 = true := sel_firstAt s (i + 1)
        dsimp only [Option.getD_none]
        rw [if_pos ⟨by omega, by simp; omega, by simp, by rw [Int.toNat_natCast]; exact hfo⟩, Int.toNat_natCast]
        rw [List.map_drop, List.take_of_length_le (by simp; omega)]
       have hne := hm.less hlt
       have hdne : decide (solveE l roots (s.take i ++ s.drop (i + 1)) = 0) = false := decide_eq_false hne
       refine ex_skip ?_
       show Go.Eng.Ex _ _ _ _ _ _
       refine ex_seq ?_
       refine ex_block ?_
       refine ex_region_w tt_ok 94 (rp 9 0 (2::2::(rp 33 0 [1,1,1]))) [] rfl rfl fun K hK => ?_
       try simp only [ltb]
       simp only [List.getElem?_map,hx,Option.map_some,encSel,Int.natCast_nonneg,go_sem,reduceAdd,reduceLT,reduceEqDiff]
       refine hK _ _ rfl ?_
       simp only [mwb,reduceAdd,reduceEqDiff]
       refine ex_region_w tt_ok 94 (rp 11 0 (2::2::(rp 34 0 (rp 9 1 [])))) [] rfl rfl fun K hK => ?_
       refine runX_cut 6 fun K1 hK1 => ?_
       simp only [ltb,go_sem,reduceAdd,reduceLT,reduceLeDiff,reduceEqDiff]
       refine callF_ex (by have h := find_ok hG l I hb y.path y.ver; rw [hf] at h; simp only [encIx,encRls,encVer,Option.getD_some,Option.isSome_some,encRl,rlCells,encRqs] at h; exact h) ?_
       rintro _ rfl
       try simp only [go_sem]
       refine hK1 _ ?_
       simp only [ltb,go_sem,reduceAdd,reduceLT,reduceEqDiff]
       refine hK _ _ rfl ?_
       simp only [mwb,reduceAdd,reduceEqDiff]
       refine ex_seq ?_
       refine ex_region_w tt_ok 94 (rp 56 0 [1,1,1,1,1,1,1,2]) [(2, 58)] rfl rfl fun K hK => ?_
       refine runX_cut 3 fun K1 hK1 => ?_
       simp only [ltb,go_sem,reduceAdd,reduceLT,reduceEqDiff]
       refine hK1 _ ?_
       refine runX_case 58 (by rfl) fun b hb13_2 => ?_
       cases b
       ·refine runX_cut 3 fun K1 hK1 => ?_
        simp only [ltb,go_sem,reduceAdd,reduceLT,reduceEqDiff]
        refine callF_ex (by have h := scont_ok (RL.map Rl.key) y (by rw [List.length_map]; exact hRLl); rw [hin] at h; simp only [encSels,encSel] at h; exact h) ?_
        rintro _ rfl
        try simp only [hmab,go_sem]
        refine hK1 _ ?_
        simp only [ltb,go_sem,reduceAdd,reduceLT,reduceEqDiff]
        refine hK _ _ rfl ?_
        simp only [mwb,reduceAdd,reduceEqDiff]
        refine ex_if rfl (fun hc63 => ?_) (fun hc63 => ?_)
        ·exact absurd hc63 (by simp)
        ·refine ex_skip ?_
         show Go.Eng.Ex _ _ _ _ _ _
         refine ex_seq ?_
         refine ex_region_w tt_ok 94 (rp 64 0 [1,2,2,2]) [] rfl rfl fun K hK => ?_
         try simp only [ltb]
         simp only [List.length_map,go_sem,reduceAdd,reduceLT,reduceLeDiff,reduceEqDiff]
         refine hK _ _ rfl ?_
         simp only [mwb,reduceAdd,reduceEqDiff]
         refine ex_block ?_
         refine ex_loopF (fun j : Nat => { fr := [.undef, .slice (roots.map encRq), .undef, .ptr 0 0, .undef, .ptr 1 0, .undef, .ptr 2 0, .slice ((RL.map Rl.key).map encSel), num i, .undef, .undef, .undef, .undef, .undef, .undef, .undef, .undef, .undef, .undef, .undef, .undef, .undef, .undef, .undef, .undef, .undef, .undef, .undef, .undef, .undef, .undef, .undef, .undef, .undef, .undef, .undef, .undef, .undef, .undef, .slice (s.map encSel), num s.length, num i, .undef, .undef, .undef, .undef, .undef, .undef, .undef, .undef, .undef, .undef, .undef, .undef, .undef, .undef, .undef, .undef, .undef, .undef, .undef, .undef, .undef, .undef, .slice (r.reqs.map encRq), num r.reqs.length, num j, .undef, .undef, .undef, .undef, .undef, .undef, .undef, .undef, .undef, .undef, .undef, .undef, .undef, .undef, .undef, .undef, .undef, .undef, .undef, .undef, .undef, .undef, .undef, .undef, .undef, .undef], mem := [.box [.slice (l.map encRl), .slice I], .box [.slice (s.map encSel)], .box [.clo (.func 30) [] [.ptr 1 0]], .box [str y.path, num y.ver.mj, num y.ver.mn, num y.ver.pt], .box [str r.path, num r.ver.mj, num r.ver.mn, num r.ver.pt, .slice (r.reqs.map encRq), str r.ar, str r.itf, str r.ce, bl r.yk]] }) (fun j => r.reqs.length - j) (fun j => j ≤ r.reqs.length) (0) 5 (false::true::false::true::false::true::false::true::true::true::(rp 30 false (true::true::true::(rp 22 false [true,true,true])))) (by omega) (by simp only [maskFr,belowV,reduceLT,mkb]) (by simp only [List.all_cons,List.all_nil,belowV,belowL,belowB,reduceLT,decide_true,Bool.and_self,List.take_succ_cons,List.take_nil]) (by simp only [maskFr,mkb] <;> rfl) (Nat.zero_le _) ?_
         intro j hj
         refine ex_region_w tt_ok 94 (rp 68 0 [2]) [] rfl rfl fun K hK => ?_
         simp only [ltb,go_sem,reduceAdd,reduceLT]
         refine hK _ _ rfl ?_
         simp only [mwb,reduceAdd]
         refine ex_seq ?_
         refine ex_if rfl (fun hc68 => ?_) (fun hc68 => ?_)
         ·have hlt2 : j < r.reqs.length := by simpa using hc68
          rw [hc68]
          have hw2 := i64_succ j (by omega)
          obtain ⟨q, hxq⟩ : ∃ q, r.reqs[j]? = some q := ⟨_, List.getElem?_eq_getElem hlt2⟩
          have hqm := List.mem_of_getElem? hxq
          have hqb := hrb2 q hqm
          have hsat := hm.sat (hm.reqs r hrm q hqm)
          refine ex_skip ?_
          show Go.Eng.Ex _ _ _ _ _ _
          refine ex_seq ?_
          refine ex_block ?_
          refine ex_region_w tt_ok 94 (rp 14 0 (2::(rp 54 0 [1,1]))) [] rfl rfl fun K hK => ?_
          try simp only [ltb]
          simp only [List.getElem?_map,Option.map_some,Int.natCast_nonneg,List.getElem?_map,hxq,Option.map_some,encRq,encSet,go_sem,reduceAdd,reduceLT,reduceEqDiff]
          refine hK _ _ rfl ?_
          simp only [mwb,reduceAdd,reduceEqDiff]
          refine ex_region_w tt_ok 94 (rp 71 0 [1,1,1,2]) [] rfl rfl fun K hK => ?_
          refine runX_cut 3 fun K1 hK1 => ?_
          simp only [ltb,go_sem,reduceAdd,reduceLT,reduceEqDiff]
          refine callS_ex (by have h := fun M hk => clo30_at s hs q hqb M 1 hk; rw [hsat] at h; simp only [encRq,encSet] at h; exact h _ rfl) ?_
          rintro _ rfl
          try simp only [go_sem]
          refine hK1 _ ?_
          simp only [ltb,go_sem,reduceAdd,reduceLT,reduceEqDiff]
          refine hK _ _ rfl ?_
          simp only [mwb,reduceAdd,reduceEqDiff]
          refine ex_if rfl (fun hc74 => ?_) (fun hc74 => ?_)
          ·exact absurd hc74 (by simp)
          ·refine ex_skip ?_
           show Go.Eng.Ex _ _ _ _ _ _
           refine ex_last_region_w tt_ok 94 (rp 67 0 [2,0,0,0,0,0,0,0,2]) [] (by kernel_rfl) rfl rfl fun K hK => ?_
           try simp only [ltb]
           simp only [hw2,go_sem,reduceAdd,reduceLT]
           refine hK _ _ rfl ?_
           simp only [mwb,reduceAdd,reduceEqDiff]
           refine ⟨j + 1, ?_, ?_, 5, (false::true::false::true::false::true::false::true::true::true::(rp 30 false (true::true::true::(rp 22 false [true,true,true])))), by omega, by simp only [maskFr,belowV,reduceLT,mkb], by simp only [ltb,List.all_cons,List.all_nil,belowV,belowL,belowB,reduceLT,decide_true,Bool.and_self], by (simp only [maskFr,mkb])⟩
           ·exact hlt2
           ·omega
         ·refine ex_exit ?_
          show Go.Eng.Ex _ _ _ _ _ _
          refine ex_mixed_w tt_ok mixed_ok 94 [0,0,0,0,0,0,0,0,0,0,0,0,0,0,0,0,0,0,0,0,0,0,0,0,0,0,0,0,0,0,0,0,0,0,0,0,0,0,0,0,0,0,0,0,0,0,0,0,0,0,0,0,0,0,0,0,0,0,0,0,0,0,0,0,0,0,0,0,0,0,0,0,0,0,0,0,1,1,1,1,1,1,1,1,1,1,1,1,2] (by kernel_rfl) [⟨.r, 0, [], [], []⟩, ⟨.n, 0, [], [], []⟩, ⟨.r, 0, [], [], []⟩, ⟨.n, 0, [], [], []⟩, ⟨.r, 0, [], [], []⟩, ⟨.r, 0, [], [], []⟩, ⟨.n, 0, [], [], []⟩, ⟨.n, 0, [], [], []⟩, ⟨.r, 0, [], [], []⟩, ⟨.n, 0, [], [], []⟩, ⟨.n, 0, [], [], []⟩, ⟨.n, 0, [], [], []⟩, ⟨.n, 0, [], [], []⟩] 0 (by kernel_rfl) fun K hK => ?_
          try simp only [ltb,List.replicate_zero]
          refine runM_cut 6 (by simp) (by simp) fun K1 hK1 => ?_
          try simp only [ltb]
          simp only [Option.map_some,hcut1,go_sem,reduceAdd,reduceLT,reduceEqDiff]
          refine hK1 _ ?_
          refine runM_cut 5 (by simp) (by simp) fun K1 hK1 => ?_
          try simp only [ltb]
          simp only [hw,Option.map_some,hcut2,go_sem,reduceAdd,reduceLT,reduceLeDiff,reduceMul,reduceEqDiff]
          refine callD_ex rfl (by have h := concat_ok [s.take i, s.drop (i + 1)] (by simp) (by simp; omega); simp only [encSels,List.map_cons,List.map_nil,List.flatten_cons,List.flatten_nil,List.append_nil] at h; exact h) ?_
          rintro _ rfl
          try simp only [go_sem]
          refine hK1 _ ?_
          refine runM_cut 1 (by simp) (by simp) fun K1 hK1 => ?_
          simp only [ltb,go_sem,reduceAdd,reduceLT,reduceEqDiff]
          refine callD_ex rfl (by have h := solves_ok hG l I hb roots hr hrb (s.take i ++ s.drop (i + 1)) (by simp; omega); simp only [encIx,encRls,encRqs,encSels] at h; exact ⟨_, rfl, h⟩) ?_
          rintro _ rfl
          try simp only [go_sem]
          refine hK1 _ ?_
          try simp only [ltb]
          simp only [hdne,go_sem,reduceAdd,reduceLT,reduceEqDiff]
          refine hK _ _ rfl ?_
          simp only [mwb,reduceAdd,reduceEqDiff]
          refine ex_if rfl (fun hc88 => ?_) (fun hc88 => ?_)
          ·exact absurd hc88 (by simp)
          ·refine ex_skip ?_
           show Go.Eng.Ex _ _ _ _ _ _
           refine ex_last_region_w tt_ok 94 (rp 42 0 (2::(rp 46 0 [2]))) [] (by kernel_rfl) rfl rfl fun K hK => ?_
           try simp only [ltb]
           simp only [hw,go_sem,reduceAdd,reduceLT]
           refine hK _ _ rfl ?_
           simp only [mwb,reduceAdd,reduceEqDiff]
           refine ⟨i + 1, ?_, ?_, 3, (false::true::false::true::false::true::false::true::true::(rp 31 false [true,true,true])), by omega, by simp only [maskFr,belowV,reduceLT,mkb], by simp only [ltb,List.all_cons,List.all_nil,belowV,belowL,belowB,reduceLT,decide_true,Bool.and_self], by (simp only [maskFr,mkb])⟩
           ·exact hlt
           ·omega
       ·exact absurd hb13_2 (by simp)
      ·have hfin : (roots.any fun q => !satS s q) = false := List.any_eq_false.2 fun q hq => by rw [hm.sat (hm.rts q hq)]; simp
       refine ex_exit ?_
       show Go.Eng.Ex _ _ _ _ _ _
       refine ex_region_w tt_ok 94 (0::0::0::0::0::0::2::(rp 83 0 [1,1,1,1])) [] rfl rfl fun K hK => ?_
       refine runX_cut 3 fun K1 hK1 => ?_
       simp only [ltb,go_sem,reduceAdd,reduceLT,reduceEqDiff]
       refine callS_ex (by have h := fun M h1 h2 => any34_at s hs roots (by omega) hrb M 1 2 h1 h2 (by decide); rw [hfin] at h; exact h _ rfl rfl) ?_
       rintro _ rfl
       try simp only [go_sem]
       refine hK1 _ ?_
       simp only [ltb,go_sem,reduceAdd,reduceLT,reduceEqDiff]
       refine hK _ _ rfl ?_
       simp only [mwb,reduceAdd,reduceEqDiff]
       exact ex_ret ⟨.inl rfl, _, rfl, rfl⟩
   ·simp only [ltb,go_sem,reduceAdd,reduceLT,reduceEqDiff]
    refine hK _ _ rfl ?_
    simp only [mwb,reduceAdd,reduceEqDiff]
    refine ex_cond rfl ?_
    refine ex_region_w tt_ok 94 [0,0,0,0,0,0,2] [] rfl rfl fun K hK => ?_
    simp only [ltb,go_sem,reduceAdd]
    refine hK _ _ rfl ?_
    simp only [mwb,reduceAdd]
    exact ex_ret ⟨.inl rfl, _, rfl, rfl⟩
  ·refine runX_cut 8 fun K1 hK1 => ?_
   simp only [ltb,go_sem,reduceAdd,reduceLT,reduceEqDiff]
   refine hK1 _ ?_
   simp only [ltb,go_sem,reduceAdd,reduceLT,reduceEqDiff]
   refine hK _ _ rfl ?_
   simp only [mwb,reduceAdd,reduceEqDiff]
   refine ex_cond rfl ?_
   refine ex_region_w tt_ok 94 [0,0,0,0,0,0,2] [] rfl rfl fun K hK => ?_
   simp only [ltb,go_sem,reduceAdd]
   refine hK _ _ rfl ?_
   simp only [mwb,reduceAdd]
   exact ex_ret ⟨.inl rfl, _, rfl, rfl⟩
end Go.Proofs.YtnfeacnbgbggfaaGreatDoor
end

section
namespace Go.Proofs.YtnfeacnbgbggfaaGreatDoor.lawIndexSolutions
open Go.Eng
set_option maxRecDepth 100000
open Go.ChangeShapes Go.WideShapes Go.ChangeAt Go.RowKit
theorem contract (H : Type) (enc : TypeId × Value → H) (W : World) (args : Array Value) (ds gs : List (DataW H)) (before : List MemPlace) (base : Nat)
  (hok : ∀ (j : Nat) t v, Tryz.f7.params[j]? = some t → args[j]? = some v → Value.okWide Tryz.prog W .any base t v)
  (hW : DataW.Whole enc Tryz.prog Tryz.f7.params.toList Rows.indexSolutionsSpec.vars false W args.toList ds gs before) (hb : Rows.uptoBulkAll (ds ++ gs) ≤ 1048576) (hS : W.ShapedOpen Tryz.prog) :
  Calls Tryz.prog 7 args W fun e W' => ∃ v, e = .returned v ∧ Rows.indexSolutionsSpec.post enc Tryz.prog Tryz.f7 false true false false W args v W' := by
 have hW' := hW
 have hlt := hW.lt
 obtain ⟨p, q, hA0, hV, rfl, hfz, hnd⟩ := hW
 have hA : DataW.TrodAll enc Tryz.prog W 0 (fun _ => true) true Tryz.f7.params.toList args.toList ds p := hA0
 rw [Tryz.params7] at hA
 obtain ⟨v0, vs0, d0, ds0, p0, q0, hargs, rfl, rfl, h0, r0⟩ := trodAll_cons hA
 obtain ⟨v1, vs1, d1, ds1, p1, q1, rfl, rfl, rfl, h1, r1⟩ := trodAll_cons r0
 obtain ⟨v2, vs2, d2, ds2, p2, q2, rfl, rfl, rfl, h2, r2⟩ := trodAll_cons r1
 obtain ⟨rfl, rfl, rfl⟩ := trodAll_nil r2
 obtain rfl : args = #[v0, v1, v2] := by cases args; simp_all
 obtain ⟨rfl, rfl⟩ := trodVars_none hV
 rw [Tryz.params7] at hok
 obtain ⟨a1, l1, c1, rfl⟩ := okWide_slice Tryz.underlying26 (hok 1 26 v1 rfl rfl)
 obtain ⟨a2, l2, c2, rfl⟩ := okWide_slice Tryz.underlying27 (hok 2 27 v2 rfl rfl)
 clear hok
 clear hA0 hA r0 r1 r2 hargs hV
 simp only [List.append_nil] at hW' hlt
 simp only [ltb,List.append_nil,Rows.uptoBulkAll] at hb
 have h0' := h0
 have h1' := h1
 have h2' := h2
 obtain ⟨f0, h0⟩ := h0
 obtain ⟨f1, h1⟩ := h1
 obtain ⟨f2, h2⟩ := h2
 have main : Calls Tryz.prog 7 #[v0, .slice a1 l1 c1, .slice a2 l2 c2] W fun e W' => e = .returned (.bool true) ∧ Below W.heap.size W W' := by
  obtain ⟨n, hn⟩ := maxLen_at hS
  have go : ∀ (G : Glob) (hG : G.g = some 0) (hg : @Gl G W.cell?), Calls Tryz.prog 7 #[v0, .slice a1 l1 c1, .slice a2 l2 c2] W fun e W' => e = .returned (.bool true) ∧ Below W.heap.size W W' := fun G hG hg => by
   have haw : FnOk Tryz.prog 9 [] (bl true) := by obtain ⟨r, rfl, h⟩ := awake_ok hG; exact h
   obtain ⟨x0, I0, hx0, b0⟩ := rd_ix (F := W.cell?) (hg := hg) rfl h0
   obtain ⟨x1, hx1, b1⟩ := rd_rqs (F := W.cell?) (hg := hg) rfl h1
   obtain ⟨x2, hx2, b2⟩ := rd_sels (F := W.cell?) (hg := hg) rfl h2
   obtain ⟨rr, hrr, hc⟩ : ∃ r_, r_ = bl true ∧ FnOk Tryz.prog 7 [encIx x0 I0, encRqs x1, encSels x2] r_ := by
    obtain ⟨r_, h1, h2⟩ := solutions_ok hG haw x0 I0 (ixB_of (by omega)) x1 (rqs_B (by omega)).1 (rqs_B (by omega)).2 x2 (sels_B (by omega))
    exact ⟨r_, h1, h2⟩
   subst hrr
   refine (hc.2 W.cell? hg W #[v0, .slice a1 l1 c1, .slice a2 l2 c2] (fun _ _ h => h) ?_).mono fun o W' h => ?_
   ·exact .cons (rep_one (by simp [encIx]) hx0) (.cons (rep_sl hx1) (.cons (rep_sl hx2) (.nil _)))
   ·obtain ⟨F', x, rfl, -, -, -, ⟨hg', hx⟩, hbel⟩ := h
    obtain rfl := rep_sc hx
    exact ⟨rfl, hbel⟩
  exact go (gOf n) rfl (@Gl.mk (gOf n) _ (fun g hg => by cases hg; exact hn) (fun g cs j x h => by cases h))
 refine main.mono fun e W' ⟨he, hbel⟩ => ?_
 subst he
 have hlaid : laidOutB Tryz.prog = true := by kernel_rfl
 refine ⟨_, rfl, post_kept (pa := p0 ++ (p1 ++ (p2 ++ []))) (pv := []) hW' (fun _ _ _ => trodAll_cons_mk (shut_bool Tryz.underlying4 _) trodAll_mk0) (fun sp hsp => ?_) (fun _ _ => rfl) (by simp)
  hbel (ok_one (by kernel_rfl) rfl (okWide_bool_mk Tryz.underlying4 _))⟩
 ·refine trodAll_cons_mk (WideElems.Trod_stays hlaid (by kernel_rfl) (of_decide_eq_true (by kernel_rfl)) h0' (fun x hx => hbel.same (hlt x (by simp [hx]))) (fun x hx => hsp x (by simp [hx])))
   (trodAll_cons_mk (WideElems.Trod_stays hlaid (by kernel_rfl) (of_decide_eq_true (by kernel_rfl)) h1' (fun x hx => hbel.same (hlt x (by simp [hx]))) (fun x hx => hsp x (by simp [hx])))
   (trodAll_cons_mk (WideElems.Trod_stays hlaid (by kernel_rfl) (of_decide_eq_true (by kernel_rfl)) h2' (fun x hx => hbel.same (hlt x (by simp [hx]))) (fun x hx => hsp x (by simp [hx])))
   trodAll_mk0))
end Go.Proofs.YtnfeacnbgbggfaaGreatDoor.lawIndexSolutions
end

section
namespace Go.Proofs.YtnfeacnbgbggfaaGreatDoor
open Go.ChangeShapes Go.WideShapes Go.ChangeAt Go.RowKit
theorem own : ownKnob Tryz.prog.godebug = none := by kernel_rfl
def wIx : Value := .agg #[.slice none 0 0, .slice none 0 0]
def dIx (H : Type) : DataW H := .agg [.nil, .nil]
def layAs (cs : Array Value) : Obj → Obj
 | .cells _ t frozen => .cells cs t frozen
 | o => o
def accZ : List Nat := [128,191,160,191,128,159,144,191,128,143,0,0,0,0,0,0,0,0,0,0,0,0,0,0,0,0,0,0,0,0,0,0]
noncomputable def laidWorld (os : Os) : World :=
 { World.holding Tryz.prog os ⟨#[], #[], []⟩ with heap := ((World.holding Tryz.prog os ⟨#[], #[], []⟩).heap.modify 1 (layAs ⟨Pinned.utf8FirstZ.map fun n => Value.int .u8 (Int.ofNat n)⟩)).modify 2 (layAs ⟨accZ.map fun n => Value.int .u8 (Int.ofNat n)⟩) }
end Go.Proofs.YtnfeacnbgbggfaaGreatDoor
end
