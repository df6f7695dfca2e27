/-
  CONTRACTS: requirements that a selection breaks.
  CONTRACTS: Solves.
  AWAKE: the example of the chapter.
  AWAKE.
  CLOSING: what is common to the laws of chapter 32.
  CONTRACTS: requirements that a closure holds of.
  THE LAW IndexClosed.
  THE LAW IndexClosed, A: what it does at every argument of the bound, in every world of the shape.
  CLOSING, B: a world for the witness.
-/
import Derived.Test.YtnfeacnbgbggfaaGreatDoorG6
import Derived.WalkKit
import Derived.ProofKit
import Derived.OpenShut
import Derived.WideKeyArgs
import Derived.Deep.DeepHandedRow
import Derived.Test.YtnfeacnbgbggfaaGreatDoorCards
import Derived.Test.YtnfeacnbgbggfaaGreatDoorTie
import Derived.Lib.LaidTab
set_option linter.all false
section
namespace Go.Proofs.YtnfeacnbgbggfaaGreatDoor
open Go.Eng
open Nat (reduceAdd reduceLT reduceLeDiff reduceMul reduceEqDiff reduceSub)
variable [Glob]
set_option maxHeartbeats 4000000
set_option maxRecDepth 100000
attribute [local irreducible] runM stepM valD stepOp stepD callF callS
def byP (m : List Rl) (p : ByteArray) : Option Rl := m.find? fun r => decide (r.path = p)
def gB (m : List Rl) : List (ByteArray × V) := m.map fun r => (r.path, encRl r)
theorem getM_gB (p : ByteArray) : ∀ m : List Rl, getM p (gB m) = (byP m p).map encRl
 | [] => rfl
 | r :: t => by
  show (if r.path = p then some (encRl r) else getM p (gB t)) = _
  unfold byP
  rw [List.find?_cons]
  by_cases h : r.path = p
  ·simp [h]
  ·have := getM_gB p t
   unfold byP at this
   simp [h, this]
theorem gB_below (n : Nat) (m : List Rl) : ((mkM strVal 0 (gB m)).all fun e => belowV n e.2.2) = true := by
 rw [mkM_all strVal (belowV n)]
 unfold gB
 simp [encRl_below]
theorem renB_gB (σ : Nat → Nat) (m : List Rl) (c : Nat) : renB σ (.map (mkM strVal 0 (gB m)) c) = .map (mkM strVal 0 (gB m)) c := by
 rw [renB_mkM]
 congr 2
 unfold gB
 rw [List.map_map]
 exact List.map_congr_left fun r _ => by simp [renV_rl]
theorem byP_none {m : List Rl} {p : ByteArray} (h : byP m p = none) {mem : List Blk} {b : Nat} (hm : mem[b]? = some (.map (mkM strVal 0 (gB m)) (gB m).length)) :
  lookupV Tryz.prog mem 92 (.mp b) (str p) true = some (.tup [.agg [str ⟨#[]⟩, num 0, num 0, num 0, .sc (.slice none 0 0), str ⟨#[]⟩, str ⟨#[]⟩, str ⟨#[]⟩, bl false], bl false]) := by
 rw [kt92.get p (gB m) hm zero40, getM_gB, h]; rfl
theorem byP_some {m : List Rl} {p : ByteArray} {r : Rl} (h : byP m p = some r) {mem : List Blk} {b : Nat} (hm : mem[b]? = some (.map (mkM strVal 0 (gB m)) (gB m).length)) :
  lookupV Tryz.prog mem 92 (.mp b) (str p) true = some (.tup [encRl r, bl true]) := by
 rw [kt92.get p (gB m) hm zero40, getM_gB, h]; rfl
theorem byP_get {m : List Rl} {p : ByteArray} {r : Rl} (h : byP m p = some r) {mem : List Blk} {b : Nat} (hm : mem[b]? = some (.map (mkM strVal 0 (gB m)) (gB m).length)) :
  lookupV Tryz.prog mem 92 (.mp b) (str p) false = some (encRl r) := by
 rw [kt92.get p (gB m) hm zero40, getM_gB, h]; rfl
def brk (m : List Rl) (q : Rq) : Bool := match byP m q.path with | none => true | some r => !has q.set r.ver.pl
def σ2 (k k2 n j : Nat) : Nat := if j = 0 then k else if j = 1 then k2 else n + (j - 2)
theorem fnOkS_at2' {P : Program} {f : FuncId} {vs : List V} {r : V} {B0 B1 B0' : Blk} (h : FnOkS P f vs [B0, B1] r [B0', B1]) (M : List Blk) (k k2 : Nat) (hv : vs.all (belowV 2) = true) (hm : [B0, B1].all (belowB 2) = true) (hr : belowV 2 r = true) (hm' : [B0', B1].all (belowB 2) = true)
  (hk : M[k]? = some (renB (σ2 k k2 M.length) B0)) (hk2 : M[k2]? = some (renB (σ2 k k2 M.length) B1)) (hne : k ≠ k2) :
  FnOkS P f (renL (σ2 k k2 M.length) vs) M (renV (σ2 k k2 M.length) r) (M.set k (renB (σ2 k k2 M.length) B0')) := by
 have h3 := h.ren M (σ2 k k2 M.length) 2 rfl hv hm hr hm' (by simp) (fun i B hi => by
  match i with
  | 0 => simp at hi; subst hi; exact hk
  | 1 => simp at hi; subst hi; exact hk2
  | i + 2 => simp at hi) (fun i j hi hj he => by
  match i, j with
  | 0, 0 => rfl
  | 1, 1 => rfl
  | 0, 1 => exact absurd (by simpa [σ2] using he) hne
  | 1, 0 => exact absurd (by simpa [σ2] using he.symm) hne
  | i + 2, _ => omega
  | _, j + 2 => omega) (fun j hj => by unfold σ2; rw [if_neg (by omega), if_neg (by omega)])
 have hM : putR (σ2 k k2 M.length) 2 [B0', B1] M = M.set k (renB (σ2 k k2 M.length) B0') := by
  unfold putR
  simp only [ltb,List.map_nil,List.append_nil,setAll]
  show (M.set k (renB _ B0')).set k2 (renB _ B1) = _
  exact set_same (by rw [List.getElem?_set_ne hne]; exact hk2)
 rwa [hM] at h3
theorem clo52_ok (m : List Rl) (q : Rq) (hq : RqB q) : ∃ r_, (fun w => w = bl (brk m q)) r_ ∧ FnOkS Tryz.prog 52 [encRq q, .ptr 1 0] ([.map (mkM strVal 0 (gB m)) (gB m).length, .box [.mp 0]]) r_ ([.map (mkM strVal 0 (gB m)) (gB m).length, .box [.mp 0]]) := by
 refine fns_ex tt_ok (fn := Tryz.f52) Tryz.func52 rfl Tryz.call52 (by simp [bB_map, bB_box, gB_below, belowV]) ?_
 simp only [ltb,startSt,Tryz.ntmps52,List.length_cons,List.length_nil,reduceAdd,reduceSub,List.replicate_succ,List.replicate_zero]
 simp only [encRq,encSet]
 obtain ⟨hq1, hq2⟩ := hq
 refine ex_region_w tt_ok 23 [0,0,2,2] [] rfl rfl fun K hK => ?_
 simp only [ltb,go_sem,reduceAdd,reduceLT]
 refine hK _ _ rfl ?_
 simp only [mwb,reduceAdd,reduceEqDiff]
 rcases hf : byP m q.path with _ | r
 ·have hlk := fun (mem : List Blk) (b : Nat) hm => byP_none hf (mem := mem) (b := b) hm
  have hR : true = brk m q := by unfold brk; rw [hf]
  refine ex_region_w tt_ok 23 [0,0,0,0,2,2,1,1,1,1,1,1,1] [] rfl rfl fun K hK => ?_
  refine runX_cut 8 fun K1 hK1 => ?_
  simp only [ltb]
  simp only [hlk,go_sem,reduceAdd,reduceLT,reduceLeDiff,reduceEqDiff]
  refine hK1 _ ?_
  simp only [ltb,go_sem,reduceAdd,reduceLT,reduceEqDiff]
  refine hK _ _ rfl ?_
  simp only [mwb,reduceAdd,reduceEqDiff]
  refine ex_mixed_w tt_ok mixed_ok 23 [0,0,0,2,0,0,0,0,0,0,0,0,0,1,1,1,1,1,1,1,1,1,1] (by kernel_rfl) [⟨.n, 0, [], [], []⟩, ⟨.n, 0, [], [], []⟩, ⟨.n, 0, [], [], []⟩, ⟨.n, 0, [], [], []⟩, ⟨.r, 0, [], [], []⟩, ⟨.r, 0, [], [], []⟩, ⟨.n, 0, [], [], []⟩, ⟨.n, 0, [], [], []⟩, ⟨.n, 0, [], [], []⟩, ⟨.n, 0, [], [], []⟩, ⟨.n, 0, [], [], []⟩] 0 (by kernel_rfl) fun K hK => ?_
  try simp only [ltb,List.replicate_zero]
  refine runM_cut 3 (by simp) (by simp) fun K1 hK1 => ?_
  simp only [ltb,go_sem,reduceAdd,reduceLT,reduceEqDiff]
  refine hK1 _ ?_
  refine runM_case 15 (by rfl) fun b hb2_2 => ?_
  cases b
  ·cases hb2_2
  ·refine runM_cut 6 (by simp) (by simp) fun K1 hK1 => ?_
   simp only [ltb,go_sem,reduceAdd,reduceLT,reduceEqDiff]
   refine hK1 _ ?_
   simp only [ltb,go_sem,reduceAdd,reduceLT,reduceEqDiff]
   refine hK _ _ rfl ?_
   simp only [mwb,reduceAdd,reduceEqDiff]
   exact ex_ret ⟨.inl rfl, _, congrArg bl hR, rfl, by simp [belowV], by simp []⟩
 ·have hlk := fun (mem : List Blk) (b : Nat) hm => byP_some hf (mem := mem) (b := b) hm
  simp only [encRl,rlCells,encRqs] at hlk
  have hR : (!has q.set r.ver.pl) = brk m q := by unfold brk; rw [hf]
  refine ex_region_w tt_ok 23 [0,0,0,0,2,2,1,1,1,1,1,1,1] [] rfl rfl fun K hK => ?_
  refine runX_cut 8 fun K1 hK1 => ?_
  simp only [ltb]
  simp only [hlk,go_sem,reduceAdd,reduceLT,reduceLeDiff,reduceEqDiff]
  refine hK1 _ ?_
  simp only [ltb,go_sem,reduceAdd,reduceLT,reduceEqDiff]
  refine hK _ _ rfl ?_
  simp only [mwb,reduceAdd,reduceEqDiff]
  refine ex_mixed_w tt_ok mixed_ok 23 [0,0,0,2,0,0,0,0,0,0,0,0,0,1,1,1,1,1,1,1,1,1,1] (by kernel_rfl) [⟨.n, 0, [], [], []⟩, ⟨.n, 0, [], [], []⟩, ⟨.n, 0, [], [], []⟩, ⟨.n, 0, [], [], []⟩, ⟨.r, 0, [], [], []⟩, ⟨.r, 0, [], [], []⟩, ⟨.n, 0, [], [], []⟩, ⟨.n, 0, [], [], []⟩, ⟨.n, 0, [], [], []⟩, ⟨.n, 0, [], [], []⟩, ⟨.n, 0, [], [], []⟩] 0 (by kernel_rfl) fun K hK => ?_
  try simp only [ltb,List.replicate_zero]
  refine runM_cut 3 (by simp) (by simp) fun K1 hK1 => ?_
  simp only [ltb,go_sem,reduceAdd,reduceLT,reduceEqDiff]
  refine hK1 _ ?_
  refine runM_case 15 (by rfl) fun b hb2_2 => ?_
  cases b
  ·refine runM_cut 4 (by simp) (by simp) fun K1 hK1 => ?_
   simp only [ltb,go_sem,reduceAdd,reduceLT,reduceEqDiff]
   refine callD_ex rfl (by have h := place_ok r; simp only [encRl,rlCells,encRqs] at h; exact h) ?_
   rintro _ rfl
   try simp only [go_sem]
   refine hK1 _ ?_
   refine runM_cut 1 (by simp) (by simp) fun K1 hK1 => ?_
   simp only [ltb,go_sem,reduceAdd,reduceLT,reduceEqDiff]
   refine callD_ex rfl (by have h := has_ok q.set r.ver.pl hq2; simp only [encSet] at h; exact h) ?_
   rintro _ rfl
   try simp only [go_sem]
   refine hK1 _ ?_
   simp only [ltb,go_sem,reduceAdd,reduceLT,reduceEqDiff]
   refine hK _ _ rfl ?_
   simp only [mwb,reduceAdd,reduceEqDiff]
   exact ex_ret ⟨.inl rfl, _, congrArg bl hR, rfl, by simp [belowV], by simp []⟩
  ·cases hb2_2
theorem idxQ_52 (m : List Rl) (l : List Rq) (hl : l.length ≤ 2097152) (hlb : ∀ q ∈ l, RqB q) : ∃ r_, (fun w => ∃ k : Int, w = num k ∧ decide (0 ≤ k) = l.any (brk m)) r_ ∧ FnOkS Tryz.prog 79 [encRqs l, .clo (.func 52) [] [.ptr 1 0]] ([.map (mkM strVal 0 (gB m)) (gB m).length, .box [.mp 0]]) r_ ([.map (mkM strVal 0 (gB m)) (gB m).length, .box [.mp 0]]) := by
 refine fns_ex tt_ok (fn := Tryz.f79) Tryz.func79 rfl Tryz.call79 (by simp [bB_map, bB_box, gB_below, belowV]) ?_
 simp only [ltb,startSt,Tryz.ntmps79,List.length_cons,List.length_nil,reduceAdd,reduceSub,List.replicate_succ,List.replicate_zero]
 simp only [encRqs]
 refine ex_region_w tt_ok 19 [0,0,0,0,2] [] rfl rfl fun K hK => ?_
 simp only [ltb,go_sem,reduceAdd]
 refine hK _ _ rfl ?_
 simp only [mwb,reduceAdd]
 refine ex_seq ?_
 refine ex_region_w tt_ok 19 [0,0,0,0,0,0,1,2,2] [] rfl rfl fun K hK => ?_
 try simp only [ltb]
 simp only [List.length_map,go_sem,reduceAdd,reduceLT]
 refine hK _ _ rfl ?_
 simp only [mwb,reduceAdd,reduceEqDiff]
 refine ex_block ?_
 refine ex_loopK [8] [num 0] 2 [true,true,false,false,true,false,false,true,true] (fun vs => ((l.length : Int) - Go.Eng.intOf (vs.headD .undef)).toNat) (fun vs => ∃ i : Nat, vs = [num i] ∧ i ≤ l.length ∧ ∀ j < i, ∀ x, l[j]? = some x → (brk m) x = false) (by omega) (by simp only [maskFr,belowV,belowL,reduceLT,mkb]) (by simp only [gB_below,List.all_cons,List.all_nil,belowV,bB_box,bB_map,reduceLT,decide_true,Bool.and_self,List.take_succ_cons,List.take_nil]) (by rfl) (⟨0, rfl, Nat.zero_le _, fun j hj => absurd hj (Nat.not_lt_zero j)⟩) fun vs hI => ?_
 obtain ⟨i, rfl, hi, hall⟩ := hI
 simp only [maskFr,putAll,List.set_cons_zero,List.set_cons_succ,mkb]
 refine ex_region_w tt_ok 19 (rp 9 0 [2]) [] rfl rfl fun K hK => ?_
 simp only [ltb,go_sem,reduceAdd,reduceLT]
 refine hK _ _ rfl ?_
 simp only [mwb,reduceAdd]
 refine ex_seq ?_
 refine ex_if rfl (fun hc9 => ?_) (fun hc9 => ?_)
 ·have hlt : i < l.length := by simpa using hc9
  have hw := i64_succ i (by omega)
  obtain ⟨x, hx⟩ : ∃ x, l[i]? = some x := ⟨_, List.getElem?_eq_getElem hlt⟩
  have hxb := hlb x (List.mem_of_getElem? hx)
  refine ex_skip ?_
  show Go.Eng.Ex _ _ _ _ _ _
  refine ex_seq ?_
  refine ex_block ?_
  refine ex_region_w tt_ok 19 [0,0,0,0,0,2,0,0,0,0,1] [] rfl rfl fun K hK => ?_
  simp only [ltb,go_sem,reduceAdd,reduceLT]
  refine hK _ _ rfl ?_
  simp only [mwb,reduceAdd,reduceEqDiff]
  refine ex_region_w tt_ok 19 (rp 11 0 [1,1,1,1,1,2]) [] rfl rfl fun K hK => ?_
  try simp only [ltb]
  simp only [List.getElem?_map,hx,encRq,encSet,go_sem,reduceAdd,reduceLT,reduceEqDiff,reduceCtorEq]
  refine callS_ex (by have h := clo52_ok m x hxb; simp only [encRq,encSet] at h; exact h) ?_
  rintro _ rfl
  try simp only [go_sem]
  refine hK _ _ rfl ?_
  simp only [mwb,reduceAdd,reduceEqDiff]
  refine ex_if rfl (fun hc16 => ?_) (fun hc16 => ?_)
  ·have hres : decide (0 ≤ (i : Int)) = l.any (brk m) := by rw [any_of hx hc16]; exact decide_eq_true (Int.natCast_nonneg i)
   refine ex_region_w tt_ok 19 (0::0::0::0::2::(rp 12 0 [1])) [] rfl rfl fun K hK => ?_
   simp only [ltb,go_sem,reduceAdd,reduceLT]
   refine hK _ _ rfl ?_
   simp only [mwb,reduceAdd,reduceEqDiff]
   exact ex_ret ⟨.inl rfl, _, ⟨_, rfl, hres⟩, rfl, by simp [belowV], by simp []⟩
  ·refine ex_skip ?_
   show Go.Eng.Ex _ _ _ _ _ _
   refine ex_last_region_w tt_ok 19 (rp 8 0 (2::(rp 9 0 [2]))) [] (by kernel_rfl) rfl rfl fun K hK => ?_
   try simp only [ltb]
   simp only [hw,go_sem,reduceAdd,reduceLT]
   refine hK _ _ rfl ?_
   simp only [mwb,reduceAdd,reduceEqDiff]
   refine ⟨[_], ?_, ?_, 2, [true,true,false,false,true,false,false,true,true], by omega, by simp only [maskFr,belowV,belowL,reduceLT,mkb], by simp only [gB_below,List.all_cons,List.all_nil,belowV,bB_box,bB_map,reduceLT,decide_true,Bool.and_self,List.take_succ_cons,List.take_nil], by simp only [maskFr,putAll,List.set_cons_zero,List.set_cons_succ,mkb]; rfl⟩
   ·refine ⟨i + 1, rfl, hlt, fun j hj => ?_⟩
    rcases Nat.lt_or_ge j i with h | h
    ·exact hall j h
    ·obtain rfl : j = i := by omega
     intro y hy
     rw [hx] at hy; cases hy; exact hc16
   ·simp only [Go.Eng.intOf,List.headD_cons]; omega
 ·have hge : ¬ i < l.length := by simpa using hc9
  have hres : decide (0 ≤ (-1 : Int)) = l.any (brk m) := (any_none fun j hj => hall j (by omega)).symm ▸ rfl
  refine ex_exit ?_
  show Go.Eng.Ex _ _ _ _ _ _
  refine ex_region_w tt_ok 19 [0,0,0,0,2] [] rfl rfl fun K hK => ?_
  simp only [ltb,go_sem,reduceAdd]
  refine hK _ _ rfl ?_
  simp only [mwb,reduceAdd]
  exact ex_ret ⟨.inl rfl, _, ⟨_, rfl, hres⟩, rfl, by simp [belowV], by simp []⟩
theorem anyQ_52 (m : List Rl) (l : List Rq) (hl : l.length ≤ 2097152) (hlb : ∀ q ∈ l, RqB q) : ∃ r_, (fun w => w = bl (l.any (brk m))) r_ ∧ FnOkS Tryz.prog 26 [encRqs l, .clo (.func 52) [] [.ptr 1 0]] ([.map (mkM strVal 0 (gB m)) (gB m).length, .box [.mp 0]]) r_ ([.map (mkM strVal 0 (gB m)) (gB m).length, .box [.mp 0]]) := by
 refine fns_ex tt_ok (fn := Tryz.f26) Tryz.func26 rfl Tryz.call26 (by simp [bB_map, bB_box, gB_below, belowV]) ?_
 simp only [ltb,startSt,Tryz.ntmps26,List.length_cons,List.length_nil,reduceAdd,reduceSub,List.replicate_succ,List.replicate_zero]
 simp only [encRqs]
 refine ex_region_w tt_ok 9 [0,0,0,0,2] [] rfl rfl fun K hK => ?_
 simp only [ltb,go_sem,reduceAdd]
 refine hK _ _ rfl ?_
 simp only [mwb,reduceAdd]
 refine ex_region_w tt_ok 9 [0,0,0,0,2,1,1,1,1] [] rfl rfl fun K hK => ?_
 refine runX_cut 3 fun K1 hK1 => ?_
 simp only [ltb,go_sem,reduceAdd,reduceLT,reduceEqDiff]
 refine callS_ex (by have h := idxQ_52 m l hl hlb; simp only [encRqs] at h; exact h) ?_
 rintro _ ⟨k, rfl, hk⟩
 try simp only [go_sem]
 refine hK1 _ ?_
 simp only [ltb,go_sem,reduceAdd,reduceLT,reduceEqDiff]
 refine hK _ _ rfl ?_
 simp only [mwb,reduceAdd,reduceEqDiff]
 exact ex_ret ⟨.inl rfl, _, congrArg bl hk, rfl, by simp [belowV], by simp []⟩
theorem any52_at (m : List Rl) (l : List Rq) (hl : l.length ≤ 2097152) (hlb : ∀ q ∈ l, RqB q) (M : List Blk) (k k2 : Nat) (hk : M[k]? = some (.map (mkM strVal 0 (gB m)) (gB m).length)) (hk2 : M[k2]? = some (.box [.mp k])) (hne : k ≠ k2) :
  ∃ r_, (fun w => w = bl (l.any (brk m))) r_ ∧ FnOkS Tryz.prog 26 [.slice (l.map encRq), .clo (.func 52) [] [.ptr k2 0]] M r_ M := by
 obtain ⟨r, rfl, h⟩ := anyQ_52 m l hl hlb
 have h3 := fnOkS_at2' h M k k2 (by simp [encRqs, belowV, belowL]) (by simp [bB_map, bB_box, gB_below, belowV]) (by simp [belowV]) (by simp [bB_map, bB_box, gB_below, belowV]) (by rw [renB_gB]; exact hk) (by simpa [renB, renL, renV, σ2] using hk2) hne
 rw [renB_gB, set_same hk] at h3
 exact ⟨_, rfl, by simpa [renL, renV, σ2, encRqs] using h3⟩
end Go.Proofs.YtnfeacnbgbggfaaGreatDoor
end

section
namespace Go.Proofs.YtnfeacnbgbggfaaGreatDoor
open Go.Eng
open Nat (reduceAdd reduceLT reduceLeDiff reduceMul reduceEqDiff reduceSub)
variable [Glob]
set_option maxHeartbeats 4000000
set_option maxRecDepth 100000
attribute [local irreducible] runM stepM valD stepOp stepD callF callS stepTm callTm callRel appSQ
noncomputable def solveE (l : List Rl) (roots : List Rq) (s : List Sel) : Int :=
 if ixE l ≠ 0 then 1 else if incr s = true then (match selM l s with
  | none => 6
  | some m => if (m.any fun r => r.reqs.any (brk m)) = true ∨ roots.any (brk m) = true then 17 else if (reached m roots).length < m.length then 8 else 0) else 1
theorem incr_lt {s : List Sel} (h : incr s = true) : s.Pairwise fun a b => a.path.data.toList < b.path.data.toList := by
 have h1 := (incr_iff s).1 h
 clear h
 induction s with
 | nil => exact List.Pairwise.nil
 | cons a t ih =>
  have ht := ih fun i x y hx hy => h1 (i + 1) x y (by simpa using hx) (by simpa using hy)
  refine List.pairwise_cons.2 ⟨?_, ht⟩
  cases t with
  | nil => intro b hb; simp at hb
  | cons b t =>
   have h2 : a.path.data.toList < b.path.data.toList := by
    have h3 := h1 0 a b rfl rfl
    rw [ltB_eq] at h3
    exact of_decide_eq_true h3
   intro c hc
   rcases List.mem_cons.1 hc with rfl | hc
   ·exact h2
   ·exact List.lt_trans h2 ((List.pairwise_cons.1 ht).1 c hc)
theorem fnd_some {l : List Rl} {y : Sel} {r : Rl} (h : fnd l y = some r) : r ∈ good l ∧ r.key = y := by
 unfold fnd at h
 exact ⟨List.mem_of_find?_eq_some h, by simpa using List.find?_some h⟩
theorem selM_spec {l : List Rl} : ∀ {s : List Sel} {m : List Rl}, selM l s = some m → m.map Rl.key = s ∧ ∀ r ∈ m, r ∈ good l
 | [], m, h => by unfold selM at h; simp at h; subst h; simp
 | y :: t, m, h => by
  unfold selM at h
  rw [List.mapM_cons] at h
  cases h1 : fnd l y with
  | none => rw [h1] at h; simp at h
  | some r =>
   rw [h1] at h
   cases h2 : t.mapM (fnd l) with
   | none => rw [h2] at h; simp at h
   | some m' =>
    rw [h2] at h
    simp at h
    subst h
    obtain ⟨e1, e2⟩ := selM_spec (s := t) h2
    obtain ⟨e3, e4⟩ := fnd_some h1
    refine ⟨by rw [List.map_cons, e1, e4], fun x hx => ?_⟩
    rcases List.mem_cons.1 hx with rfl | hx
    ·exact e3
    ·exact e2 x hx
theorem selM_paths {l : List Rl} {s : List Sel} {m : List Rl} (h : selM l s = some m) (hi : incr s = true) : m.Pairwise fun a b => a.path.data.toList < b.path.data.toList := by
 have h1 := incr_lt hi
 rw [← (selM_spec h).1, List.pairwise_map] at h1
 exact h1
theorem lt_ne {a b : ByteArray} (h : a.data.toList < b.data.toList) : a ≠ b := fun e => by subst e; exact List.lt_irrefl _ h
theorem paths_uniq {m : List Rl} (h : m.Pairwise fun a b => a.path.data.toList < b.path.data.toList) : ∀ a ∈ m, ∀ b ∈ m, a.path = b.path → a = b := by
 intro a ha b hb he
 obtain ⟨i, hi⟩ := List.mem_iff_getElem?.1 ha
 obtain ⟨j, hj⟩ := List.mem_iff_getElem?.1 hb
 rcases Nat.lt_trichotomy i j with hij | hij | hij
 ·exact absurd he (lt_ne (List.pairwise_iff_getElem.1 h i j (List.getElem?_eq_some_iff.1 hi).1 (List.getElem?_eq_some_iff.1 hj).1 hij |> fun h => by rwa [(List.getElem?_eq_some_iff.1 hi).2, (List.getElem?_eq_some_iff.1 hj).2] at h))
 ·subst hij; rw [hi] at hj; cases hj; rfl
 ·exact absurd he.symm (lt_ne (List.pairwise_iff_getElem.1 h j i (List.getElem?_eq_some_iff.1 hj).1 (List.getElem?_eq_some_iff.1 hi).1 hij |> fun h => by rwa [(List.getElem?_eq_some_iff.1 hj).2, (List.getElem?_eq_some_iff.1 hi).2] at h))
theorem byP_spec {m : List Rl} {p : ByteArray} {r : Rl} (h : byP m p = some r) : r ∈ m ∧ r.path = p := ⟨List.mem_of_find?_eq_some h, by simpa using List.find?_some h⟩
theorem gB_put {m : List Rl} {r : Rl} (h : ∀ x ∈ m, x.path ≠ r.path) : putM r.path (encRl r) (gB m) = gB (m ++ [r]) := by
 have : findM r.path (gB m) 0 = none := by
  have key : ∀ (m : List Rl) (n : Nat), (∀ x ∈ m, x.path ≠ r.path) → findM r.path (gB m) n = none := by
   intro m
   induction m with
   | nil => intro n _; rfl
   | cons a t ih =>
    intro n h
    show (if a.path = r.path then _ else findM r.path (gB t) (n + 1)) = none
    rw [if_neg (h a (by simp))]
    exact ih _ fun x hx => h x (by simp [hx])
  exact key m 0 h
 unfold putM
 rw [this]
 simp [gB]
theorem byP_put {m : List Rl} {r : Rl} (h : ∀ x ∈ m, x.path ≠ r.path) {mem : List Blk} {b : Nat} (hm : mem[b]? = some (.map (mkM strVal 0 (gB m)) (gB m).length)) :
  insertV Tryz.prog mem 92 (.mp b) (str r.path) (encRl r) = some (mem.set b (.map (mkM strVal 0 (gB (m ++ [r]))) (gB (m ++ [r])).length)) := by
 rw [kt92.put r.path (encRl r) (gB m) hm, gB_put h]
def gN (S : List Rl) : List (ByteArray × V) := S.map fun r => (r.path, bl true)
def seenP (S : List Rl) (p : ByteArray) : Bool := S.any fun r => decide (r.path = p)
theorem gN_below (n : Nat) (S : List Rl) : ((mkM strVal 0 (gN S)).all fun e => belowV n e.2.2) = true := by
 rw [mkM_all strVal (belowV n)]
 unfold gN
 simp [belowV]
theorem getM_gN (p : ByteArray) : ∀ S : List Rl, (getM p (gN S)).getD (bl false) = bl (seenP S p)
 | [] => rfl
 | r :: t => by
  show (if r.path = p then some (bl true) else getM p (gN t)).getD _ = _
  unfold seenP
  rw [List.any_cons]
  by_cases h : r.path = p
  ·simp [h]
  ·have := getM_gN p t
   unfold seenP at this
   simp [h, this]
theorem need_get (S : List Rl) (p : ByteArray) {mem : List Blk} {b : Nat} (hm : mem[b]? = some (.map (mkM strVal 0 (gN S)) (gN S).length)) : lookupV Tryz.prog mem 93 (.mp b) (str p) false = some (bl (seenP S p)) := by
 rw [kt93.get p (gN S) hm zero4, getM_gN]; rfl
theorem gN_put {S : List Rl} {r : Rl} (h : ∀ x ∈ S, x.path ≠ r.path) : putM r.path (bl true) (gN S) = gN (S ++ [r]) := by
 have : findM r.path (gN S) 0 = none := by
  have key : ∀ (m : List Rl) (n : Nat), (∀ x ∈ m, x.path ≠ r.path) → findM r.path (gN m) n = none := by
   intro m
   induction m with
   | nil => intro n _; rfl
   | cons a t ih =>
    intro n h
    show (if a.path = r.path then _ else findM r.path (gN t) (n + 1)) = none
    rw [if_neg (h a (by simp))]
    exact ih _ fun x hx => h x (by simp [hx])
  exact key S 0 h
 unfold putM
 rw [this]
 simp [gN]
theorem need_put {S : List Rl} {r : Rl} (h : ∀ x ∈ S, x.path ≠ r.path) {mem : List Blk} {b : Nat} (hm : mem[b]? = some (.map (mkM strVal 0 (gN S)) (gN S).length)) :
  insertV Tryz.prog mem 93 (.mp b) (str r.path) (bl true) = some (mem.set b (.map (mkM strVal 0 (gN (S ++ [r]))) (gN (S ++ [r])).length)) := by
 rw [kt93.put r.path (bl true) (gN S) hm, gN_put h]
theorem brk_no {m : List Rl} {q : Rq} (hg : ∀ r ∈ m, r.ver.ok = true) (h : brk m q = false) : ∃ r, byP m q.path = some r ∧ r ∈ m ∧ hits q r = true := by
 unfold brk at h
 cases hb : byP m q.path with
 | none => rw [hb] at h; cases h
 | some r =>
  rw [hb] at h
  obtain ⟨h1, h2⟩ := byP_spec hb
  refine ⟨r, rfl, h1, ?_⟩
  have hpl : r.ver.pl = r.ver.place := by unfold Ver.pl; rw [if_pos (hg r h1)]
  unfold hits
  have h3 : (!has q.set r.ver.pl) = false := h
  rw [hpl] at h3
  simp only [Bool.not_eq_false'] at h3
  simp [h2, h3]
theorem fld40 (a b c d e f g h i : V) : fieldOf Tryz.prog tt 40 2 (.agg [a, b, c, d, e, f, g, h, i]) = some e := by
 simp [fieldOf, Tryz.underlying40, pickCells, tt26]
theorem map_len {S : List Rl} : ((mkM strVal 0 (gN S)).length : Int) = S.length := by rw [mkM_length]; simp [gN]
theorem sub_len {α : Type} [DecidableEq α] {S T : List α} (hS : S.Nodup) (hT : T.Nodup) (h : ∀ x, x ∈ S ↔ x ∈ T) : S.length = T.length :=
 ((List.perm_ext_iff_of_nodup hS hT).2 h).length_eq
theorem slc_two (l : List Rl) (s : List Sel) : (∃ e : Int, slcV l s = .tup [.sc (.slice none 0 0), num e] ∧ e ≠ 0 ∧ (ixE l = 0 → ∀ roots, solveE l roots s = e)) ∨ (∃ m, selM l s = some m ∧ incr s = true ∧ slcV l s = .tup [.slice (m.map encRl), num 0]) := by
 unfold slcV solveE
 by_cases hi : incr s = true
 ·rw [if_pos hi]
  cases hm : selM l s with
  | none => exact .inl ⟨6, rfl, by decide, fun hx roots => by rw [if_neg (by simp [hx]), if_pos hi]⟩
  | some m => exact .inr ⟨m, rfl, hi, rfl⟩
 ·rw [if_neg hi]
  exact .inl ⟨1, rfl, by decide, fun hx roots => by rw [if_neg (by simp [hx]), if_neg hi]⟩
theorem slc_at (l : List Rl) (s : List Sel) (hs : s.length ≤ 1048576) (M : List Blk) (k k2 : Nat) (hk : M[k]? = some (.map (mkM selVal 0 (gK (good l))) (gK (good l)).length)) (hk2 : M[k2]? = some (.map (mkM strVal 0 (gP (good l))) (pathsOf (good l)).length)) (hne : k ≠ k2) :
  ∃ r_ m_, (fun r m => r = slcV l s ∧ m = M) r_ m_ ∧ FnOkS Tryz.prog 51 [.agg [.mp k, .mp k2], encSels s] M r_ m_ := by
 obtain ⟨r, m, ⟨rfl, rfl⟩, h⟩ := selected_ok l s hs
 have hbl : belowV 2 (slcV l s) = true := by
  unfold slcV
  split
  ·split <;> simp [belowV, belowL]
  ·simp [belowV, belowL]
 have hrv : ∀ σ, renV σ (slcV l s) = slcV l s := fun σ => by
  unfold slcV
  split
  ·split <;> simp [renV, renL]
  ·simp [renV, renL]
 have h3 := fnOkS_at2' h M k k2 (by simp [encSels, belowV, belowL]) (by simp [bB_map, gK_below, gP_below]) hbl (by simp [bB_map, gK_below, gP_below]) (by rw [renB_gK]; exact hk) (by rw [renB_gP]; exact hk2) hne
 rw [renB_gK, set_same hk, hrv] at h3
 exact ⟨_, _, ⟨rfl, rfl⟩, by simpa [renL, renV, σ2, encSels] using h3⟩
theorem solves_ok (hG : Glob.g = some 0) (l : List Rl) (I : List V) (hb : IxB l) (roots : List Rq) (hr : roots.length ≤ 1048576) (hrb : ∀ q ∈ roots, RqB q) (s : List Sel) (hs : s.length ≤ 1048576) : FnOk Tryz.prog 15 [encIx l I, encRqs roots, encSels s] (num (solveE l roots s)) := by
 refine fn_t tt_ok (fn := Tryz.f15) Tryz.func15 rfl Tryz.call15 ?_
 simp only [ltb,startSt,Tryz.ntmps15,List.length_cons,List.length_nil,reduceAdd,reduceSub,List.replicate_succ,List.replicate_zero]
 simp only [encIx,encRls,encRqs,encSels]
 have hlb := hb.1
 refine t_region_w tt_ok 93 [0,0,0,2,0,0,2] [] rfl rfl fun K hK => ?_
 simp only [ltb,go_sem,reduceLT]
 refine hK _ _ rfl ?_
 simp only [mwb,reduceAdd,reduceEqDiff]
 refine t_region_w tt_ok 93 [0,0,0,0,0,0,0,2,2,0,0,0,0,0,0,0,0,0,0,1,1,1,1,1] [] rfl rfl fun K hK => ?_
 refine runTm_cut 2 fun K1 hK1 => ?_
 simp only [ltb,go_sem,reduceAdd,reduceLT]
 refine .inl <| callF_w (by have h := newTable_at hG l I hb; simp only [encIx,encRls] at h; exact h _) ?_
 rintro _ _ ⟨rfl, rfl⟩
 try simp only [go_sem,reduceAdd]
 simp only [tbR,reduceAdd]
 refine hK1 _ ?_
 simp only [ltb,go_sem,reduceAdd,reduceLT,reduceEqDiff]
 refine hK _ _ rfl ?_
 simp only [mwb,reduceAdd,reduceEqDiff]
 refine t_seq ?_
 refine t_region_w tt_ok 93 (rp 24 0 [1,2]) [] rfl rfl fun K hK => ?_
 simp only [ltb,go_sem,reduceAdd,reduceLT]
 refine hK _ _ rfl ?_
 simp only [mwb,reduceAdd,reduceEqDiff]
 refine t_if rfl (fun hc25 => ?_) (fun hc25 => ?_)
 ·have hix : ixE l ≠ 0 := by simpa using hc25
  have hR : (1 : Int) = solveE l roots s := by unfold solveE; rw [if_pos hix]
  refine t_region_w tt_ok 93 [0,0,0,0,0,0,2] [] rfl rfl fun K hK => ?_
  simp only [ltb,go_sem,reduceAdd]
  refine hK _ _ rfl ?_
  simp only [mwb,reduceAdd]
  refine t_ret ?_
  exact ⟨.inl rfl, congrArg (fun x => some (num x)) hR⟩
 ·have hix : ixE l = 0 := by simpa using hc25
  have hgl : good l = l := by unfold good; rw [if_pos hix]
  refine t_skip ?_
  show Tri _ _ _ _ _ _
  rcases slc_two l s with ⟨e, hsl, he0, hsv⟩ | ⟨m, hsm, hinc, hsl⟩
  ·refine t_region_w tt_ok 93 (rp 8 0 (2::2::(rp 16 0 [1,1,1,1,1,1]))) [] rfl rfl fun K hK => ?_
   refine runTm_cut 3 fun K1 hK1 => ?_
   simp only [ltb,go_sem,reduceAdd,reduceLT,reduceEqDiff]
   refine .inl <| callS_w (by have h := slc_at l s hs; simp only [encSels] at h; exact h _ 3 4 rfl rfl (by decide)) ?_
   rintro _ _ ⟨rfl, rfl⟩
   try simp only [go_sem]
   rw [hsl]
   refine hK1 _ ?_
   simp only [ltb,go_sem,reduceAdd,reduceLT,reduceEqDiff]
   refine hK _ _ rfl ?_
   simp only [mwb,reduceAdd,reduceEqDiff]
   refine t_seq ?_
   refine t_region_w tt_ok 93 (rp 32 0 [1,2]) [] rfl rfl fun K hK => ?_
   simp only [ltb,go_sem,reduceAdd,reduceLT]
   refine hK _ _ rfl ?_
   simp only [mwb,reduceAdd,reduceEqDiff]
   refine t_if rfl (fun hc33 => ?_) (fun hc33 => ?_)
   ·have hR : e = solveE l roots s := (hsv hix roots).symm
    refine t_region_w tt_ok 93 (0::0::0::0::0::0::2::(rp 27 0 [1])) [] rfl rfl fun K hK => ?_
    simp only [ltb,go_sem,reduceAdd,reduceLT]
    refine hK _ _ rfl ?_
    simp only [mwb,reduceAdd,reduceEqDiff]
    refine t_ret ?_
    exact ⟨.inl rfl, congrArg (fun x => some (num x)) hR⟩
   ·exact absurd hc33 (by simp [he0])
  ·refine t_region_w tt_ok 93 (rp 8 0 (2::2::(rp 16 0 [1,1,1,1,1,1]))) [] rfl rfl fun K hK => ?_
   refine runTm_cut 3 fun K1 hK1 => ?_
   simp only [ltb,go_sem,reduceAdd,reduceLT,reduceEqDiff]
   refine .inl <| callS_w (by have h := slc_at l s hs; simp only [encSels] at h; exact h _ 3 4 rfl rfl (by decide)) ?_
   rintro _ _ ⟨rfl, rfl⟩
   try simp only [go_sem]
   rw [hsl]
   refine hK1 _ ?_
   simp only [ltb,go_sem,reduceAdd,reduceLT,reduceEqDiff]
   refine hK _ _ rfl ?_
   simp only [mwb,reduceAdd,reduceEqDiff]
   refine t_seq ?_
   refine t_region_w tt_ok 93 (rp 32 0 [1,2]) [] rfl rfl fun K hK => ?_
   simp only [ltb,go_sem,reduceAdd,reduceLT]
   refine hK _ _ rfl ?_
   simp only [mwb,reduceAdd,reduceEqDiff]
   refine t_if rfl (fun hc33 => ?_) (fun hc33 => ?_)
   ·exact absurd hc33 (by simp)
   ·have hml : m.length ≤ 1048576 := by have := selM_length hsm; omega
    obtain ⟨hmk, hmg⟩ := selM_spec hsm
    have hmp := selM_paths hsm hinc
    have hmu := paths_uniq hmp
    have hms : m.Pairwise rlLt := hmp.imp fun h => .inl h
    have hmv : ∀ r ∈ m, r.ver.ok = true := fun r hr => good_ver (hmg r hr)
    have hmr : ∀ r ∈ m, r.reqs.length ≤ 16 := fun r hr => good_reqs (hmg r hr)
    have hmb : ∀ r ∈ m, ∀ q ∈ r.reqs, RqB q := fun r hr => (hb.2 r (good_mem (hmg r hr))).2.2
    have hmt : todoN m [] ≤ 16777216 := by
     refine Nat.le_trans (todoN_le _ _) ?_
     have h1 := flat_len (g := fun r : Rl => r.reqs) (l := m) (k := 16) hmr
     rw [List.length_flatMap] at h1
     omega
    have hS : solveE l roots s = if (m.any fun r => r.reqs.any (brk m)) = true ∨ roots.any (brk m) = true then 17 else if (reached m roots).length < m.length then 8 else 0 := by unfold solveE; rw [if_neg (by simp [hix]), if_pos hinc, hsm]
    refine t_skip ?_
    show Tri _ _ _ _ _ _
    refine t_region_w tt_ok 93 (rp 10 0 (2::(rp 24 0 [1]))) [] rfl rfl fun K hK => ?_
    simp only [ltb,go_sem,reduceAdd,reduceLT,reduceEqDiff]
    refine hK _ _ rfl ?_
    simp only [mwb,reduceAdd,reduceEqDiff]
    refine t_seq ?_
    refine t_region_w tt_ok 93 (rp 36 0 [2,2,2]) [] rfl rfl fun K hK => ?_
    try simp only [ltb]
    simp only [List.length_map,go_sem,reduceAdd,reduceLT]
    refine hK _ _ rfl ?_
    simp only [mwb,reduceAdd,reduceEqDiff]
    refine t_block ?_
    refine t_loopF (fun i : Nat => { fr := [.undef, .slice (roots.map encRq), .undef, .undef, .undef, .undef, .undef, .undef, .undef, .slice (m.map encRl), .ptr 7 0, .undef, .undef, .undef, .undef, .undef, .undef, .undef, .undef, .undef, .undef, .undef, .undef, .undef, .undef, .undef, .undef, .undef, .undef, .undef, .undef, .undef, .undef, .undef, .undef, .undef, .slice (m.map encRl), num m.length, num i, .undef, .undef, .undef, .undef, .undef, .undef, .undef, .undef, .undef, .undef, .undef, .undef, .undef, .undef, .undef, .undef, .undef, .undef, .undef, .undef, .undef, .undef, .undef, .undef, .undef, .undef, .undef, .undef, .undef, .undef, .undef, .undef, .undef, .undef, .undef, .undef, .undef, .undef, .undef, .undef, .undef, .undef, .undef, .undef, .undef, .undef, .undef, .undef, .undef, .undef, .undef, .undef, .undef, .undef], mem := [.box [.slice (l.map encRl), .slice I], .box [.slice (l.map encRl), .slice I], .box [.mp 3, .mp 4], .map (mkM selVal 0 (gK (good l))) (gK (good l)).length, .map (mkM strVal 0 (gP (good l))) (pathsOf (good l)).length, .box [.mp 3, .mp 4], .map (mkM strVal 0 (gB (m.take i))) (gB (m.take i)).length, .box [.mp 6]] }) (fun i => m.length - i) (fun i => i ≤ m.length) (0) 8 (false::true::false::false::false::false::false::false::false::true::true::(rp 25 false [true,true,true])) (by omega) (by simp only [maskFr,belowV,reduceLT,mkb]) (by simp only [gK_below,gP_below,List.all_cons,List.all_nil,belowV,bB_box,bB_map,reduceLT,decide_true,Bool.and_self,List.take_succ_cons,List.take_nil]) (by simp only [maskFr,gB,List.map_nil,mkM,List.length_nil,mkb] <;> rfl) (Nat.zero_le _) ?_
    intro i hi
    refine t_region_w tt_ok 93 (rp 39 0 [2]) [] rfl rfl fun K hK => ?_
    simp only [ltb,go_sem,reduceAdd,reduceLT]
    refine hK _ _ rfl ?_
    simp only [mwb,reduceAdd]
    refine t_seq ?_
    refine t_if rfl (fun hc39 => ?_) (fun hc39 => ?_)
    ·have hlt : i < m.length := by simpa using hc39
     have hw := i64_succ i (by omega)
     obtain ⟨x, hx⟩ : ∃ x, m[i]? = some x := ⟨_, List.getElem?_eq_getElem hlt⟩
     have hxm := List.mem_of_getElem? hx
     have htk : m.take (i + 1) = m.take i ++ [x] := take_snoc hx
     have hnew : ∀ y ∈ m.take i, y.path ≠ x.path := fun y hy => by
      obtain ⟨j, hj⟩ := List.mem_iff_getElem?.1 hy
      have hjl := (List.getElem?_eq_some_iff.1 hj).1
      rw [List.length_take] at hjl
      rw [List.getElem?_take_of_lt (by omega)] at hj
      have h1 := List.pairwise_iff_getElem.1 hmp j i (by omega) (by omega) (by omega)
      rw [(List.getElem?_eq_some_iff.1 hj).2, (List.getElem?_eq_some_iff.1 hx).2] at h1
      exact lt_ne h1
     have hpu := fun (mem : List Blk) (b : Nat) hm => byP_put hnew (mem := mem) (b := b) hm
     simp only [encRl,rlCells,encRqs] at hpu
     refine t_skip ?_
     show Tri _ _ _ _ _ _
     refine t_seq ?_
     refine t_block ?_
     refine t_region_w tt_ok 93 (rp 12 0 (2::(rp 27 0 [1,1]))) [] rfl rfl fun K hK => ?_
     try simp only [ltb]
     simp only [List.getElem?_map,hx,Option.map_some,encRl,rlCells,encRqs,go_sem,reduceAdd,reduceLT,reduceEqDiff]
     refine hK _ _ rfl ?_
     simp only [mwb,reduceAdd,reduceEqDiff]
     refine t_last_region_w tt_ok 93 (rp 42 0 [2,2,2,2]) [] (by kernel_rfl) rfl rfl fun K hK => ?_
     try simp only [ltb]
     simp only [hpu,go_sem,reduceAdd,reduceLT,reduceEqDiff]
     refine hK _ _ rfl ?_
     simp only [mwb,reduceAdd,reduceEqDiff]
     show Tri _ _ _ _ _ _
     refine t_last_region_w tt_ok 93 (rp 38 0 [2,0,0,0,0,0,0,0,2]) [] (by kernel_rfl) rfl rfl fun K hK => ?_
     try simp only [ltb]
     simp only [hw,go_sem,reduceAdd,reduceLT]
     refine hK _ _ rfl ?_
     simp only [mwb,reduceAdd,reduceEqDiff]
     refine ⟨i + 1, ?_, ?_, 8, (false::true::false::false::false::false::false::false::false::true::true::(rp 25 false [true,true,true])), by omega, by simp only [maskFr,belowV,reduceLT,mkb], by simp only [ltb,gK_below,gP_below,gB_below,List.all_cons,List.all_nil,belowV,bB_box,bB_map,reduceLT,decide_true,Bool.and_self], by (simp only [htk,maskFr,mkb])⟩
     ·exact hlt
     ·omega
    ·have hge : ¬ i < m.length := by simpa using hc39
     have hil : i = m.length := by omega
     subst hil
     rw [List.take_length]
     refine t_exit ?_
     show Tri _ _ _ _ _ _
     refine t_region_w tt_ok 93 (rp 13 0 (2::(rp 33 0 [1]))) [] rfl rfl fun K hK => ?_
     simp only [ltb,go_sem,reduceAdd,reduceLT]
     refine hK _ _ rfl ?_
     simp only [mwb,reduceAdd,reduceEqDiff]
     refine t_seq ?_
     refine t_region_w tt_ok 93 (rp 48 0 [2,2,2]) [] rfl rfl fun K hK => ?_
     try simp only [ltb]
     simp only [List.length_map,go_sem,reduceAdd,reduceLT]
     refine hK _ _ rfl ?_
     simp only [mwb,reduceAdd,reduceEqDiff]
     refine t_block ?_
     refine t_loopF (fun i : Nat => { fr := [.undef, .slice (roots.map encRq), .undef, .undef, .undef, .undef, .undef, .undef, .undef, .slice (m.map encRl), .ptr 7 0, .undef, .undef, .clo (.func 52) [] [.ptr 7 0], .undef, .undef, .undef, .undef, .undef, .undef, .undef, .undef, .undef, .undef, .undef, .undef, .undef, .undef, .undef, .undef, .undef, .undef, .undef, .undef, .undef, .undef, .undef, .undef, .undef, .undef, .undef, .undef, .undef, .undef, .undef, .undef, .undef, .undef, .slice (m.map encRl), num m.length, num i, .undef, .undef, .undef, .undef, .undef, .undef, .undef, .undef, .undef, .undef, .undef, .undef, .undef, .undef, .undef, .undef, .undef, .undef, .undef, .undef, .undef, .undef, .undef, .undef, .undef, .undef, .undef, .undef, .undef, .undef, .undef, .undef, .undef, .undef, .undef, .undef, .undef, .undef, .undef, .undef, .undef, .undef], mem := [.box [.slice (l.map encRl), .slice I], .box [.slice (l.map encRl), .slice I], .box [.mp 3, .mp 4], .map (mkM selVal 0 (gK (good l))) (gK (good l)).length, .map (mkM strVal 0 (gP (good l))) (pathsOf (good l)).length, .box [.mp 3, .mp 4], .map (mkM strVal 0 (gB (m))) (gB (m)).length, .box [.mp 6]] }) (fun i => m.length - i) (fun i => i ≤ m.length ∧ ∀ j < i, ∀ x, m[j]? = some x → x.reqs.any (brk m) = false) (0) 8 (false::true::false::false::false::false::false::false::false::true::true::false::false::true::(rp 34 false [true,true,true])) (by omega) (by simp only [maskFr,belowV,belowL,reduceLT,mkb]) (by simp only [gK_below,gP_below,gB_below,List.all_cons,List.all_nil,belowV,bB_box,bB_map,reduceLT,decide_true,Bool.and_self,List.take_succ_cons,List.take_nil]) (by simp only [maskFr,mkb] <;> rfl) (⟨Nat.zero_le _, fun j hj => absurd hj (Nat.not_lt_zero j)⟩) ?_
     rintro i ⟨hi, hall⟩
     refine t_region_w tt_ok 93 (rp 51 0 [2]) [] rfl rfl fun K hK => ?_
     simp only [ltb,go_sem,reduceAdd,reduceLT]
     refine hK _ _ rfl ?_
     simp only [mwb,reduceAdd]
     refine t_seq ?_
     refine t_if rfl (fun hc51 => ?_) (fun hc51 => ?_)
     ·have hlt : i < m.length := by simpa using hc51
      have hw := i64_succ i (by omega)
      obtain ⟨x, hx⟩ : ∃ x, m[i]? = some x := ⟨_, List.getElem?_eq_getElem hlt⟩
      have hxm := List.mem_of_getElem? hx
      refine t_skip ?_
      show Tri _ _ _ _ _ _
      refine t_seq ?_
      refine t_block ?_
      refine t_region_w tt_ok 93 (rp 15 0 (2::(rp 36 0 [1,1]))) [] rfl rfl fun K hK => ?_
      try simp only [ltb]
      simp only [List.getElem?_map,hx,Option.map_some,encRl,rlCells,encRqs,go_sem,reduceAdd,reduceLT,reduceEqDiff]
      refine hK _ _ rfl ?_
      simp only [mwb,reduceAdd,reduceEqDiff]
      refine t_region_w tt_ok 93 (rp 54 0 [1,1,1,2]) [] rfl rfl fun K hK => ?_
      simp only [ltb,go_sem,reduceAdd,reduceLT,reduceEqDiff]
      refine .inl <| callS_ex (any52_at m x.reqs (by have := hmr x hxm; omega) (hmb x hxm) _ 6 7 rfl rfl (by decide)) ?_
      rintro _ rfl
      try simp only [go_sem]
      refine hK _ _ rfl ?_
      simp only [mwb,reduceAdd,reduceEqDiff]
      refine t_if rfl (fun hc57 => ?_) (fun hc57 => ?_)
      ·have hR : (17 : Int) = solveE l roots s := by rw [hS, if_pos (.inl (List.any_eq_true.2 ⟨x, hxm, hc57⟩))]
       refine t_region_w tt_ok 93 [0,0,0,0,0,0,2] [] rfl rfl fun K hK => ?_
       simp only [ltb,go_sem,reduceAdd]
       refine hK _ _ rfl ?_
       simp only [mwb,reduceAdd]
       refine t_ret ?_
       exact ⟨.inl rfl, congrArg (fun x => some (num x)) hR⟩
      ·refine t_skip ?_
       show Tri _ _ _ _ _ _
       refine t_last_region_w tt_ok 93 (rp 50 0 [2,0,0,0,0,0,0,0,2]) [] (by kernel_rfl) rfl rfl fun K hK => ?_
       try simp only [ltb]
       simp only [hw,go_sem,reduceAdd,reduceLT]
       refine hK _ _ rfl ?_
       simp only [mwb,reduceAdd,reduceEqDiff]
       refine ⟨i + 1, ?_, ?_, 8, (false::true::false::false::false::false::false::false::false::true::true::false::false::true::(rp 34 false [true,true,true])), by omega, by simp only [maskFr,belowV,belowL,reduceLT,mkb], by simp only [ltb,gK_below,gP_below,gB_below,List.all_cons,List.all_nil,belowV,bB_box,bB_map,reduceLT,decide_true,Bool.and_self], by (simp only [maskFr,mkb])⟩
       ·refine ⟨hlt, fun j hj y hy => ?_⟩
        rcases Nat.lt_or_ge j i with h | h
        ·exact hall j h y hy
        ·obtain rfl : j = i := by omega
         rw [hx] at hy; cases hy; exact hc57
       ·omega
     ·have hge : ¬ i < m.length := by simpa using hc51
      have hnb : ∀ x ∈ m, x.reqs.any (brk m) = false := fun x hx => by
       obtain ⟨j, hj⟩ := List.mem_iff_getElem?.1 hx
       exact hall j (by have := (List.getElem?_eq_some_iff.1 hj).1; omega) x hj
      refine t_exit ?_
      show Tri _ _ _ _ _ _
      refine t_seq ?_
      refine t_region_w tt_ok 93 (rp 59 0 [1,1,2]) [] rfl rfl fun K hK => ?_
      simp only [ltb,go_sem,reduceAdd,reduceLT,reduceEqDiff]
      refine .inl <| callS_ex (any52_at m roots (by omega) hrb _ 6 7 rfl rfl (by decide)) ?_
      rintro _ rfl
      try simp only [go_sem]
      refine hK _ _ rfl ?_
      simp only [mwb,reduceAdd,reduceEqDiff]
      refine t_if rfl (fun hc61 => ?_) (fun hc61 => ?_)
      ·have hR : (17 : Int) = solveE l roots s := by rw [hS, if_pos (.inr hc61)]
       refine t_region_w tt_ok 93 [0,0,0,0,0,0,2] [] rfl rfl fun K hK => ?_
       simp only [ltb,go_sem,reduceAdd]
       refine hK _ _ rfl ?_
       simp only [mwb,reduceAdd]
       refine t_ret ?_
       exact ⟨.inl rfl, congrArg (fun x => some (num x)) hR⟩
      ·have hok : ∀ q, (q ∈ roots ∨ ∃ a ∈ m, q ∈ a.reqs) → brk m q = false := fun q hq => by
        rcases hq with hq | ⟨a, ha, hq⟩
        ·have := List.any_eq_false.1 hc61 q hq; simpa using this
        ·have := List.any_eq_false.1 (hnb a ha) q hq; simpa using this
       have hS2 : solveE l roots s = if (reached m roots).length < m.length then 8 else 0 := by
        rw [hS, if_neg]
        rintro (h | h)
        ·obtain ⟨a, ha, h⟩ := List.any_eq_true.1 h; rw [hnb a ha] at h; cases h
        ·rw [hc61] at h; cases h
       refine t_skip ?_
       show Tri _ _ _ _ _ _
       refine t_region_w tt_ok 93 (rp 16 0 (2::(rp 45 0 [1]))) [] rfl rfl fun K hK => ?_
       simp only [ltb,go_sem,reduceAdd,reduceLT]
       refine hK _ _ rfl ?_
       simp only [mwb,reduceAdd,reduceEqDiff]
       refine t_region_w tt_ok 93 (rp 17 0 (2::(rp 45 0 [1,1]))) [] rfl rfl fun K hK => ?_
       refine runTm_cut 2 fun K1 hK1 => ?_
       simp only [ltb,go_sem,reduceAdd,reduceLT]
       refine .inl <| callF_w (cloneRqs_at roots (by omega) _) ?_
       rintro _ _ ⟨rfl, rfl⟩
       try simp only [go_sem,reduceAdd]
       try simp only [ltb,List.length_cons,List.length_nil,reduceAdd]
       refine hK1 _ ?_
       simp only [ltb,go_sem,reduceAdd,reduceLT,reduceEqDiff]
       refine hK _ _ rfl ?_
       simp only [mwb,reduceAdd,reduceEqDiff]
       refine t_seq ?_
       refine t_block ?_
       refine t_loopF (fun a : List Rl × List Rq × Nat × Nat × List V => { fr := [.undef, .undef, .undef, .undef, .undef, .undef, .undef, .undef, .undef, .slice (m.map encRl), .ptr 7 0, .undef, .undef, .undef, .undef, .undef, .mp 8, .ms 9 a.2.2.1 a.2.2.2.1 a.2.1.length, .undef, .undef, .undef, .undef, .undef, .undef, .undef, .undef, .undef, .undef, .undef, .undef, .undef, .undef, .undef, .undef, .undef, .undef, .undef, .undef, .undef, .undef, .undef, .undef, .undef, .undef, .undef, .undef, .undef, .undef, .undef, .undef, .undef, .undef, .undef, .undef, .undef, .undef, .undef, .undef, .undef, .undef, .undef, .undef, .undef, .undef, .undef, .undef, .undef, .undef, .undef, .undef, .undef, .undef, .undef, .undef, .undef, .undef, .undef, .undef, .undef, .undef, .undef, .undef, .undef, .undef, .undef, .undef, .undef, .undef, .undef, .undef, .undef, .undef, .undef], mem := [.box [.slice (l.map encRl), .slice I], .box [.slice (l.map encRl), .slice I], .box [.mp 3, .mp 4], .map (mkM selVal 0 (gK (good l))) (gK (good l)).length, .map (mkM strVal 0 (gP (good l))) (pathsOf (good l)).length, .box [.mp 3, .mp 4], .map (mkM strVal 0 (gB (m))) (gB (m)).length, .box [.mp 6], .map (mkM strVal 0 (gN a.1)) (gN a.1).length, .rows a.2.2.1 2 a.2.2.2.2] }) (fun a => a.2.1.length + todoN m a.1) (fun a => RI m roots a.1 a.2.1 (fun _ => False) ∧ a.1.Pairwise (fun x y => x.path ≠ y.path) ∧ a.2.2.2.2.drop a.2.2.2.1 = a.2.1.map encRq ∧ a.2.2.2.1 + a.2.1.length = a.2.2.2.2.length ∧ a.2.1.length + todoN m a.1 ≤ roots.length + 16777216) (([], roots, 1, 0, roots.map encRq)) 10 (rp 9 false [true,true,false,false,false,false,false,true,true]) (by omega) (by simp only [maskFr,belowV,reduceLT,mkb]) (by simp only [gK_below,gP_below,gB_below,List.all_cons,List.all_nil,belowV,bB_box,bB_map,bB_rows,reduceLT,decide_true,Bool.and_self,List.take_succ_cons,List.take_nil]) (by simp only [maskFr,gN,List.map_nil,mkM,List.length_nil,mkb] <;> rfl) (⟨RI.start _ _, List.Pairwise.nil, rfl, by simp, by dsimp only; have := hmt; omega⟩) ?_
       rintro ⟨S, P, v, o, rs⟩ ⟨hRI, hSn, hdr, hol, hW⟩
       dsimp only at hRI hSn hdr hol hW ⊢
       refine t_seq ?_
       refine t_region_w tt_ok 93 (rp 65 0 [1,1,2]) [] rfl rfl fun K hK => ?_
       simp only [ltb,go_sem,reduceAdd,reduceLT,reduceEqDiff]
       refine hK _ _ rfl ?_
       simp only [mwb,reduceAdd,reduceEqDiff]
       refine t_if rfl (fun hc67 => ?_) (fun hc67 => ?_)
       ·obtain ⟨q, P, rfl⟩ : ∃ q P2, P = q :: P2 := by
         cases P with
         | nil => simp at hc67
         | cons q r => exact ⟨q, r, rfl⟩
        simp only [List.length_cons] at hc67 ⊢
        rw [hc67]
        obtain ⟨hRIp, hq⟩ := hRI.pop
        have hrow : rs[o]? = some (encRq q) := by
         have h := congrArg (fun x => x[0]?) hdr
         simpa using h
        have hdr1 : rs.drop (o + 1) = P.map encRq := by
         rw [← List.drop_drop, hdr]; rfl
        have hol1 : o + 1 + P.length = rs.length := by rw [List.length_cons] at hol; omega
        rw [List.length_cons] at hW
        have h0 : (0 : Int) < ((P.length + 1 : Nat) : Int) := by omega
        have h1 : (1 : Int) ≤ ((P.length + 1 : Nat) : Int) := by omega
        have hsub : (((P.length + 1 : Nat) : Int) - 1).toNat = P.length := by omega
        have hcut : ∀ mem : List Blk, mem[9]? = some (.rows v 2 rs) → cutAt mem 2 1 none (.ms 9 v o (P.length + 1)) = some (.ms 9 v (o + 1) P.length) := fun mem hm => by
         unfold cutAt
         simp [sizeOfBlk, hm] <;> omega
        have hqm : q ∈ roots ∨ ∃ a ∈ m, q ∈ a.reqs := by
         rcases hq with hq | ⟨a, ha, hq⟩
         ·exact .inl hq
         ·exact .inr ⟨a, (hRI.sub a ha).mem, hq⟩
        obtain ⟨r, hby, hrm, hhit⟩ := brk_no hmv (hok q hqm)
        have hrp := (byP_spec hby).2
        have hng := fun (mem : List Blk) (b : Nat) hm => need_get S q.path (mem := mem) (b := b) hm
        refine t_skip ?_
        show Tri _ _ _ _ _ _
        refine t_block ?_
        refine t_region_w tt_ok 93 (rp 18 0 (2::(rp 49 0 [1,1,1]))) [] rfl rfl fun K hK => ?_
        try simp only [ltb]
        simp only [hrow,h0,List.length_cons,encRq,encSet,Nat.add_zero,Int.le_refl,Int.toNat_zero,go_sem,reduceAdd,reduceLT,reduceEqDiff]
        refine hK _ _ rfl ?_
        simp only [mwb,reduceAdd,reduceEqDiff]
        refine t_region_w tt_ok 93 (rp 17 0 (2::(rp 53 0 [1,1]))) [] rfl rfl fun K hK => ?_
        try simp only [ltb]
        simp only [hcut,List.length_cons,go_sem,reduceAdd,reduceLT,reduceEqDiff]
        refine hK _ _ rfl ?_
        simp only [mwb,reduceAdd,reduceEqDiff]
        refine t_region_w tt_ok 93 (rp 73 0 [1,1,1,1,2]) [] rfl rfl fun K hK => ?_
        try simp only [ltb]
        simp only [List.length_cons,Nat.add_zero,hng,go_sem,reduceAdd,reduceLT,reduceEqDiff]
        refine hK _ _ rfl ?_
        simp only [mwb,reduceAdd,reduceEqDiff]
        refine t_if rfl (fun hc77 => ?_) (fun hc77 => ?_)
        ·have hsn : seenP S q.path = false := by simpa using hc77
         have hSnew : ∀ x ∈ S, x.path ≠ r.path := fun x hx he => by
          have : seenP S q.path = true := by unfold seenP; exact List.any_eq_true.2 ⟨x, hx, by rw [he, hrp]; simp⟩
          rw [hsn] at this; cases this
         have hkn : seen S r.key = false := by
          cases hk : seen S r.key with
          | false => rfl
          | true => obtain ⟨x, hx, he⟩ := seen_iff.1 hk; exact absurd (congrArg Sel.path he) (hSnew x hx)
         have hpu := fun (mem : List Blk) (b : Nat) hm => need_put hSnew (mem := mem) (b := b) hm
         rw [hrp] at hpu
         have hbg := fun (mem : List Blk) (b : Nat) hm => byP_get hby (mem := mem) (b := b) hm
         simp only [encRl,rlCells,encRqs] at hbg
         have htd := todoN_see hms hrm hkn
         have hrq := hmr r hrm
         have hfo := cloneRqs_ok_first r.reqs
         have hbd : P.length + r.reqs.length ≤ 34359738368 := by omega
         refine t_region_w tt_ok 93 (rp 78 0 [1,1,1]) [] rfl rfl fun K hK => ?_
         try simp only [ltb]
         simp only [List.length_cons,Nat.add_zero,hpu,go_sem,reduceAdd,reduceLT,reduceEqDiff]
         refine hK _ _ rfl ?_
         simp only [mwb]
         refine t_last_region_w tt_ok 93 (rp 17 0 (2::(rp 63 0 [2,2,2,2,2,2,2]))) [] (by kernel_rfl) rfl rfl fun K hK => ?_
         refine runTm_cut 7 fun K1 hK1 => ?_
         simp only [ltb]
         simp only [List.length_cons,Nat.add_zero,hbg,hol1,hfo,hbd,fld40,List.length_map,go_sem,reduceAdd,reduceLT,reduceLeDiff,reduceEqDiff]
         intro o2 rs2 hd2 hl2
         try rw [List.length_map] at hl2
         let nv : List Rl × List Rq × Nat × Nat × List V := (S ++ [r], P ++ r.reqs, v + 1, o2, rs2)
         have hnv : RI m roots (S ++ [r]) (P ++ r.reqs) (fun _ => False) ∧ (S ++ [r]).Pairwise (fun x y => x.path ≠ y.path) ∧ rs2.drop o2 = (P ++ r.reqs).map encRq ∧ o2 + (P ++ r.reqs).length = rs2.length ∧ (P ++ r.reqs).length + todoN m (S ++ [r]) ≤ roots.length + 16777216 := by
          refine ⟨(hRIp.see hq hrm hhit).close fun y hy hh => ?_, ?_, by rw [hd2, hdr1, List.map_append], by rw [List.length_append]; omega, by rw [List.length_append]; omega⟩
          ·rw [hmu y hy r hrm (by rw [hrp]; exact (hits_path hh).symm)]; simp
          ·exact List.pairwise_append.2 ⟨hSn, List.pairwise_singleton _ _, fun x hx y hy => by rw [List.mem_singleton] at hy; exact hy ▸ hSnew x hx⟩
         refine hK1 _ ?_
         try simp only [ltb]
         simp only [List.length_cons,go_sem,reduceAdd,reduceLT,reduceEqDiff]
         refine hK _ _ rfl ?_
         simp only [mwb,reduceAdd,reduceEqDiff]
         refine ⟨nv, ?_, ?_, 10, (rp 9 false [true,true,false,false,false,false,false,true,true]), by omega, by simp only [maskFr,belowV,reduceLT,mkb], by simp only [ltb,gK_below,gP_below,gB_below,gN_below,List.all_cons,List.all_nil,belowV,bB_box,bB_map,bB_rows,reduceLT,decide_true,Bool.and_self], by (simp only [nv,List.length_append,maskFr,mkb])⟩
         ·exact hnv
         ·dsimp only [nv]; omega
        ·have hsn : seenP S q.path = true := by simpa using hc77
         have hrS : r ∈ S := by
          unfold seenP at hsn
          obtain ⟨x, hx, he⟩ := List.any_eq_true.1 hsn
          have he := of_decide_eq_true he
          rw [← hmu x (hRI.sub x hx).mem r hrm (by rw [he, hrp])]; exact hx
         let nv : List Rl × List Rq × Nat × Nat × List V := (S, P, v, o + 1, rs)
         have hnv : RI m roots S P (fun _ => False) ∧ S.Pairwise (fun x y => x.path ≠ y.path) ∧ rs.drop (o + 1) = P.map encRq ∧ o + 1 + P.length = rs.length ∧ P.length + todoN m S ≤ roots.length + 16777216 := by
          refine ⟨hRIp.close fun y hy hh => ?_, hSn, hdr1, hol1, by omega⟩
          rw [hmu y hy r hrm (by rw [hrp]; exact (hits_path hh).symm)]; exact hrS
         refine t_skip ?_
         refine ⟨nv, ?_, ?_, 10, (rp 9 false [true,true,false,false,false,false,false,true,true]), by omega, by simp only [maskFr,belowV,reduceLT,mkb], by simp only [ltb,gK_below,gP_below,gB_below,gN_below,List.all_cons,List.all_nil,belowV,bB_box,bB_map,bB_rows,reduceLT,decide_true,Bool.and_self], by (simp only [nv,maskFr,mkb])⟩
         ·exact hnv
         ·dsimp only [nv]; omega
       ·obtain rfl : P = [] := by
         cases P with
         | nil => rfl
         | cons q r => simp at hc67
        have hSl : S.length = (reached m roots).length := by
         classical
         refine sub_len (S := S) (T := reached m roots) (hSn.imp fun h => fun e => h (congrArg Rl.path e)) ?_ fun x => by rw [hRI.fin, mem_reached]
         unfold reached
         exact List.Pairwise.filter _ (hms.imp fun h => fun e => rlLt_key h (congrArg Rl.key e))
        have hml2 : ((mkM strVal 0 (gN S)).length : Int) = S.length := map_len
        refine t_exit ?_
        show Tri _ _ _ _ _ _
        refine t_seq ?_
        refine t_region_w tt_ok 93 (rp 88 0 [1,1,1,1,2]) [] rfl rfl fun K hK => ?_
        try simp only [ltb]
        simp only [hml2,lenM,lenV,List.length_map,go_sem,reduceAdd,reduceLT,reduceEqDiff]
        refine hK _ _ rfl ?_
        simp only [mwb,reduceAdd,reduceEqDiff]
        refine t_if rfl (fun hc92 => ?_) (fun hc92 => ?_)
        ·have hR : (8 : Int) = solveE l roots s := by rw [hS2, if_pos (by have := of_decide_eq_true hc92; omega)]
         refine t_region_w tt_ok 93 [0,0,0,0,0,0,2] [] rfl rfl fun K hK => ?_
         simp only [ltb,go_sem,reduceAdd]
         refine hK _ _ rfl ?_
         simp only [mwb,reduceAdd]
         refine t_ret ?_
         exact ⟨.inl rfl, congrArg (fun x => some (num x)) hR⟩
        ·have hR : (0 : Int) = solveE l roots s := by rw [hS2, if_neg (by have := of_decide_eq_false hc92; omega)]
         refine t_skip ?_
         show Tri _ _ _ _ _ _
         refine t_region_w tt_ok 93 [0,0,0,0,0,0,2] [] rfl rfl fun K hK => ?_
         simp only [ltb,go_sem,reduceAdd]
         refine hK _ _ rfl ?_
         simp only [mwb,reduceAdd]
         refine t_ret ?_
         exact ⟨.inl rfl, congrArg (fun x => some (num x)) hR⟩
end Go.Proofs.YtnfeacnbgbggfaaGreatDoor
end

section
namespace Go.Proofs.YtnfeacnbgbggfaaGreatDoor
open Go.Eng
variable [Glob]
def pA : ByteArray := ⟨#[97,47,118,49]⟩
def pB : ByteArray := ⟨#[98,47,118,49]⟩
def e0 : ByteArray := ⟨#[]⟩
def exR (p : ByteArray) (b : Int) (q : List Rq) (y : Bool) : Rl := ⟨p, ⟨1, b, 0⟩, q, e0, e0, e0, y⟩
def exQ : List Rq := [⟨pB, [⟨1000, 1000000⟩]⟩]
def xA : Rl := exR pA 0 exQ false
def xB0 : Rl := exR pB 0 [] false
def xB1 : Rl := exR pB 1 [] false
def xB2 : Rl := exR pB 2 [] true
def exL : List Rl := [xA, xB0, xB1, xB2]
def exRoots : List Rq := [⟨pA, [⟨0, 1000000⟩]⟩]
def exS : List Sel := [⟨pA, ⟨1, 0, 0⟩⟩, ⟨pB, ⟨1, 0, 0⟩⟩]
def exG : List Sel := [⟨pA, ⟨1, 0, 0⟩⟩, ⟨pB, ⟨1, 1, 0⟩⟩]
theorem ex_ix : ixE exL = 0 := by kernel_rfl
theorem ex_ixA : ixE [xA] = 0 := by kernel_rfl
theorem ex_good : good exL = exL := by unfold good; rw [if_pos ex_ix]
theorem ex_b : IxB exL := by
 refine ⟨by decide, fun r hr => ?_⟩
 unfold exL at hr
 simp only [List.mem_cons,List.not_mem_nil,or_false] at hr
 rcases hr with rfl | rfl | rfl | rfl
 ·refine ⟨by decide, by decide, fun q hq => ?_⟩
  unfold xA exR exQ at hq
  simp only [List.mem_cons,List.not_mem_nil,or_false] at hq
  subst hq
  exact ⟨by decide, by decide⟩
 ·exact ⟨by decide, by decide, fun q hq => by simp [xB0, exR] at hq⟩
 ·exact ⟨by decide, by decide, fun q hq => by simp [xB1, exR] at hq⟩
 ·exact ⟨by decide, by decide, fun q hq => by simp [xB2, exR] at hq⟩
theorem ex_rb : ∀ q ∈ exRoots, RqB q := fun q hq => by
 unfold exRoots at hq
 simp only [List.mem_cons,List.not_mem_nil,or_false] at hq
 subst hq
 exact ⟨by decide, by decide⟩
theorem rchA {l : List Rl} (h : xA ∈ l) : Rch l exRoots xA := .root _ _ (List.mem_singleton.2 rfl) h (by kernel_rfl)
theorem rchB {l : List Rl} (h : xA ∈ l) {r : Rl} (hr : r ∈ l) (hh : hits ⟨pB, [⟨1000, 1000000⟩]⟩ r = true) : Rch l exRoots r := .step xA _ r (rchA h) (List.mem_singleton.2 rfl) hr hh
theorem ex_no : ¬ Rch exL exRoots xB0 := fun h => by
 have key := rch_iff (l := exL) (roots := exRoots) (fun r => r ∈ exL ∧ r ≠ xB0 ∧ Rch exL exRoots r) (fun r h => h.2.2) (fun q hq r hr hh => ?_) (fun a ha q hq r hr hh => ?_) xB0
 ·exact ((key.2 h).2.1) rfl
 ·refine ⟨hr, fun e => ?_, .root q r hq hr hh⟩
  subst e
  unfold exRoots at hq
  rw [List.mem_singleton] at hq
  subst hq
  exact absurd hh (by rw [show hits ⟨pA, [⟨0, 1000000⟩]⟩ xB0 = false from by kernel_rfl]; decide)
 ·refine ⟨hr, fun e => ?_, .step a q r ha.2.2 hq hr hh⟩
  subst e
  have h1 := ha.1
  unfold exL at h1
  simp only [List.mem_cons,List.not_mem_nil,or_false] at h1
  rcases h1 with rfl | rfl | rfl | rfl
  ·unfold xA exR exQ at hq
   rw [List.mem_singleton] at hq
   subst hq
   exact absurd hh (by rw [show hits ⟨pB, [⟨1000, 1000000⟩]⟩ xB0 = false from by kernel_rfl]; decide)
  ·simp [xB0, exR] at hq
  ·simp [xB1, exR] at hq
  ·simp [xB2, exR] at hq
theorem ex_reach : (reached (good exL) exRoots).length = 3 := by
 rw [ex_good]
 have hA : Rch exL exRoots xA := rchA (by simp [exL])
 have h1 : Rch exL exRoots xB1 := rchB (by simp [exL]) (by simp [exL]) (by kernel_rfl)
 have h2 : Rch exL exRoots xB2 := rchB (by simp [exL]) (by simp [exL]) (by kernel_rfl)
 unfold reached
 show (List.filter _ [xA, xB0, xB1, xB2]).length = 3
 rw [List.filter_cons_of_pos (by simpa using hA), List.filter_cons_of_neg (by simpa using ex_no), List.filter_cons_of_pos (by simpa using h1), List.filter_cons_of_pos (by simpa using h2)]
 rfl
theorem ex_solveS : solveE exL exRoots exS = 17 := by
 unfold solveE
 rw [if_neg (by rw [ex_ix]; simp), if_pos (show incr exS = true by kernel_rfl), show selM exL exS = some [xA, xB0] by kernel_rfl]
 exact if_pos (.inl (by kernel_rfl))
theorem ex_solveG : solveE exL exRoots exG = 0 := by
 unfold solveE
 rw [if_neg (by rw [ex_ix]; simp), if_pos (show incr exG = true by kernel_rfl), show selM exL exG = some [xA, xB1] by kernel_rfl]
 dsimp only
 rw [if_neg (by rw [show ([xA, xB1].any fun r => r.reqs.any (brk [xA, xB1])) = false by kernel_rfl, show exRoots.any (brk [xA, xB1]) = false by kernel_rfl]; simp)]
 have hA : Rch [xA, xB1] exRoots xA := rchA (by simp)
 have h1 : Rch [xA, xB1] exRoots xB1 := rchB (by simp) (by simp) (by kernel_rfl)
 have : reached [xA, xB1] exRoots = [xA, xB1] := by
  unfold reached
  rw [List.filter_cons_of_pos (by simpa using hA), List.filter_cons_of_pos (by simpa using h1)]
  rfl
 rw [this]
 rfl
theorem ex_avail : canon (avL (atP (good exL) pB)) = [⟨0, 1⟩, ⟨1000, 1001⟩] := by rw [ex_good]; kernel_rfl
theorem example_ok (hG : Glob.g = some 0) : FnOk Tryz.prog 45 [] (.agg [.slice [.agg [str pA, num 1, num 0, num 0, .slice [.agg [str pB, .slice [.agg [num 1000, num 1000000]]]], str e0, str e0, str e0, bl false], .agg [str pB, num 1, num 0, num 0, .slice [], str e0, str e0, str e0, bl false],
  .agg [str pB, num 1, num 1, num 0, .slice [], str e0, str e0, str e0, bl false], .agg [str pB, num 1, num 2, num 0, .slice [], str e0, str e0, str e0, bl true]], .slice []]) := ev_call noOrc_ok (natS_ok hG) 200 (by kernel_rfl)
end Go.Proofs.YtnfeacnbgbggfaaGreatDoor
end

section
namespace Go.Proofs.YtnfeacnbgbggfaaGreatDoor
open Go.Eng
open Nat (reduceAdd reduceLT reduceLeDiff reduceMul reduceEqDiff reduceSub)
variable [Glob]
set_option maxHeartbeats 4000000
set_option maxRecDepth 100000
attribute [local irreducible] runM stepM valD stepOp stepD callF callS
theorem awake_ok (hG : Glob.g = some 0) : ∃ r_, (fun w => w = bl (true)) r_ ∧ FnOk Tryz.prog 9 [] r_ := by
 refine fn_ex tt_ok (fn := Tryz.f9) Tryz.func9 rfl Tryz.call9 ?_
 simp only [startSt,Tryz.ntmps9,List.length_nil,reduceSub,List.replicate_succ,List.replicate_zero,List.nil_append]
 obtain ⟨RE, hRE⟩ : ∃ x, x = (reached (good exL) exRoots).map Rl.key := ⟨_, rfl⟩
 have hl3 : ((RE.length : Nat) : Int) = 3 := by rw [hRE, List.length_map, ex_reach]; rfl
 have hman : ∀ (mem : List Blk) (ks : List (Nat × Nat)) (n : Int), memAfter mem ks (num n) = mem := fun _ _ _ => rfl
 have hmab : ∀ (mem : List Blk) (ks : List (Nat × Nat)) (b : Bool), memAfter mem ks (bl b) = mem := fun _ _ _ => rfl
 have hbA : RlB xA := ex_b.2 xA (by simp [exL])
 have hmL : (manB xA).length ≤ 1048576 := by have h := man_len (rl_wf (ix_one xA ▸ ex_ixA)) (by kernel_rfl); omega
 obtain ⟨MS, hMS⟩ : ∃ x, x = bs (manB xA) := ⟨_, rfl⟩
 have hMSl : MS.size ≤ 1048576 := by rw [hMS, bs_size]; exact hmL
 refine ex_region_w tt_ok 89 [2] [] rfl rfl fun K hK => ?_
 simp only [ltb,go_sem]
 refine hK _ _ rfl ?_
 simp only [mwb]
 refine ex_region_w tt_ok 89 (0::2::(rp 9 0 [1])) [] rfl rfl fun K hK => ?_
 refine runX_cut 1 fun K1 hK1 => ?_
 simp only [ltb,go_sem]
 refine callF_ex (by have h : ∃ r_, (fun w => w = V.agg _) r_ ∧ FnOk Tryz.prog 45 [] r_ := ⟨_, rfl, example_ok hG⟩; simp only [pA,pB,e0] at h; exact h) ?_
 rintro _ rfl
 try simp only [go_sem]
 refine hK1 _ ?_
 simp only [ltb,go_sem,reduceAdd,reduceLT,reduceEqDiff]
 refine hK _ _ rfl ?_
 simp only [mwb,reduceAdd,reduceEqDiff]
 refine ex_region_k (ws := ?ws) (mem' := ?mm) tt_ok 89 [0,0,2,0,0,0,0,0,0,0,0,0,1,1,1,1] [] (by kernel_rfl) (by kernel_rfl) (fun K hK => ?h1) ?h2 ?h3
 case h1 =>
  simp only [litP,evP,keysOf,go_sem,reduceAdd,reduceLT,reduceLeDiff,reduceMul,reduceEqDiff,reduceCtorEq]
  exact hK
 case h2 => kernel_rfl
 simp only [mwb,reduceAdd,reduceEqDiff]
 refine ex_region_w tt_ok 89 (0::0::0::2::2::(rp 11 0 [1,1])) [] rfl rfl fun K hK => ?_
 simp only [ltb,go_sem,reduceAdd,reduceLT,reduceLeDiff,reduceEqDiff,reduceCtorEq]
 refine hK _ _ rfl ?_
 simp only [mwb,reduceAdd,reduceEqDiff]
 refine ex_region_w tt_ok 89 (0::0::0::0::0::2::(rp 12 0 [1,1,1,1,1])) [] rfl rfl fun K hK => ?_
 simp only [ltb,go_sem,reduceAdd,reduceLT,reduceLeDiff,reduceMul,reduceEqDiff,reduceCtorEq]
 refine hK _ _ rfl ?_
 simp only [mwb,reduceAdd,reduceEqDiff]
 refine ex_region_w tt_ok 89 (0::0::0::0::0::0::2::(rp 16 0 [1,1,1,1,1])) [] rfl rfl fun K hK => ?_
 try simp only [ltb]
 simp only [ltb,go_sem,reduceAdd,reduceLT,reduceLeDiff,reduceMul,reduceEqDiff,reduceCtorEq]
 refine hK _ _ rfl ?_
 simp only [mwb,reduceAdd,reduceEqDiff]
 refine ex_region_w tt_ok 89 (0::0::0::0::0::0::0::2::2::(rp 19 0 (rp 8 1 []))) [] rfl rfl fun K hK => ?_
 try simp only [ltb]
 refine runX_cut 5 fun K1 hK1 => ?_
 simp only [ltb,go_sem,reduceAdd,reduceLT,reduceEqDiff]
 refine callF_ex (by have h := manifest_ok hG xA hbA; rw [manV_ok ex_ixA, ← hMS] at h; simp only [xA,exR,exQ,pA,pB,e0,encRqs,List.map_cons,List.map_nil,encRl,rlCells,encRq,encSet,encSpn] at h; exact h) ?_
 rintro _ rfl
 try simp only [go_sem]
 refine hK1 _ ?_
 simp only [ltb,go_sem,reduceLT,reduceEqDiff]
 refine hK _ _ rfl ?_
 simp only [mwb,reduceAdd,reduceEqDiff]
 refine ex_region_w tt_ok 89 (rp 9 0 (2::2::(rp 25 0 [1,1,1,1,1]))) [] rfl rfl fun K hK => ?_
 refine runX_cut 2 fun K1 hK1 => ?_
 simp only [ltb,go_sem,reduceLT]
 refine callF_ex (by have h := read_ok hG MS hMSl; rw [hMS, read_man ex_ixA hbA hmL, ← hMS] at h; simp only [xA,exR,exQ,pA,pB,e0,encRqs,List.map_cons,List.map_nil,encRl,rlCells,encRq,encSet,encSpn] at h; exact h) ?_
 rintro _ rfl
 try simp only [go_sem]
 refine hK1 _ ?_
 simp only [ltb,go_sem,reduceAdd,reduceLT,reduceEqDiff]
 refine hK _ _ rfl ?_
 simp only [mwb,reduceAdd,reduceEqDiff]
 refine ex_frz (v' := .slice [.agg [str ⟨#[97,47,118,49]⟩, .slice [.agg [num 0, num 1000000]]]]) 2 rfl rfl ?_
 simp only [ref1,refCell,frzAll,frz1,List.foldl_cons,List.foldl_nil,List.getElem?_cons_succ,List.getElem?_cons_zero,if_true,List.set_cons_zero,List.set_cons_succ]
 refine ex_frz (v' := .slice [.agg [str ⟨#[97,47,118,49]⟩, num 1, num 0, num 0], .agg [str ⟨#[98,47,118,49]⟩, num 1, num 0, num 0]]) 5 rfl rfl ?_
 simp only [ref1,refCell,frzAll,frz1,List.foldl_cons,List.foldl_nil,List.set_cons_zero,List.set_cons_succ]
 refine ex_frz (v' := .slice [.agg [str ⟨#[97,47,118,49]⟩, num 1, num 0, num 0], .agg [str ⟨#[98,47,118,49]⟩, num 1, num 1, num 0]]) 6 rfl rfl ?_
 simp only [ref1,refCell,frzAll,frz1,List.foldl_cons,List.foldl_nil,List.set_cons_zero,List.set_cons_succ]
 refine ex_mixed_w tt_ok mixed_ok 89 [2,0,0,0,0,0,0,0,0,0,0,0,0,0,0,0,0,0,0,0,0,0,0,0,0,0,0,0,0,0,0,0,0,0,0,0,0,0,0,0,0,1,1,1,1,1,1,1,1,1,1,1,1,1,1,1,1,1,1,1,1,1,1,1,1,1,1,1,1,1,1,1,1,1,1,1,1,1,1,1,1,1,1,1,1,1,1,1,1] (by kernel_rfl) [⟨.r, 0, [], [], []⟩, ⟨.n, 0, [], [], []⟩, ⟨.n, 0, [], [], []⟩, ⟨.n, 0, [], [], []⟩, ⟨.r, 0, [], [], []⟩, ⟨.n, 0, [], [], []⟩, ⟨.n, 0, [], [], []⟩, ⟨.n, 0, [], [], []⟩, ⟨.n, 0, [], [], []⟩, ⟨.n, 0, [], [], []⟩, ⟨.n, 0, [], [], []⟩, ⟨.r, 0, [], [], []⟩, ⟨.n, 0, [], [], []⟩, ⟨.n, 0, [], [], []⟩, ⟨.n, 0, [], [], []⟩, ⟨.n, 0, [], [], []⟩, ⟨.n, 0, [], [], []⟩, ⟨.n, 0, [], [], []⟩, ⟨.n, 0, [], [], []⟩, ⟨.r, 0, [], [], []⟩, ⟨.n, 0, [], [], []⟩, ⟨.n, 0, [], [], []⟩, ⟨.n, 0, [], [], []⟩, ⟨.n, 0, [], [], []⟩, ⟨.n, 0, [], [], []⟩, ⟨.n, 0, [], [], []⟩, ⟨.r, 0, [], [], []⟩, ⟨.n, 0, [], [], []⟩, ⟨.n, 0, [], [], []⟩, ⟨.n, 0, [], [], []⟩, ⟨.n, 0, [], [], []⟩, ⟨.n, 0, [], [], []⟩, ⟨.n, 0, [], [], []⟩, ⟨.n, 0, [], [], []⟩, ⟨.n, 0, [], [], []⟩, ⟨.n, 0, [], [], []⟩, ⟨.n, 0, [], [], []⟩, ⟨.n, 0, [], [], []⟩, ⟨.n, 0, [], [], []⟩, ⟨.n, 0, [], [], []⟩, ⟨.n, 0, [], [], []⟩, ⟨.r, 0, [], [], []⟩, ⟨.n, 0, [], [], []⟩, ⟨.r, 0, [], [], []⟩, ⟨.r, 0, [], [], []⟩, ⟨.r, 0, [], [], []⟩, ⟨.n, 0, [], [], []⟩, ⟨.n, 0, [], [], []⟩, ⟨.n, 0, [], [], []⟩] 0 (by kernel_rfl) fun K hK => ?_
 try simp only [ltb,List.replicate_zero]
 refine runM_cut 2 (by simp) (by simp) fun K1 hK1 => ?_
 simp only [ltb,go_sem,reduceAdd,reduceLT]
 refine callD_ex rfl (by have h := check_ok hG exL [] ex_b; rw [ex_ix] at h; simp only [exL,xA,xB0,xB1,xB2,exR,exQ,pA,pB,e0,encIx,encRls,encRqs,List.map_cons,List.map_nil,encRl,rlCells,encRq,encSet,encSpn] at h; exact h) ?_
 rintro _ rfl
 try simp only [go_sem]
 refine hK1 _ ?_
 refine runM_cut 2 (by simp) (by simp) fun K1 hK1 => ?_
 simp only [ltb,go_sem,reduceAdd,reduceLT,reduceEqDiff]
 refine hK1 _ ?_
 refine runM_case 44 (by rfl) fun b hb8_3 => ?_
 cases b
 ·exact absurd hb8_3 (by simp)
 ·refine runM_cut 3 (by simp) (by simp) fun K1 hK1 => ?_
  simp only [ltb,go_sem,reduceAdd,reduceLT,reduceEqDiff]
  refine callD_ex rfl (by have h := reach_ok hG exL [] ex_b exRoots (by decide) ex_rb; rw [← hRE] at h; simp only [exL,exRoots,xA,xB0,xB1,xB2,exR,exQ,pA,pB,e0,encIx,encRls,encRqs,encSels,List.map_cons,List.map_nil,encRl,rlCells,encRq,encSet,encSpn] at h; exact ⟨_, rfl, h⟩) ?_
  rintro _ rfl
  try simp only [go_sem]
  refine hK1 _ ?_
  refine runM_cut 4 (by simp) (by simp) fun K1 hK1 => ?_
  try simp only [ltb]
  simp only [List.length_map,hl3,go_sem,reduceAdd,reduceLT,reduceEqDiff]
  refine hK1 _ ?_
  refine runM_case 51 (by rfl) fun b hb8_10 => ?_
  cases b
  ·exact absurd hb8_10 (by simp)
  ·refine runM_cut 2 (by simp) (by simp) fun K1 hK1 => ?_
   simp only [ltb,go_sem,reduceAdd,reduceLT,reduceEqDiff]
   refine callD_ex rfl (by have h := avail_ok hG exL [] ex_b pB; rw [ex_avail] at h; simp only [exL,xA,xB0,xB1,xB2,exR,exQ,pA,pB,e0,encIx,encRls,encRqs,List.map_cons,List.map_nil,encRl,rlCells,encRq,encSet,encSpn] at h; exact ⟨_, rfl, h⟩) ?_
   rintro _ rfl
   try simp only [go_sem]
   refine hK1 _ ?_
   refine runM_cut 4 (by simp) (by simp) fun K1 hK1 => ?_
   simp only [ltb,go_sem,reduceAdd,reduceLT,reduceLeDiff,reduceMul,reduceEqDiff,reduceCtorEq]
   refine callD_ex rfl (by have h := same_ok [⟨0, 1⟩, ⟨1000, 1001⟩] [⟨0, 1⟩, ⟨1000, 1001⟩] (by decide); rw [show decide (([⟨0, 1⟩, ⟨1000, 1001⟩] : List Spn) = [⟨0, 1⟩, ⟨1000, 1001⟩]) = true from decide_eq_true rfl] at h; simp only [List.map_cons,List.map_nil,encSet,encSpn] at h; exact h) ?_
   rintro _ rfl
   try simp only [go_sem]
   refine hK1 _ ?_
   refine runM_cut 2 (by simp) (by simp) fun K1 hK1 => ?_
   simp only [ltb,go_sem,reduceAdd,reduceLT,reduceEqDiff]
   refine hK1 _ ?_
   refine runM_case 59 (by rfl) fun b hb8_18 => ?_
   cases b
   ·exact absurd hb8_18 (by simp)
   ·refine runM_cut 4 (by simp) (by simp) fun K1 hK1 => ?_
    simp only [ltb,go_sem,reduceAdd,reduceLT,reduceEqDiff]
    refine callD_ex rfl (by have h := solves_ok hG exL [] ex_b exRoots (by decide) ex_rb exS (by decide); rw [ex_solveS] at h; simp only [exL,exRoots,exS,xA,xB0,xB1,xB2,exR,exQ,pA,pB,e0,encIx,encRls,encRqs,encSels,List.map_cons,List.map_nil,encRl,rlCells,encRq,encSet,encSpn,encSel] at h; exact ⟨_, rfl, h⟩) ?_
    rintro _ rfl
    try simp only [go_sem]
    refine hK1 _ ?_
    refine runM_cut 3 (by simp) (by simp) fun K1 hK1 => ?_
    simp only [ltb,go_sem,reduceAdd,reduceLT,reduceEqDiff]
    refine hK1 _ ?_
    refine runM_case 66 (by rfl) fun b hb8_25 => ?_
    cases b
    ·exact absurd hb8_25 (by simp)
    ·refine runM_cut 4 (by simp) (by simp) fun K1 hK1 => ?_
     simp only [ltb,go_sem,reduceAdd,reduceLT,reduceEqDiff]
     refine callD_ex rfl (by have h := solves_ok hG exL [] ex_b exRoots (by decide) ex_rb exG (by decide); rw [ex_solveG] at h; simp only [exL,exRoots,exG,xA,xB0,xB1,xB2,exR,exQ,pA,pB,e0,encIx,encRls,encRqs,encSels,List.map_cons,List.map_nil,encRl,rlCells,encRq,encSet,encSpn,encSel] at h; exact ⟨_, rfl, h⟩) ?_
     rintro _ rfl
     try simp only [go_sem]
     refine hK1 _ ?_
     refine runM_cut 3 (by simp) (by simp) fun K1 hK1 => ?_
     simp only [ltb,go_sem,reduceAdd,reduceLT,reduceEqDiff]
     refine hK1 _ ?_
     refine runM_case 73 (by rfl) fun b hb8_32 => ?_
     cases b
     ·exact absurd hb8_32 (by simp)
     ·refine runM_cut 4 (by simp) (by simp) fun K1 hK1 => ?_
      simp only [ltb,go_sem,reduceAdd,reduceLT,reduceEqDiff]
      refine hK1 _ ?_
      refine runM_case 77 (by rfl) fun b hb8_36 => ?_
      cases b
      ·exact absurd hb8_36 (by simp)
      ·refine runM_cut 4 (by simp) (by simp) fun K1 hK1 => ?_
       simp only [ltb,go_sem,reduceAdd,reduceLT,reduceEqDiff]
       refine hK1 _ ?_
       refine runM_case 81 (by rfl) fun b hb8_40 => ?_
       cases b
       ·exact absurd hb8_40 (by simp)
       ·refine runM_cut 6 (by simp) (by simp) fun K1 hK1 => ?_
        simp only [ltb,go_sem,reduceAdd,reduceLT,reduceEqDiff]
        refine callD_ex rfl (by have h := sameRl_ok xA xA hbA; rw [show decide (xA = xA) = true from decide_eq_true rfl] at h; simp only [xA,exR,exQ,pA,pB,e0,encRqs,List.map_cons,List.map_nil,encRl,rlCells,encRq,encSet,encSpn] at h; exact h) ?_
        rintro _ rfl
        try simp only [go_sem]
        refine hK1 _ ?_
        simp only [ltb,go_sem,reduceAdd,reduceLT,reduceEqDiff]
        refine hK _ _ rfl ?_
        simp only [mwb,reduceEqDiff]
        exact ex_ret ⟨.inl rfl, _, rfl, rfl⟩
end Go.Proofs.YtnfeacnbgbggfaaGreatDoor
end

section
namespace Go.Proofs.YtnfeacnbgbggfaaGreatDoor
open Go.Eng
set_option maxRecDepth 100000
open Go.ChangeShapes Go.WideShapes Go.ChangeAt Go.RowKit
@[reducible] def gOf (n : Int) : Glob := { n := n, κ := fun _ => none, ok := fun j b hb => (by cases hb), g := some 0, tabs := fun _ => none }
theorem cell_int {W : World} {v : Value} (hok : Cell.ok Tryz.prog W .any 0 3 v) : ∃ n : Int, v = .int .i64 n := by
 unfold Cell.ok at hok
 rw [Tryz.underlying3] at hok
 cases v with
 | int k n => exact ⟨n, by rw [show k = .i64 from hok.1]⟩
 | _ => exact hok.elim
theorem maxLen_at {W : World} (hS : W.ShapedOpen Tryz.prog) : ∃ n : Int, W.cell? ⟨0, 0, none⟩ = some (.int .i64 n) := by
 have h0 : (((begin Tryz.prog (fun _ _ => 0) default).world.heap[0]?).bind Obj.row?) = some (#[.int .i64 0], 3) := by kernel_rfl
 obtain ⟨cs, hc, hz, hr⟩ := hS.1 0 _ _ (of_decide_eq_true (by kernel_rfl)) h0
 obtain ⟨ts, h1, -, h3⟩ := hr (by kernel_rfl)
 obtain rfl : [3] = ts := Option.some.inj ((show Tryz.prog.cellTypes Tryz.prog.depth 3 = some [3] by kernel_rfl).symm.trans h1)
 have hz' : cs.size = 1 := hz
 obtain ⟨v, hv⟩ : ∃ v, cs[0]? = some v := ⟨cs[0], Array.getElem?_eq_getElem (by omega)⟩
 obtain ⟨u, hu, hok⟩ := h3 0 v hv
 obtain rfl : 3 = u := by simpa using hu
 obtain ⟨n, rfl⟩ := cell_int hok
 exact ⟨n, by simp [World.cell?, hc, hv]⟩
theorem rep_one {F : Addr → Option Value} [Glob] {hg : Gl F} {cs : List V} {v : Value} (hne : cs.length ≠ 1) (h : Rd F hg cs v.cells.toList) : Rep ⟨F, fun _ _ => none, hg⟩ (.agg cs) v := by
 cases v with
 | agg xs => exact .agg _ _ _ (by simpa [Value.cells] using h.1.1) fun i c x hc hx => h.1.2 i c x hc (by simpa [Value.cells] using hx)
 | _ => exact absurd h.1.1 (by simpa [Value.cells] using hne)
theorem post_kept {H : Type} {enc : TypeId × Value → H} {P : Program} {f : Func} {s : ChangeSpec} {apart fresh handsOn again : Bool} {W W' : World} {args : Array Value} {v : Value} {ds gs : List (DataW H)} {before pa pv : List MemPlace}
  (hW : DataW.Whole enc P f.params.toList s.vars apart W args.toList ds gs before)
  (hres : ∀ (b : Nat) (sp : Nat → Bool) (hd : Bool), DataW.TrodAll enc P W' b sp hd f.resultTypes.toList (v.resultList f.resultTypes.size) (s.fn H (ds ++ gs)).results [])
  (hargs : ∀ sp : Nat → Bool, (∀ p ∈ before, sp p.block = true) → DataW.TrodAll enc P W' 0 sp true f.params.toList args.toList (s.fn H (ds ++ gs)).args pa)
  (hvars : ∀ sp : Nat → Bool, (∀ p ∈ before, sp p.block = true) → DataW.TrodVars enc P W' sp s.vars (s.fn H (ds ++ gs)).vars pv)
  (hps : before = pa ++ pv) (hb : Below W.heap.size W W')
  (hok : ∀ (j : Nat) (t : TypeId) (r : Value), f.resultTypes[j]? = some t → (v.resultList f.resultTypes.size)[j]? = some r → Value.okWide P W' .any 0 t r) :
  s.post enc P f apart fresh handsOn again W args v W' := by
 have hlt := hW.lt
 refine ⟨ds, gs, before, [], pa, pv, hW, hres _ _ _, hargs _ (fun p hp => by simpa using hlt p hp), hvars _ (fun p hp => by simpa using hlt p hp), hb.frame _, fun _ => ?_⟩
 obtain ⟨_, _, _, _, _, hz, hn⟩ := hW
 refine ⟨hok, _, _, ([] ++ pa) ++ pv, ⟨[] ++ pa, pv, trodAll_append (hargs _ (fun _ _ => rfl)) (hres _ _ _), hvars _ (fun _ _ => rfl), rfl, fun b off hp => ?_, fun ha => ?_⟩, fun p hp _ => ?_⟩
 ·have hp' : MemPlace.cell b off ∈ before := by rw [hps]; simpa using hp
  rw [hb.frozen (show (⟨b, off, none⟩ : Addr).block < W.heap.size from hlt _ hp')]
  exact hz b off hp'
 ·have := hn ha
  rw [hps] at this
  simpa using this
 ·rw [hps]
  simpa using hp
theorem rep_sl {F : Addr → Option Value} [Glob] {hg : Gl F} {rows : List V} {a : Option Addr} {l c : Nat} (h : Rd F hg [.slice rows] (Value.slice a l c).cells.toList) : Rep ⟨F, fun _ _ => none, hg⟩ (.slice rows) (.slice a l c) := h.1.2 0 _ _ rfl rfl
end Go.Proofs.YtnfeacnbgbggfaaGreatDoor
end

section
namespace Go.Proofs.YtnfeacnbgbggfaaGreatDoor
open Go.Eng
open Nat (reduceAdd reduceLT reduceLeDiff reduceMul reduceEqDiff reduceSub)
variable [Glob]
set_option maxHeartbeats 4000000
set_option maxRecDepth 100000
attribute [local irreducible] runM stepM valD stepOp stepD callF callS
theorem clo27_ok (r : Rl) (p : Int) (q : Rq) (hq : RqB q) : ∃ r_, (fun w => w = bl (decide (q.path = r.path) && has q.set p)) r_ ∧ FnOkS Tryz.prog 27 [encRq q, .ptr 0 0, .ptr 1 0] ([.box [str r.path, num r.ver.mj, num r.ver.mn, num r.ver.pt, .slice (r.reqs.map encRq), str r.ar, str r.itf, str r.ce, bl r.yk], .box [num p]]) r_ ([.box [str r.path, num r.ver.mj, num r.ver.mn, num r.ver.pt, .slice (r.reqs.map encRq), str r.ar, str r.itf, str r.ce, bl r.yk], .box [num p]]) := by
 refine fns_ex tt_ok (fn := Tryz.f27) Tryz.func27 rfl Tryz.call27 (rfl) ?_
 simp only [ltb,startSt,Tryz.ntmps27,List.length_cons,List.length_nil,reduceAdd,reduceSub,List.replicate_succ,List.replicate_zero]
 simp only [encRq,encSet]
 obtain ⟨hq1, hq2⟩ := hq
 refine ex_region_w tt_ok 16 [0,0,0,2,2] [] rfl rfl fun K hK => ?_
 simp only [ltb,go_sem,reduceAdd,reduceLT]
 refine hK _ _ rfl ?_
 simp only [mwb,reduceAdd,reduceEqDiff]
 refine ex_region_w tt_ok 16 [0,0,0,0,2,1,1,1,1,1,1,1,1,1,1,1] [(5, 10)] rfl rfl fun K hK => ?_
 refine runX_cut 6 fun K1 hK1 => ?_
 simp only [ltb,go_sem,reduceAdd,reduceLT,reduceLeDiff,reduceEqDiff]
 refine hK1 _ ?_
 refine runX_case 10 (by rfl) fun b hb1_5 => ?_
 cases b
 ·simp only [ltb,go_sem,reduceAdd,reduceLT,reduceEqDiff]
  refine hK _ _ rfl ?_
  simp only [mwb,reduceAdd,reduceEqDiff]
  exact ex_ret ⟨.inl rfl, _, congrArg bl (by simp_all [str_beq]), rfl, rfl, rfl⟩
 ·refine runX_cut 4 fun K1 hK1 => ?_
  simp only [ltb,go_sem,reduceAdd,reduceLT,reduceEqDiff]
  refine callF_ex (by have h := has_ok q.set p hq2; simp only [encSet] at h; exact h) ?_
  rintro _ rfl
  try simp only [go_sem]
  refine hK1 _ ?_
  simp only [ltb,go_sem,reduceAdd,reduceLT,reduceEqDiff]
  refine hK _ _ rfl ?_
  simp only [mwb,reduceAdd,reduceEqDiff]
  exact ex_ret ⟨.inl rfl, _, congrArg bl (by simp_all [str_beq]), rfl, rfl, rfl⟩
theorem idxQ_27 (r : Rl) (p : Int) (l : List Rq) (hl : l.length ≤ 2097152) (hlb : ∀ q ∈ l, RqB q) : ∃ r_, (fun w => ∃ k : Int, w = num k ∧ decide (0 ≤ k) = l.any (fun q => decide (q.path = r.path) && has q.set p)) r_ ∧ FnOkS Tryz.prog 79 [encRqs l, .clo (.func 27) [] [.ptr 0 0, .ptr 1 0]] ([.box [str r.path, num r.ver.mj, num r.ver.mn, num r.ver.pt, .slice (r.reqs.map encRq), str r.ar, str r.itf, str r.ce, bl r.yk], .box [num p]]) r_ ([.box [str r.path, num r.ver.mj, num r.ver.mn, num r.ver.pt, .slice (r.reqs.map encRq), str r.ar, str r.itf, str r.ce, bl r.yk], .box [num p]]) := by
 refine fns_ex tt_ok (fn := Tryz.f79) Tryz.func79 rfl Tryz.call79 (rfl) ?_
 simp only [ltb,startSt,Tryz.ntmps79,List.length_cons,List.length_nil,reduceAdd,reduceSub,List.replicate_succ,List.replicate_zero]
 simp only [encRqs]
 refine ex_region_w tt_ok 19 [0,0,0,0,2] [] rfl rfl fun K hK => ?_
 simp only [ltb,go_sem,reduceAdd]
 refine hK _ _ rfl ?_
 simp only [mwb,reduceAdd]
 refine ex_seq ?_
 refine ex_region_w tt_ok 19 [0,0,0,0,0,0,1,2,2] [] rfl rfl fun K hK => ?_
 try simp only [ltb]
 simp only [List.length_map,go_sem,reduceAdd,reduceLT]
 refine hK _ _ rfl ?_
 simp only [mwb,reduceAdd,reduceEqDiff]
 refine ex_block ?_
 refine ex_loopK [8] [num 0] 2 [true,true,false,false,true,false,false,true,true] (fun vs => ((l.length : Int) - Go.Eng.intOf (vs.headD .undef)).toNat) (fun vs => ∃ i : Nat, vs = [num i] ∧ i ≤ l.length ∧ ∀ j < i, ∀ x, l[j]? = some x → (fun q => decide (q.path = r.path) && has q.set p) x = false) (by omega) (by simp only [maskFr,belowV,belowL,reduceLT,mkb]) (by simp only [List.all_cons,List.all_nil,belowV,belowB,Bool.and_self,List.take_succ_cons,List.take_nil]) (by rfl) (⟨0, rfl, Nat.zero_le _, fun j hj => absurd hj (Nat.not_lt_zero j)⟩) fun vs hI => ?_
 obtain ⟨i, rfl, hi, hall⟩ := hI
 simp only [maskFr,putAll,List.set_cons_zero,List.set_cons_succ,mkb]
 refine ex_region_w tt_ok 19 (rp 9 0 [2]) [] rfl rfl fun K hK => ?_
 simp only [ltb,go_sem,reduceAdd,reduceLT]
 refine hK _ _ rfl ?_
 simp only [mwb,reduceAdd]
 refine ex_seq ?_
 refine ex_if rfl (fun hc9 => ?_) (fun hc9 => ?_)
 ·have hlt : i < l.length := by simpa using hc9
  have hw := i64_succ i (by omega)
  obtain ⟨x, hx⟩ : ∃ x, l[i]? = some x := ⟨_, List.getElem?_eq_getElem hlt⟩
  have hxb := hlb x (List.mem_of_getElem? hx)
  refine ex_skip ?_
  show Go.Eng.Ex _ _ _ _ _ _
  refine ex_seq ?_
  refine ex_block ?_
  refine ex_region_w tt_ok 19 [0,0,0,0,0,2,0,0,0,0,1] [] rfl rfl fun K hK => ?_
  simp only [ltb,go_sem,reduceAdd,reduceLT]
  refine hK _ _ rfl ?_
  simp only [mwb,reduceAdd,reduceEqDiff]
  refine ex_region_w tt_ok 19 (rp 11 0 [1,1,1,1,1,2]) [] rfl rfl fun K hK => ?_
  try simp only [ltb]
  simp only [List.getElem?_map,hx,encRq,encSet,go_sem,reduceAdd,reduceLT,reduceEqDiff,reduceCtorEq]
  refine callS_ex (by have h := clo27_ok r p x hxb; simp only [encRq,encSet] at h; exact h) ?_
  rintro _ rfl
  try simp only [go_sem]
  refine hK _ _ rfl ?_
  simp only [mwb,reduceAdd,reduceEqDiff]
  refine ex_if rfl (fun hc16 => ?_) (fun hc16 => ?_)
  ·have hres : decide (0 ≤ (i : Int)) = l.any (fun q => decide (q.path = r.path) && has q.set p) := by rw [any_of hx hc16]; exact decide_eq_true (Int.natCast_nonneg i)
   refine ex_region_w tt_ok 19 (0::0::0::0::2::(rp 12 0 [1])) [] rfl rfl fun K hK => ?_
   simp only [ltb,go_sem,reduceAdd,reduceLT]
   refine hK _ _ rfl ?_
   simp only [mwb,reduceAdd,reduceEqDiff]
   exact ex_ret ⟨.inl rfl, _, ⟨_, rfl, hres⟩, rfl, rfl, rfl⟩
  ·refine ex_skip ?_
   show Go.Eng.Ex _ _ _ _ _ _
   refine ex_last_region_w tt_ok 19 (rp 8 0 (2::(rp 9 0 [2]))) [] (by kernel_rfl) rfl rfl fun K hK => ?_
   try simp only [ltb]
   simp only [hw,go_sem,reduceAdd,reduceLT]
   refine hK _ _ rfl ?_
   simp only [mwb,reduceAdd,reduceEqDiff]
   refine ⟨[_], ?_, ?_, 2, [true,true,false,false,true,false,false,true,true], by omega, by simp only [maskFr,belowV,belowL,reduceLT,mkb], by simp only [List.all_cons,List.all_nil,belowV,belowB,Bool.and_self,List.take_succ_cons,List.take_nil], by simp only [maskFr,putAll,List.set_cons_zero,List.set_cons_succ,mkb]; rfl⟩
   ·refine ⟨i + 1, rfl, hlt, fun j hj => ?_⟩
    rcases Nat.lt_or_ge j i with h | h
    ·exact hall j h
    ·obtain rfl : j = i := by omega
     intro y hy
     rw [hx] at hy; cases hy; exact hc16
   ·simp only [Go.Eng.intOf,List.headD_cons]; omega
 ·have hge : ¬ i < l.length := by simpa using hc9
  have hres : decide (0 ≤ (-1 : Int)) = l.any (fun q => decide (q.path = r.path) && has q.set p) := (any_none fun j hj => hall j (by omega)).symm ▸ rfl
  refine ex_exit ?_
  show Go.Eng.Ex _ _ _ _ _ _
  refine ex_region_w tt_ok 19 [0,0,0,0,2] [] rfl rfl fun K hK => ?_
  simp only [ltb,go_sem,reduceAdd]
  refine hK _ _ rfl ?_
  simp only [mwb,reduceAdd]
  exact ex_ret ⟨.inl rfl, _, ⟨_, rfl, hres⟩, rfl, rfl, rfl⟩
theorem anyQ_27 (r : Rl) (p : Int) (l : List Rq) (hl : l.length ≤ 2097152) (hlb : ∀ q ∈ l, RqB q) : ∃ r_, (fun w => w = bl (l.any (fun q => decide (q.path = r.path) && has q.set p))) r_ ∧ FnOkS Tryz.prog 26 [encRqs l, .clo (.func 27) [] [.ptr 0 0, .ptr 1 0]] ([.box [str r.path, num r.ver.mj, num r.ver.mn, num r.ver.pt, .slice (r.reqs.map encRq), str r.ar, str r.itf, str r.ce, bl r.yk], .box [num p]]) r_ ([.box [str r.path, num r.ver.mj, num r.ver.mn, num r.ver.pt, .slice (r.reqs.map encRq), str r.ar, str r.itf, str r.ce, bl r.yk], .box [num p]]) := by
 refine fns_ex tt_ok (fn := Tryz.f26) Tryz.func26 rfl Tryz.call26 (rfl) ?_
 simp only [ltb,startSt,Tryz.ntmps26,List.length_cons,List.length_nil,reduceAdd,reduceSub,List.replicate_succ,List.replicate_zero]
 simp only [encRqs]
 refine ex_region_w tt_ok 9 [0,0,0,0,2] [] rfl rfl fun K hK => ?_
 simp only [ltb,go_sem,reduceAdd]
 refine hK _ _ rfl ?_
 simp only [mwb,reduceAdd]
 refine ex_region_w tt_ok 9 [0,0,0,0,2,1,1,1,1] [] rfl rfl fun K hK => ?_
 refine runX_cut 3 fun K1 hK1 => ?_
 simp only [ltb,go_sem,reduceAdd,reduceLT,reduceEqDiff]
 refine callS_ex (by have h := idxQ_27 r p l hl hlb; simp only [encRqs] at h; exact h) ?_
 rintro _ ⟨k, rfl, hk⟩
 try simp only [go_sem]
 refine hK1 _ ?_
 simp only [ltb,go_sem,reduceAdd,reduceLT,reduceEqDiff]
 refine hK _ _ rfl ?_
 simp only [mwb,reduceAdd,reduceEqDiff]
 exact ex_ret ⟨.inl rfl, _, congrArg bl hk, rfl, rfl, rfl⟩
end Go.Proofs.YtnfeacnbgbggfaaGreatDoor
end

section
namespace Go.Proofs.YtnfeacnbgbggfaaGreatDoor
open Go.Eng
open Nat (reduceAdd reduceLT reduceLeDiff reduceMul reduceEqDiff reduceSub)
variable [Glob]
set_option maxHeartbeats 4000000
set_option maxRecDepth 100000
attribute [local irreducible] runM stepM valD stepOp stepD callF callS
theorem any27_at (r : Rl) (p : Int) (l : List Rq) (hl : l.length ≤ 1048576 + 4096) (hlb : ∀ q ∈ l, RqB q) (M : List Blk) (k k2 : Nat) (h1 : M[k]? = some (.box [str r.path, num r.ver.mj, num r.ver.mn, num r.ver.pt, .slice (r.reqs.map encRq), str r.ar, str r.itf, str r.ce, bl r.yk])) (h2 : M[k2]? = some (.box [num p])) (hne : k ≠ k2) :
  ∃ r_, (fun w => w = bl (l.any fun q => decide (q.path = r.path) && has q.set p)) r_ ∧ FnOkS Tryz.prog 26 [encRqs l, .clo (.func 27) [] [.ptr k 0, .ptr k2 0]] M r_ M := by
 obtain ⟨v, rfl, h⟩ := anyQ_27 r p l (by omega) hlb
 have h3 := h.ren M (fun j => if j = 0 then k else if j = 1 then k2 else M.length + (j - 2)) 2 rfl (by simp [encRqs, belowV, belowL]) (by simp [belowB, belowV]) rfl (by simp [belowB, belowV]) (by simp) (fun i B hi => by
  match i with
  | 0 => simp at hi; subst hi; simpa [renB, renL, renV] using h1
  | 1 => simp at hi; subst hi; simpa [renB, renL, renV] using h2
  | i + 2 => simp at hi) (fun i j hi hj he => by
  match i, j with
  | 0, 0 => rfl
  | 1, 1 => rfl
  | 0, 1 => exact absurd (by simpa using he) hne
  | 1, 0 => exact absurd (by simpa using he.symm) hne
  | i + 2, _ => omega
  | _, j + 2 => omega) (fun j hj => by rw [if_neg (by omega), if_neg (by omega)])
 have hM : putR (fun j => if j = 0 then k else if j = 1 then k2 else M.length + (j - 2)) 2 [.box [str r.path, num r.ver.mj, num r.ver.mn, num r.ver.pt, .slice (r.reqs.map encRq), str r.ar, str r.itf, str r.ce, bl r.yk], .box [num p]] M = M := by
  unfold putR
  simp only [ltb,List.map_nil,List.append_nil,setAll,renB,renL,renV]
  show (M.set k _).set k2 _ = M
  have e1 : M.set k (.box [str r.path, num r.ver.mj, num r.ver.mn, num r.ver.pt, .slice (r.reqs.map encRq), str r.ar, str r.itf, str r.ce, bl r.yk]) = M := set_same h1
  have e2 : M.set k2 (.box [num p]) = M := set_same h2
  rw [e1, e2]
 rw [hM] at h3
 exact ⟨_, rfl, h3⟩
theorem cloneRqs_liveM (l : List Rq) (hl : l.length ≤ 34359738368) : FnOkS Tryz.prog 23 [.slice (l.map encRq)] [] (.ms 0 1 0 (l.map encRq).length) [.rows 1 2 (l.map encRq)] := by
 rw [List.length_map]; exact cloneRqs_live l hl
theorem fnd_key {l : List Rl} {x : Rl} (h : x ∈ good l) : fnd l ⟨x.path, x.ver⟩ = some x := by
 unfold fnd
 have hs := good_sorted l
 cases hf : (good l).find? fun r => decide (r.key = ⟨x.path, x.ver⟩) with
 | none => exact absurd (List.find?_eq_none.1 hf x h) (by simp [Rl.key])
 | some y =>
  have h1 := List.mem_of_find?_eq_some hf
  have h2 := List.find?_some hf
  have h3 : seen [y] x.key = true := by unfold seen; simpa [Rl.key] using h2
  have h4 := (seen_mem hs (S := [y]) (fun r hr => by rw [List.mem_singleton] at hr; exact hr ▸ h1) h).1 h3
  rw [List.mem_singleton] at h4
  rw [h4]
theorem flat_le {g : List Rl} (h : ∀ r ∈ g, r.reqs.length ≤ 16) (hl : g.length ≤ 256) : (g.flatMap Rl.reqs).length ≤ 4096 := by
 have h1 : (g.flatMap Rl.reqs).length ≤ 16 * g.length := by
  induction g with
  | nil => simp
  | cons a t ih =>
   have h2 := ih (fun r hr => h r (by simp [hr])) (by simp at hl; omega)
   have h3 := h a (by simp)
   rw [List.flatMap_cons, List.length_append, List.length_cons]; omega
 omega
theorem closed_ok (hG : Glob.g = some 0) (haw : FnOk Tryz.prog 9 [] (bl true)) (l : List Rl) (I : List V) (hb : IxB l) (roots : List Rq) (hr : roots.length + 1 ≤ 1048576) (hrb : ∀ q ∈ roots, RqB q) (more : Rq) (hmb : RqB more) : ∃ r_, (fun w => w = bl (true)) r_ ∧ FnOk Tryz.prog 6 [encIx l I, encRqs roots, encRq more] r_ := by
 refine fn_ex tt_ok (fn := Tryz.f6) Tryz.func6 rfl Tryz.call6 ?_
 simp only [ltb,startSt,Tryz.ntmps6,List.length_cons,List.length_nil,reduceAdd,reduceSub,List.replicate_succ,List.replicate_zero]
 simp only [encIx,encRls,encRqs,encRq,encSet]
 have hlb := hb.1
 have hT4 : Tryz.prog.underlying 4 = some .bool := by kernel_rfl
 have hbn := fun x y => ev_bneq (P := Tryz.prog) (T := 4) x y hT4
 obtain ⟨RL, hRL⟩ : ∃ x, x = reached (good l) roots := ⟨_, rfl⟩
 have hRLg : ∀ r ∈ RL, r ∈ good l := fun r h => (mem_reached.1 (hRL ▸ h)).mem
 have hRLl : RL.length ≤ 256 := by rw [hRL]; unfold reached; exact Nat.le_trans (List.length_filter_le _ _) (good_len l)
 have hfo1 : firstOk [V.agg [str more.path, .slice (more.set.map encSpn)]] 0 2 = true := rfl
 have hfo := cloneRqs_ok_first roots
 have htkr : List.take roots.length (roots.map encRq) = roots.map encRq := List.take_of_length_le (by simp)
 have hma : ∀ (mem : List Blk) (ks : List (Nat × Nat)) (b : Bool), memAfter mem ks (bl b) = mem := fun mem ks b => rfl
 have hbd1 : 1 + roots.length ≤ 34359738368 := by omega
 have hbd2 : 0 + 1 + roots.length ≤ 34359738368 := by omega
 refine ex_region_w tt_ok 112 [0,0,0,2,0,2,2] [] rfl rfl fun K hK => ?_
 try simp only [ltb]
 simp only [List.length_cons,List.length_nil,go_sem,reduceLT,reduceEqDiff]
 refine hK _ _ rfl ?_
 simp only [mwb,reduceAdd,reduceEqDiff]
 refine ex_seq ?_
 refine ex_region_w tt_ok 112 (rp 21 0 [1,2]) [] rfl rfl fun K hK => ?_
 refine runX_cut 1 fun K1 hK1 => ?_
 simp only [ltb]
 simp only [List.length_cons,List.length_nil,go_sem,reduceAdd]
 refine callF_ex (⟨_, rfl, haw⟩) ?_
 rintro _ rfl
 try simp only [hma,go_sem]
 refine hK1 _ ?_
 try simp only [ltb]
 simp only [List.length_cons,List.length_nil,go_sem,reduceAdd,reduceLT]
 refine hK _ _ rfl ?_
 simp only [mwb,reduceAdd,reduceEqDiff]
 refine ex_if rfl (fun hc22 => ?_) (fun hc22 => ?_)
 ·exact absurd hc22 (by simp)
 ·refine ex_skip ?_
  show Go.Eng.Ex _ _ _ _ _ _
  refine ex_seq ?_
  refine ex_region_w tt_ok 112 (rp 23 0 (rp 11 1 [2])) [(4, 27)] rfl rfl fun K hK => ?_
  refine runX_cut 3 fun K1 hK1 => ?_
  simp only [ltb]
  simp only [List.length_cons,List.length_nil,go_sem,reduceAdd,reduceLT,reduceLeDiff,reduceEqDiff]
  refine callF_ex (by have h := fewR_ok l 30 hb; simp only [encRls] at h; exact h) ?_
  rintro _ rfl
  try simp only [hma,go_sem]
  refine hK1 _ ?_
  refine runX_cut 2 fun K1 hK1 => ?_
  simp only [ltb]
  simp only [List.length_cons,List.length_nil,go_sem,reduceAdd,reduceLT,reduceEqDiff]
  refine hK1 _ ?_
  refine runX_case 27 (by rfl) fun b hb3_4 => ?_
  cases b
  ·refine runX_cut 5 fun K1 hK1 => ?_
   simp only [ltb]
   simp only [List.length_map,hfo,htkr,hbd1,List.length_cons,List.length_nil,go_sem,reduceAdd,reduceLT,reduceLeDiff,reduceMul,reduceEqDiff]
   refine callF_ex (by have h := fewQ_ok (more :: roots) (by rw [List.length_cons]; omega); simp only [encRqs,List.map_cons,encRq,encSet] at h; exact h) ?_
   rintro _ rfl
   try simp only [hma,go_sem]
   refine hK1 _ ?_
   try simp only [ltb]
   simp only [List.length_cons,List.length_nil,go_sem,reduceAdd,reduceLT,reduceEqDiff]
   refine hK _ _ rfl ?_
   simp only [mwb,reduceAdd,reduceEqDiff]
   refine ex_if rfl (fun hc34 => ?_) (fun hc34 => ?_)
   ·refine ex_region_w tt_ok 112 [0,0,0,0,0,0,2] [] rfl rfl fun K hK => ?_
    try simp only [ltb]
    simp only [List.length_cons,List.length_nil,go_sem,reduceAdd]
    refine hK _ _ rfl ?_
    simp only [mwb,reduceAdd]
    exact ex_ret ⟨.inl rfl, _, rfl, rfl⟩
   ·refine ex_skip ?_
    show Go.Eng.Ex _ _ _ _ _ _
    refine ex_region_w tt_ok 112 (0::0::0::0::0::0::0::2::(rp 27 0 [1,1,1])) [] rfl rfl fun K hK => ?_
    refine runX_cut 3 fun K1 hK1 => ?_
    simp only [ltb]
    simp only [List.length_cons,List.length_nil,go_sem,reduceAdd,reduceLT,reduceEqDiff]
    refine callF_ex (by have h := reach_ok hG l I hb roots (by omega) hrb; rw [← hRL] at h; simp only [encIx,encRls,encRqs,encSels] at h; exact ⟨_, rfl, h⟩) ?_
    rintro _ rfl
    try simp only [go_sem]
    refine hK1 _ ?_
    try simp only [ltb]
    simp only [List.length_cons,List.length_nil,go_sem,reduceAdd,reduceLT,reduceEqDiff]
    refine hK _ _ rfl ?_
    simp only [mwb,reduceAdd,reduceEqDiff]
    refine ex_seq ?_
    refine ex_region_w tt_ok 112 (rp 38 0 [1,1,2]) [] rfl rfl fun K hK => ?_
    refine runX_cut 2 fun K1 hK1 => ?_
    simp only [ltb]
    simp only [List.length_cons,List.length_nil,go_sem,reduceAdd,reduceLT]
    refine callF_ex (by have h := check_ok hG l I hb; simp only [encIx,encRls] at h; exact h) ?_
    rintro _ rfl
    try simp only [go_sem]
    refine hK1 _ ?_
    try simp only [ltb]
    simp only [List.length_cons,List.length_nil,go_sem,reduceAdd,reduceLT,reduceEqDiff]
    refine hK _ _ rfl ?_
    simp only [mwb,reduceAdd,reduceEqDiff]
    refine ex_if rfl (fun hc40 => ?_) (fun hc40 => ?_)
    ·have hix : ixE l ≠ 0 := by simpa using hc40
     have hRL0 : RL = [] := by
      cases RL with
      | nil => rfl
      | cons a t => have h := hRLg a (by simp); unfold good at h; rw [if_neg hix] at h; simp at h
     subst hRL0
     refine ex_region_w tt_ok 112 (0::0::0::0::0::0::2::(rp 34 0 [1,1,1])) [] rfl rfl fun K hK => ?_
     try simp only [ltb]
     simp only [List.length_cons,List.length_nil,go_sem,reduceAdd,reduceLT,reduceEqDiff]
     refine hK _ _ rfl ?_
     simp only [mwb,reduceAdd,reduceEqDiff]
     exact ex_ret ⟨.inl rfl, _, rfl, rfl⟩
    ·have hix : ixE l = 0 := by simpa using hc40
     have hgl : good l = l := by unfold good; rw [if_pos hix]
     refine ex_skip ?_
     show Go.Eng.Ex _ _ _ _ _ _
     refine ex_region_w tt_ok 112 (rp 8 0 (2::(rp 35 0 [1,1]))) [] rfl rfl fun K hK => ?_
     refine runX_cut 2 fun K1 hK1 => ?_
     simp only [ltb]
     simp only [List.length_cons,List.length_nil,go_sem,reduceAdd,reduceLT]
     refine callF_w (cloneRqs_at roots (by omega) _) ?_
     rintro _ _ ⟨rfl, rfl⟩
     try simp only [List.length_cons,List.length_nil,go_sem,reduceAdd]
     try simp only [ltb,List.length_cons,List.length_nil,reduceAdd]
     refine hK1 _ ?_
     try simp only [ltb]
     simp only [List.length_cons,List.length_nil,go_sem,reduceAdd,reduceLT,reduceEqDiff]
     refine hK _ _ rfl ?_
     simp only [mwb,reduceAdd,reduceEqDiff]
     refine ex_seq ?_
     refine ex_region_w tt_ok 112 (rp 46 0 [2,2,2]) [] rfl rfl fun K hK => ?_
     try simp only [ltb]
     simp only [List.length_map,List.length_cons,List.length_nil,go_sem,reduceAdd,reduceLT]
     refine hK _ _ rfl ?_
     simp only [mwb,reduceAdd,reduceEqDiff]
     refine ex_block ?_
     refine ex_loopF (fun i : Nat => { fr := [.undef, .slice (roots.map encRq), .undef, .ptr 0 0, .undef, .ptr 1 0, .undef, .slice ((RL.map Rl.key).map encSel), .ms 3 (i + 1) 0 (roots ++ (RL.take i).flatMap Rl.reqs).length, .undef, .undef, .undef, .undef, .undef, .undef, .undef, .undef, .undef, .undef, .undef, .undef, .undef, .undef, .undef, .undef, .undef, .undef, .undef, .undef, .undef, .undef, .undef, .undef, .undef, .undef, .undef, .undef, .undef, .undef, .undef, .undef, .undef, .undef, .undef, .undef, .undef, .slice ((RL.map Rl.key).map encSel), num RL.length, num i, .undef, .undef, .undef, .undef, .undef, .undef, .undef, .undef, .undef, .undef, .undef, .undef, .undef, .undef, .undef, .undef, .undef, .undef, .undef, .undef, .undef, .undef, .undef, .undef, .undef, .undef, .undef, .undef, .undef, .undef, .undef, .undef, .undef, .undef, .undef, .undef, .undef, .undef, .undef, .undef, .undef, .undef, .undef, .undef, .undef, .undef, .undef, .undef, .undef, .undef, .undef, .undef, .undef, .undef, .undef, .undef, .undef, .undef, .undef, .undef, .undef, .undef, .undef], mem := [.box [.slice (l.map encRl), .slice I], .box [str more.path, .slice (more.set.map encSpn)], .rows 1 2 (.agg [str more.path, .slice (more.set.map encSpn)] :: roots.map encRq), .rows (i + 1) 2 ((roots ++ (RL.take i).flatMap Rl.reqs).map encRq)] }) (fun i => RL.length - i) (fun i => i ≤ RL.length) (0) 4 (false::true::false::true::false::true::false::true::true::(rp 37 false [true,true,true])) (by omega) (by simp only [maskFr,belowV,reduceLT,mkb]) (by simp only [List.all_cons,List.all_nil,belowV,bB_box,bB_rows,Bool.and_self,List.take_succ_cons,List.take_nil]) (by simp only [maskFr,List.flatMap_nil,List.append_nil,mkb] <;> rfl) (Nat.zero_le _) ?_
     intro i hi
     dsimp only at hi ⊢
     refine ex_region_w tt_ok 112 (rp 49 0 [2]) [] rfl rfl fun K hK => ?_
     try simp only [ltb]
     simp only [List.length_cons,List.length_nil,go_sem,reduceAdd,reduceLT]
     refine hK _ _ rfl ?_
     simp only [mwb,reduceAdd]
     refine ex_seq ?_
     refine ex_if rfl (fun hc49 => ?_) (fun hc49 => ?_)
     ·have hlt : i < RL.length := by simpa using hc49
      have hw := i64_succ i (by omega)
      obtain ⟨x, hx⟩ : ∃ x, RL[i]? = some x := ⟨_, List.getElem?_eq_getElem hlt⟩
      have hxg := hRLg x (List.mem_of_getElem? hx)
      have hfx : fnd l ⟨x.path, x.ver⟩ = some x := fnd_key hxg
      have hak : roots ++ (RL.take (i + 1)).flatMap Rl.reqs = (roots ++ (RL.take i).flatMap Rl.reqs) ++ x.reqs := by rw [take_snoc hx, List.flatMap_append, List.append_assoc]; simp
      have hfx1 := cloneRqs_ok_first x.reqs
      have hrq := good_reqs hxg
      have hal : ((RL.take i).flatMap Rl.reqs).length ≤ 4096 := flat_le (fun r hr => good_reqs (hRLg r (List.mem_of_mem_take hr))) (by rw [List.length_take]; omega)
      have hbd3 : (roots ++ (RL.take i).flatMap Rl.reqs).length + x.reqs.length ≤ 34359738368 := by rw [List.length_append]; omega
      refine ex_skip ?_
      show Go.Eng.Ex _ _ _ _ _ _
      refine ex_seq ?_
      refine ex_block ?_
      refine ex_region_w tt_ok 112 (rp 10 0 (2::(rp 39 0 [1,1]))) [] rfl rfl fun K hK => ?_
      try simp only [ltb]
      simp only [List.getElem?_map,hx,Option.map_some,encSel,Rl.key,List.length_cons,List.length_nil,go_sem,reduceAdd,reduceLT,reduceEqDiff]
      refine hK _ _ rfl ?_
      simp only [mwb,reduceAdd,reduceEqDiff]
      refine ex_region_w tt_ok 112 (rp 11 0 (2::2::(rp 39 0 (rp 9 1 [])))) [] rfl rfl fun K hK => ?_
      refine runX_cut 6 fun K1 hK1 => ?_
      simp only [ltb]
      simp only [List.length_cons,List.length_nil,go_sem,reduceAdd,reduceLT,reduceLeDiff,reduceEqDiff]
      refine callF_ex (by have h := find_ok hG l I hb x.path x.ver; rw [hfx] at h; simp only [encIx,encRls,encVer,Option.getD_some,Option.isSome_some,encRl,rlCells,encRqs] at h; exact h) ?_
      rintro _ rfl
      try simp only [go_sem]
      refine hK1 _ ?_
      try simp only [ltb]
      simp only [List.length_cons,List.length_nil,go_sem,reduceAdd,reduceLT,reduceEqDiff]
      refine hK _ _ rfl ?_
      simp only [mwb,reduceAdd,reduceEqDiff]
      refine ex_seq ?_
      refine ex_region_w tt_ok 112 (rp 61 0 [1,2]) [] rfl rfl fun K hK => ?_
      try simp only [ltb]
      simp only [List.length_cons,List.length_nil,go_sem,reduceAdd,reduceLT]
      refine hK _ _ rfl ?_
      simp only [mwb,reduceAdd,reduceEqDiff]
      refine ex_if rfl (fun hc62 => ?_) (fun hc62 => ?_)
      ·exact absurd hc62 (by simp)
      ·refine ex_skip ?_
       show Go.Eng.Ex _ _ _ _ _ _
       refine ex_last_region_w tt_ok 112 (rp 8 0 (2::(rp 54 0 [2,2,2,2]))) [] (by kernel_rfl) rfl rfl fun K hK => ?_
       try simp only [ltb]
       simp only [hfx1,hbd3,List.length_map,List.length_cons,List.length_nil,go_sem,reduceAdd,reduceLT,reduceLeDiff,reduceEqDiff]
       refine hK _ _ rfl ?_
       simp only [mwb,reduceAdd,reduceEqDiff]
       show Go.Eng.Ex _ _ _ _ _ _
       refine ex_last_region_w tt_ok 112 (rp 48 0 (2::(rp 18 0 [2]))) [] (by kernel_rfl) rfl rfl fun K hK => ?_
       try simp only [ltb]
       simp only [hw,List.length_cons,List.length_nil,go_sem,reduceAdd,reduceLT]
       refine hK _ _ rfl ?_
       simp only [mwb,reduceAdd,reduceEqDiff]
       refine ⟨i + 1, ?_, ?_, 4, (false::true::false::true::false::true::false::true::true::(rp 37 false [true,true,true])), by omega, by simp only [maskFr,belowV,reduceLT,mkb], by simp only [ltb,List.all_cons,List.all_nil,belowV,bB_box,bB_rows,Bool.and_self], by (simp only [hak,List.length_append,List.map_append,List.length_map,maskFr,mkb])⟩
       ·exact hlt
       ·omega
     ·have hge : ¬ i < RL.length := by simpa using hc49
      have hil : i = RL.length := by omega
      subst hil
      rw [List.take_length]
      obtain ⟨AL, hAL⟩ : ∃ x, x = roots ++ RL.flatMap Rl.reqs := ⟨_, rfl⟩
      rw [← hAL]
      have hfl : (RL.flatMap Rl.reqs).length ≤ 4096 := flat_le (fun r hr => good_reqs (hRLg r hr)) hRLl
      have hALl : AL.length ≤ 1048576 + 4096 := by rw [hAL, List.length_append]; omega
      have hALb : ∀ q ∈ AL, RqB q := fun q hq => by
       rw [hAL] at hq
       rcases List.mem_append.1 hq with hq | hq
       ·exact hrb q hq
       ·obtain ⟨r, hr, hq⟩ := List.mem_flatMap.1 hq
        exact (hb.2 r (good_mem (hRLg r hr))).2.2 q hq
      refine ex_frz (v' := .slice (AL.map encRq)) 8 rfl (by simp [pur1, purCell, List.take_of_length_le]) ?_
      simp only [ref1,refCell,frzAll,frz1,List.foldl_cons,List.foldl_nil,List.getElem?_cons_succ,List.getElem?_cons_zero,if_true,List.set_cons_zero,List.set_cons_succ]
      refine ex_exit ?_
      show Go.Eng.Ex _ _ _ _ _ _
      refine ex_seq ?_
      refine ex_region_w tt_ok 112 (rp 68 0 [1,2,2,2]) [] rfl rfl fun K hK => ?_
      try simp only [ltb]
      simp only [List.length_map,List.length_cons,List.length_nil,go_sem,reduceAdd,reduceLT,reduceLeDiff,reduceEqDiff]
      refine hK _ _ rfl ?_
      simp only [mwb,reduceAdd,reduceEqDiff]
      refine ex_block ?_
      refine ex_loopF (fun i : Nat => { fr := [.undef, .slice (roots.map encRq), .undef, .ptr 0 0, .undef, .ptr 1 0, .undef, .slice ((RL.map Rl.key).map encSel), .slice (AL.map encRq), .undef, .undef, .undef, .undef, .undef, .undef, .undef, .undef, .undef, .undef, .undef, .undef, .undef, .undef, .undef, .undef, .undef, .undef, .undef, .undef, .undef, .undef, .undef, .undef, .undef, .undef, .undef, .undef, .undef, .undef, .undef, .undef, .undef, .undef, .undef, .undef, .undef, .undef, .undef, .undef, .undef, .undef, .undef, .undef, .undef, .undef, .undef, .undef, .undef, .undef, .undef, .undef, .undef, .undef, .undef, .undef, .undef, .undef, .undef, .undef, .slice (l.map encRl), num l.length, num i, .undef, .undef, .undef, .undef, .undef, .undef, .undef, .undef, .undef, .undef, .undef, .undef, .undef, .undef, .undef, .undef, .undef, .undef, .undef, .undef, .undef, .undef, .undef, .undef, .undef, .undef, .undef, .undef, .undef, .undef, .undef, .undef, .undef, .undef, .undef, .undef, .undef, .undef, .undef, .undef], mem := [.box [.slice (l.map encRl), .slice I], .box [str more.path, .slice (more.set.map encSpn)], .rows 1 2 (.agg [str more.path, .slice (more.set.map encSpn)] :: roots.map encRq), .frz (RL.length + 1) 2 (AL.map encRq)] }) (fun i => l.length - i) (fun i => i ≤ l.length) (0) 4 (false::true::false::true::false::true::false::true::true::(rp 60 false [true,true,true])) (by omega) (by simp only [maskFr,belowV,reduceLT,mkb]) (by simp only [List.all_cons,List.all_nil,belowV,bB_box,bB_rows,bB_frz,Bool.and_self,List.take_succ_cons,List.take_nil]) (by simp only [maskFr,mkb] <;> rfl) (Nat.zero_le _) ?_
      intro i hi
      dsimp only at hi ⊢
      refine ex_region_w tt_ok 112 (rp 72 0 [2]) [] rfl rfl fun K hK => ?_
      try simp only [ltb]
      simp only [List.length_cons,List.length_nil,go_sem,reduceAdd,reduceLT]
      refine hK _ _ rfl ?_
      simp only [mwb,reduceAdd]
      refine ex_seq ?_
      refine ex_if rfl (fun hc72 => ?_) (fun hc72 => ?_)
      ·have hlt : i < l.length := by simpa using hc72
       have hw := i64_succ i (by omega)
       obtain ⟨x, hx⟩ : ∃ x, l[i]? = some x := ⟨_, List.getElem?_eq_getElem hlt⟩
       have hxl := List.mem_of_getElem? hx
       have hxg : x ∈ good l := by rw [hgl]; exact hxl
       have hpl : x.ver.pl = x.ver.place := by unfold Ver.pl; rw [if_pos (good_ver hxg)]
       have heqv : (AL.any fun q => decide (q.path = x.path) && has q.set x.ver.pl) = decide (x.key ∈ RL.map Rl.key) := by
        rw [hAL, hRL, hgl, hpl, Bool.eq_iff_iff, decide_eq_true_eq]
        refine (closed_iff hxl).trans ?_
        rw [← mem_reached, List.mem_map]
        constructor
        ·exact fun h => ⟨x, h, rfl⟩
        ·rintro ⟨y, hy, he⟩
         have hs := good_sorted l
         rw [hgl] at hs
         exact (seen_mem hs (S := reached l roots) (fun r hr => (mem_reached.1 hr).mem) hxl).1 (seen_iff.2 ⟨y, hy, he⟩)
       refine ex_skip ?_
       show Go.Eng.Ex _ _ _ _ _ _
       refine ex_seq ?_
       refine ex_block ?_
       refine ex_region_w tt_ok 112 (rp 14 0 (2::(rp 58 0 [1,1]))) [] rfl rfl fun K hK => ?_
       try simp only [ltb]
       simp only [List.getElem?_map,hx,encRl,rlCells,encRqs,List.length_cons,List.length_nil,go_sem,reduceAdd,reduceLT,reduceEqDiff]
       refine hK _ _ rfl ?_
       simp only [mwb,reduceAdd,reduceEqDiff]
       refine ex_region_w tt_ok 112 (rp 15 0 (2::1::(rp 58 0 [1,1,1,1,1,1]))) [] rfl rfl fun K hK => ?_
       refine runX_cut 3 fun K1 hK1 => ?_
       simp only [ltb]
       simp only [List.length_cons,List.length_nil,go_sem,reduceAdd,reduceLT,reduceLeDiff,reduceEqDiff]
       refine callF_ex (by have h := cplace_ok x.ver; simp only [encVer] at h; exact h) ?_
       rintro _ rfl
       try simp only [go_sem]
       refine hK1 _ ?_
       try simp only [ltb]
       simp only [List.length_cons,List.length_nil,go_sem,reduceAdd,reduceLT,reduceEqDiff]
       refine hK _ _ rfl ?_
       simp only [mwb,reduceAdd,reduceEqDiff]
       refine ex_region_w tt_ok 112 (rp 17 0 (2::(rp 63 0 [1,1,1]))) [] rfl rfl fun K hK => ?_
       refine runX_cut 3 fun K1 hK1 => ?_
       simp only [ltb]
       simp only [List.length_cons,List.length_nil,go_sem,reduceAdd,reduceLT,reduceEqDiff]
       refine callS_ex (by have h := fun M k k2 h1 h2 h3 => any27_at x x.ver.pl AL (by omega) hALb M k k2 h1 h2 h3; simp only [encRqs] at h; exact h _ 4 5 rfl rfl (by decide)) ?_
       rintro _ rfl
       try simp only [go_sem]
       refine hK1 _ ?_
       try simp only [ltb]
       simp only [List.length_cons,List.length_nil,go_sem,reduceAdd,reduceLT,reduceEqDiff]
       refine hK _ _ rfl ?_
       simp only [mwb,reduceAdd,reduceEqDiff]
       refine ex_region_w tt_ok 112 (rp 84 0 (rp 8 1 [2])) [] rfl rfl fun K hK => ?_
       refine runX_cut 8 fun K1 hK1 => ?_
       simp only [ltb]
       simp only [List.length_cons,List.length_nil,go_sem,reduceAdd,reduceLT,reduceLeDiff,reduceEqDiff,reduceCtorEq]
       refine callF_ex (by have h := scont_ok (RL.map Rl.key) x.key (by rw [List.length_map]; omega); simp only [encSels,encSel] at h; exact h) ?_
       rintro _ rfl
       try simp only [hma,go_sem]
       refine hK1 _ ?_
       try simp only [ltb]
       simp only [hbn,List.length_cons,List.length_nil,go_sem,reduceAdd,reduceLT,reduceEqDiff]
       refine hK _ _ rfl ?_
       simp only [mwb,reduceAdd,reduceEqDiff]
       refine ex_if rfl (fun hc92 => ?_) (fun hc92 => ?_)
       ·exact absurd hc92 (by rw [heqv]; simp)
       ·refine ex_skip ?_
        show Go.Eng.Ex _ _ _ _ _ _
        refine ex_last_region_w tt_ok 112 (rp 71 0 (2::(rp 21 0 [2]))) [] (by kernel_rfl) rfl rfl fun K hK => ?_
        try simp only [ltb]
        simp only [hw,List.length_cons,List.length_nil,go_sem,reduceAdd,reduceLT]
        refine hK _ _ rfl ?_
        simp only [mwb,reduceAdd,reduceEqDiff]
        refine ⟨i + 1, ?_, ?_, 4, (false::true::false::true::false::true::false::true::true::(rp 60 false [true,true,true])), by omega, by simp only [maskFr,belowV,reduceLT,mkb], by simp only [ltb,List.all_cons,List.all_nil,belowV,bB_box,bB_rows,bB_frz,Bool.and_self], by (simp only [maskFr,mkb])⟩
        ·exact hlt
        ·omega
      ·refine ex_exit ?_
       show Go.Eng.Ex _ _ _ _ _ _
       obtain ⟨BL, hBL⟩ : ∃ x, x = reached (good l) (roots ++ [more]) := ⟨_, rfl⟩
       have hBLl : BL.length ≤ 256 := by rw [hBL]; unfold reached; exact Nat.le_trans (List.length_filter_le _ _) (good_len l)
       have hbd5 : roots.length + 1 ≤ 34359738368 := by omega
       have hmb2 : ∀ q ∈ roots ++ [more], RqB q := fun q hq => by
        rcases List.mem_append.1 hq with hq | hq
        ·exact hrb q hq
        ·rw [List.mem_singleton] at hq; exact hq ▸ hmb
       have htk3 : List.take (roots.length + 1) (roots.map encRq ++ [V.agg [str more.path, .slice (more.set.map encSpn)]]) = roots.map encRq ++ [V.agg [str more.path, .slice (more.set.map encSpn)]] := List.take_of_length_le (by simp)
       refine ex_mixed_w tt_ok mixed_ok 112 [0,0,0,0,0,0,0,0,0,0,0,0,0,0,0,0,0,0,2,0,0,0,0,0,0,0,0,0,0,0,0,0,0,0,0,0,0,0,0,0,0,0,0,0,0,0,0,0,0,0,0,0,0,0,0,0,0,0,0,0,0,0,0,0,0,0,0,0,0,0,0,0,0,0,0,0,0,0,0,0,0,0,0,0,0,0,0,0,0,0,0,0,0,0,1,1,1,1,1,1,1] (by kernel_rfl) [⟨.b, 0, [], [], []⟩, ⟨.n, 0, [], [], []⟩, ⟨.a, 0, [], [1], []⟩, ⟨.r, 0, [0], [], []⟩, ⟨.n, 0, [], [3], []⟩, ⟨.w, 1, [], [1,2,3,4], []⟩, ⟨.z, 0, [], [0,1,2,3,4,5], []⟩, ⟨.n, 0, [], [0,1,2,3,4,5,6], []⟩] 2 (by kernel_rfl) fun K hK => ?_
       try simp only [ltb,List.replicate_zero,List.replicate_succ]
       refine runM_cut 3 (by simp) (by simp) fun K1 hK1 => ?_
       try simp only [ltb]
       simp only [List.length_cons,List.length_nil,go_sem,reduceAdd,reduceLT,reduceEqDiff]
       refine ⟨_, _, _, by simp only [go_sem], ⟨_, cloneRqs_liveM roots (by omega)⟩, ?_⟩
       try simp only [holeSt,List.length_map,go_sem]
       refine hK1 _ ?_
       refine runM_cut 4 (by simp) (by simp) fun K1 hK1 => ?_
       try simp only [ltb]
       simp only [hfo1,hbd5,htk3,List.length_append,List.length_map,List.length_cons,List.length_nil,go_sem,reduceAdd,reduceLT,reduceLeDiff,reduceMul,reduceEqDiff]
       refine ⟨_, _, by first | rfl | simp only [hfo1,hbd5,htk3,List.length_append,List.length_map,hfo,htkr,hma,hbd1,hbd2,hbn,List.length_cons,List.length_nil,go_sem,reduceIte,reduceAdd,reduceLT,reduceLeDiff,reduceMul,reduceEqDiff,reduceSub,reduceCtorEq,List.take_length], by have h := reach_ok hG l I hb (roots ++ [more]) (by rw [List.length_append]; exact hr) hmb2; rw [← hBL] at h; simp only [encIx,encRls,encRqs,encSels,List.map_append,List.map_cons,List.map_nil,encRq,encSet] at h; exact h, ?_⟩
       try simp only [hfo1,hbd5,htk3,List.length_append,List.length_map,hfo,htkr,hma,hbd1,hbd2,hbn,List.length_cons,List.length_nil,go_sem,reduceIte,reduceAdd,reduceLT,reduceLeDiff,reduceMul,reduceEqDiff,reduceSub,reduceCtorEq,List.take_length,List.replicate]
       refine hK1 _ ?_
       try simp only [ltb]
       simp only [List.length_cons,List.length_nil,go_sem,reduceAdd,reduceLT,reduceEqDiff]
       refine hK _ _ rfl ?_
       simp only [mwb,reduceAdd,reduceEqDiff]
       refine ex_seq ?_
       refine ex_region_w tt_ok 112 (rp 101 0 [2,2,2]) [] rfl rfl fun K hK => ?_
       try simp only [ltb]
       simp only [List.length_map,go_sem,reduceLT]
       refine hK _ _ rfl ?_
       simp only [mwb,reduceAdd,reduceEqDiff]
       refine ex_block ?_
       refine ex_loopF (fun i : Nat => { fr := [.undef, .undef, .undef, .undef, .undef, .undef, .undef, .undef, .undef, .undef, .undef, .undef, .undef, .undef, .undef, .undef, .undef, .undef, .slice ((BL.map Rl.key).map encSel), .undef, .undef, .undef, .undef, .undef, .undef, .undef, .undef, .undef, .undef, .undef, .undef, .undef, .undef, .undef, .undef, .undef, .undef, .undef, .undef, .undef, .undef, .undef, .undef, .undef, .undef, .undef, .undef, .undef, .undef, .undef, .undef, .undef, .undef, .undef, .undef, .undef, .undef, .undef, .undef, .undef, .undef, .undef, .undef, .undef, .undef, .undef, .undef, .undef, .undef, .undef, .undef, .undef, .undef, .undef, .undef, .undef, .undef, .undef, .undef, .undef, .undef, .undef, .undef, .undef, .undef, .undef, .undef, .undef, .undef, .undef, .undef, .undef, .undef, .undef, .undef, .undef, .undef, .undef, .undef, .undef, .undef, .slice ((RL.map Rl.key).map encSel), num RL.length, num i, .undef, .undef, .undef, .undef, .undef, .undef, .undef, .undef], mem := [] }) (fun i => RL.length - i) (fun i => i ≤ RL.length) (0) 0 (rp 18 false (true::(rp 82 false [true,true,true]))) (by omega) (by simp only [maskFr,belowV,mkb]) (by simp only [List.all_nil,List.take_zero]) (by simp only [maskFr,mkb] <;> rfl) (Nat.zero_le _) ?_
       intro i hi
       dsimp only at hi ⊢
       refine ex_region_w tt_ok 112 (rp 104 0 [2]) [] rfl rfl fun K hK => ?_
       try simp only [ltb]
       simp only [List.length_nil,go_sem,reduceLT]
       refine hK _ _ rfl ?_
       simp only [mwb,reduceAdd]
       refine ex_seq ?_
       refine ex_if rfl (fun hc104 => ?_) (fun hc104 => ?_)
       ·have hlt : i < RL.length := by simpa using hc104
        have hw := i64_succ i (by omega)
        obtain ⟨x, hx⟩ : ∃ x, RL[i]? = some x := ⟨_, List.getElem?_eq_getElem hlt⟩
        have hin : x.key ∈ BL.map Rl.key := by
         rw [hBL]
         have h1 : x ∈ reached (good l) roots := hRL ▸ List.mem_of_getElem? hx
         exact List.mem_map.2 ⟨x, mem_reached.2 ((mem_reached.1 h1).mono fun q hq => List.mem_append_left _ hq), rfl⟩
        refine ex_skip ?_
        show Go.Eng.Ex _ _ _ _ _ _
        refine ex_seq ?_
        refine ex_block ?_
        refine ex_region_w tt_ok 112 (rp 20 0 (2::(rp 84 0 [1,1]))) [] rfl rfl fun K hK => ?_
        try simp only [ltb]
        simp only [List.getElem?_map,hx,Option.map_some,encSel,List.length_cons,List.length_nil,go_sem,reduceAdd,reduceLT,reduceEqDiff]
        refine hK _ _ rfl ?_
        simp only [mwb,reduceAdd,reduceEqDiff]
        refine ex_region_w tt_ok 112 (rp 107 0 [1,1,1,2]) [] rfl rfl fun K hK => ?_
        refine runX_cut 3 fun K1 hK1 => ?_
        simp only [ltb]
        simp only [List.length_cons,List.length_nil,go_sem,reduceAdd,reduceLT,reduceEqDiff]
        refine callF_ex (by have h := scont_ok (BL.map Rl.key) x.key (by rw [List.length_map]; omega); simp only [encSels,encSel] at h; exact h) ?_
        rintro _ rfl
        try simp only [hma,go_sem]
        refine hK1 _ ?_
        try simp only [ltb]
        simp only [List.length_cons,List.length_nil,go_sem,reduceLT,reduceEqDiff]
        refine hK _ _ rfl ?_
        simp only [mwb,reduceAdd,reduceEqDiff]
        refine ex_if rfl (fun hc110 => ?_) (fun hc110 => ?_)
        ·exact absurd hc110 (by simp [hin])
        ·refine ex_skip ?_
         show Go.Eng.Ex _ _ _ _ _ _
         refine ex_last_region_w tt_ok 112 (rp 103 0 [2,0,0,0,0,0,0,0,2]) [] (by kernel_rfl) rfl rfl fun K hK => ?_
         try simp only [ltb]
         simp only [hw,List.length_cons,List.length_nil,go_sem,reduceLT]
         refine hK _ _ rfl ?_
         simp only [mwb,reduceAdd,reduceEqDiff]
         refine ⟨i + 1, ?_, ?_, 0, (rp 18 false (true::(rp 82 false [true,true,true]))), by omega, by simp only [maskFr,belowV,mkb], by simp only [List.all_nil,List.take_zero], by (simp only [maskFr,mkb])⟩
         ·exact hlt
         ·omega
       ·refine ex_exit ?_
        show Go.Eng.Ex _ _ _ _ _ _
        refine ex_region_w tt_ok 112 [0,0,0,0,0,0,2] [] rfl rfl fun K hK => ?_
        try simp only [ltb]
        simp only [List.length_nil,go_sem]
        refine hK _ _ rfl ?_
        simp only [mwb,reduceAdd]
        exact ex_ret ⟨.inl rfl, _, rfl, rfl⟩
  ·try simp only [ltb]
   simp only [List.length_cons,List.length_nil,go_sem,reduceAdd,reduceLT,reduceEqDiff]
   refine hK _ _ rfl ?_
   simp only [mwb,reduceAdd,reduceEqDiff]
   refine ex_cond rfl ?_
   refine ex_region_w tt_ok 112 [0,0,0,0,0,0,2] [] rfl rfl fun K hK => ?_
   try simp only [ltb]
   simp only [List.length_cons,List.length_nil,go_sem,reduceAdd]
   refine hK _ _ rfl ?_
   simp only [mwb,reduceAdd]
   exact ex_ret ⟨.inl rfl, _, rfl, rfl⟩
end Go.Proofs.YtnfeacnbgbggfaaGreatDoor
end

section
namespace Go.Proofs.YtnfeacnbgbggfaaGreatDoor.lawIndexClosed
open Go.Eng
set_option maxRecDepth 100000
open Go.ChangeShapes Go.WideShapes Go.ChangeAt Go.RowKit
theorem contract (H : Type) (enc : TypeId × Value → H) (W : World) (args : Array Value) (ds gs : List (DataW H)) (before : List MemPlace) (base : Nat)
  (hok : ∀ (j : Nat) t v, Tryz.f6.params[j]? = some t → args[j]? = some v → Value.okWide Tryz.prog W .any base t v)
  (hW : DataW.Whole enc Tryz.prog Tryz.f6.params.toList Rows.indexClosedSpec.vars false W args.toList ds gs before) (hb : Rows.uptoBulkAll (ds ++ gs) ≤ 1048576) (hS : W.ShapedOpen Tryz.prog) :
  Calls Tryz.prog 6 args W fun e W' => ∃ v, e = .returned v ∧ Rows.indexClosedSpec.post enc Tryz.prog Tryz.f6 false true false false W args v W' := by
 have hW' := hW
 have hlt := hW.lt
 obtain ⟨p, q, hA0, hV, rfl, hfz, hnd⟩ := hW
 have hA : DataW.TrodAll enc Tryz.prog W 0 (fun _ => true) true Tryz.f6.params.toList args.toList ds p := hA0
 rw [Tryz.params6] at hA
 obtain ⟨v0, vs0, d0, ds0, p0, q0, hargs, rfl, rfl, h0, r0⟩ := trodAll_cons hA
 obtain ⟨v1, vs1, d1, ds1, p1, q1, rfl, rfl, rfl, h1, r1⟩ := trodAll_cons r0
 obtain ⟨v2, vs2, d2, ds2, p2, q2, rfl, rfl, rfl, h2, r2⟩ := trodAll_cons r1
 obtain ⟨rfl, rfl, rfl⟩ := trodAll_nil r2
 obtain rfl : args = #[v0, v1, v2] := by cases args; simp_all
 obtain ⟨rfl, rfl⟩ := trodVars_none hV
 rw [Tryz.params6] at hok
 obtain ⟨a1, l1, c1, rfl⟩ := okWide_slice Tryz.underlying26 (hok 1 26 v1 rfl rfl)
 clear hok
 clear hA0 hA r0 r1 r2 hargs hV
 simp only [List.append_nil] at hW' hlt
 simp only [ltb,List.append_nil,Rows.uptoBulkAll] at hb
 have h0' := h0
 have h1' := h1
 have h2' := h2
 obtain ⟨f0, h0⟩ := h0
 obtain ⟨f1, h1⟩ := h1
 obtain ⟨f2, h2⟩ := h2
 have main : Calls Tryz.prog 6 #[v0, .slice a1 l1 c1, v2] W fun e W' => e = .returned (.bool true) ∧ Below W.heap.size W W' := by
  obtain ⟨n, hn⟩ := maxLen_at hS
  have go : ∀ (G : Glob) (hG : G.g = some 0) (hg : @Gl G W.cell?), Calls Tryz.prog 6 #[v0, .slice a1 l1 c1, v2] W fun e W' => e = .returned (.bool true) ∧ Below W.heap.size W W' := fun G hG hg => by
   have haw : FnOk Tryz.prog 9 [] (bl true) := by obtain ⟨r, rfl, h⟩ := awake_ok hG; exact h
   obtain ⟨x0, I0, hx0, b0⟩ := rd_ix (F := W.cell?) (hg := hg) rfl h0
   obtain ⟨x1, hx1, b1⟩ := rd_rqs (F := W.cell?) (hg := hg) rfl h1
   obtain ⟨x2, hx2, b2⟩ := rd_rq (F := W.cell?) (hg := hg) rfl h2
   obtain ⟨rr, hrr, hc⟩ : ∃ r_, r_ = bl true ∧ FnOk Tryz.prog 6 [encIx x0 I0, encRqs x1, encRq x2] r_ := by
    obtain ⟨r_, h1, h2⟩ := closed_ok hG haw x0 I0 (ixB_of (by omega)) x1 (by have := length_le_sum wRq (fun q => by unfold wRq; omega) x1; omega) (rqs_B (by omega)).2 x2 (rqB_of (by omega))
    exact ⟨r_, h1, h2⟩
   subst hrr
   refine (hc.2 W.cell? hg W #[v0, .slice a1 l1 c1, v2] (fun _ _ h => h) ?_).mono fun o W' h => ?_
   ·exact .cons (rep_one (by simp [encIx]) hx0) (.cons (rep_sl hx1) (.cons (rep_one (by simp [encRq]) hx2) (.nil _)))
   ·obtain ⟨F', x, rfl, -, -, -, ⟨hg', hx⟩, hbel⟩ := h
    obtain rfl := rep_sc hx
    exact ⟨rfl, hbel⟩
  exact go (gOf n) rfl (@Gl.mk (gOf n) _ (fun g hg => by cases hg; exact hn) (fun g cs j x h => by cases h))
 refine main.mono fun e W' ⟨he, hbel⟩ => ?_
 subst he
 have hlaid : laidOutB Tryz.prog = true := by kernel_rfl
 refine ⟨_, rfl, post_kept (pa := p0 ++ (p1 ++ (p2 ++ []))) (pv := []) hW' (fun _ _ _ => trodAll_cons_mk (shut_bool Tryz.underlying4 _) trodAll_mk0) (fun sp hsp => ?_) (fun _ _ => rfl) (by simp)
  hbel (ok_one (by kernel_rfl) rfl (okWide_bool_mk Tryz.underlying4 _))⟩
 ·refine trodAll_cons_mk (WideElems.Trod_stays hlaid (by kernel_rfl) (of_decide_eq_true (by kernel_rfl)) h0' (fun x hx => hbel.same (hlt x (by simp [hx]))) (fun x hx => hsp x (by simp [hx])))
   (trodAll_cons_mk (WideElems.Trod_stays hlaid (by kernel_rfl) (of_decide_eq_true (by kernel_rfl)) h1' (fun x hx => hbel.same (hlt x (by simp [hx]))) (fun x hx => hsp x (by simp [hx])))
   (trodAll_cons_mk (WideElems.Trod_stays hlaid (by kernel_rfl) (of_decide_eq_true (by kernel_rfl)) h2' (fun x hx => hbel.same (hlt x (by simp [hx]))) (fun x hx => hsp x (by simp [hx])))
   trodAll_mk0))
end Go.Proofs.YtnfeacnbgbggfaaGreatDoor.lawIndexClosed
end

section
namespace Go.Proofs.YtnfeacnbgbggfaaGreatDoor
open Go.ChangeShapes Go.WideShapes Go.ChangeAt Go.RowKit
theorem own : ownKnob Tryz.prog.godebug = none := by kernel_rfl
def wIx : Value := .agg #[.slice none 0 0, .slice none 0 0]
def wRq0 : Value := .agg #[.string ⟨#[]⟩, .slice none 0 0]
def dIx (H : Type) : DataW H := .agg [.nil, .nil]
def dRq0 (H : Type) : DataW H := .agg [.lit (.string []), .nil]
def layAs (cs : Array Value) : Obj → Obj
 | .cells _ t frozen => .cells cs t frozen
 | o => o
def accZ : List Nat := [128,191,160,191,128,159,144,191,128,143,0,0,0,0,0,0,0,0,0,0,0,0,0,0,0,0,0,0,0,0,0,0]
noncomputable def laidWorld (os : Os) : World :=
 { World.holding Tryz.prog os ⟨#[], #[], []⟩ with heap := ((World.holding Tryz.prog os ⟨#[], #[], []⟩).heap.modify 1 (layAs ⟨Pinned.utf8FirstZ.map fun n => Value.int .u8 (Int.ofNat n)⟩)).modify 2 (layAs ⟨accZ.map fun n => Value.int .u8 (Int.ofNat n)⟩) }
end Go.Proofs.YtnfeacnbgbggfaaGreatDoor
end
