/-
  CLOSED CALLS: the example of the chapter: what its names come to, whatever MaxLen is.
  CLOSED CALLS: names, by computing.
  CLOSED CALLS: names, by computing.
  CLOSED CALLS: names, by computing.
  CLOSED CALLS: names, by computing.
  CLOSED CALLS: names, by computing.
  CLOSED CALLS: names, by computing.
  CLOSED CALLS: names, by computing.
  CLOSED CALLS: names, by computing.
  CLOSED CALLS: names, by computing.
  CLOSED CALLS: the example of the chapter, by computing.
  CLOSING: what is common to the laws over trees.
  CONTRACTS: bytes of names.
  CONTRACTS: names of types.
  CONTRACTS: the model's own functions on strings.
  CONTRACTS: strings: bytes, hashes.
  CONTRACTS: strings.Index.
  CONTRACTS: names.
  CONTRACTS: nodes of types.
-/
import Derived.Test.YtpjdfcigadnhcaaGreatDoorP3
import Derived.WalkKit
import Derived.ProofKit
import Derived.OpenShut
import Derived.WideKeyArgs
import Derived.Deep.DeepHandedRow
set_option linter.all false
section
namespace Go.Proofs.YtpjdfcigadnhcaaGreatDoor
open Go.Eng
@[reducible] def gGe (n : Int) (h : 4 ≤ n) : Glob := { n := n, κ := fun j => if j ≤ 4 then some true else none, ok := fun j b hb => by split at hb <;> simp at hb; subst hb; simp; omega, g := some 0, tabs := fun _ => none }
@[reducible] def gEq : Glob := { n := 3, κ := fun j => some (decide (j ≤ 3)), ok := fun j b hb => by simpa using hb, g := some 0, tabs := fun _ => none }
@[reducible] def gLt (n : Int) (h : n < 3) : Glob := { n := n, κ := fun j => if 3 ≤ j then some false else none, ok := fun j b hb => by split at hb <;> simp at hb; subst hb; simp; omega, g := some 0, tabs := fun _ => none }
def noOrc : FuncId → List V → Option V := fun _ _ => none
theorem noOrc_ok [Glob] : OrcOk Tryz.prog noOrc := fun f vs r h => by cases h
abbrev sA : V := .sc (.string ⟨#[97]⟩)
abbrev sB : V := .sc (.string ⟨#[98]⟩)
abbrev sV1 : V := .sc (.string ⟨#[118,49]⟩)
abbrev tru : V := .sc (.bool true)
abbrev sP : V := .sc (.string ⟨#[97,47,118,49]⟩)
def kw : ByteArray := ⟨#[32,97,110,100,32,97,110,121,32,97,115,32,98,111,111,108,32,100,101,112,114,101,99,97,116,101,100,32,101,108,115,101,32,101,120,112,111,114,116,32,102,97,108,115,101,32,102,110,32,102,111,108,100,32,102,114,111,109,32,105,102,32,105,109,112,111,114,116,32,105,110,32,105,110,116,32,108,101,110,103,116,104,32,108,101,116,32,108,105,115,116,32,109,97,116,99,104,32,109,111,100,117,108,101,32,110,111,110,101,32,110,111,116,32,111,114,32,116,101,120,116,32,116,104,101,110,32,116,114,117,101,32,116,121,112,101,32,117,115,101,32]⟩
abbrev tA : ByteArray := ⟨#[32,97,32]⟩
abbrev tB : ByteArray := ⟨#[32,98,32]⟩
abbrev tV : ByteArray := ⟨#[32,118,49,32]⟩
def isStr (v : V) (l : ByteArray) : Bool := match v with | .sc (.string s) => s.data.toList == l.data.toList | _ => false
theorem isStr_eq {v : V} {l : ByteArray} (h : isStr v l = true) : v = .sc (.string l) := by
 unfold isStr at h
 split at h
 ·rename_i s
  have h1 : s.data.toList = l.data.toList := by simpa using h
  have h2 : s = l := ByteArray.ext (Array.toList_inj.1 h1)
  rw [h2]
 ·cases h
def orcRK : FuncId → List V → Option V := fun f vs =>
 if f = 206 then (match vs with
  | [.sc (.string s), b] => if decide (s.size ≤ 1152921504606846975) then
    (if isStr b tA && decide (3 ≤ s.size) then some (num (rkRun s tA 558884339 1055306571))
    else if isStr b tB && decide (3 ≤ s.size) then some (num (rkRun s tB 575661958 1055306571))
    else if isStr b tV && decide (4 ≤ s.size) then some (num (rkRun s tV 2465932041 1345077009)) else none) else none
  | _ => none) else none
section
variable [Glob] (hG : Glob.g = some 0)
include hG
theorem h214A : FnOk Tryz.prog 214 [str tA] (.tup [u32 558884339, u32 1055306571]) := ev_call noOrc_ok (natS_ok hG) 2000 (by kernel_rfl)
theorem h214B : FnOk Tryz.prog 214 [str tB] (.tup [u32 575661958, u32 1055306571]) := ev_call noOrc_ok (natS_ok hG) 2000 (by kernel_rfl)
theorem h214V : FnOk Tryz.prog 214 [str tV] (.tup [u32 2465932041, u32 1345077009]) := ev_call noOrc_ok (natS_ok hG) 2000 (by kernel_rfl)
theorem orcRK_ok : OrcOk Tryz.prog orcRK := fun f vs r h => by
 unfold orcRK at h
 split at h
 ·rename_i hf
  subst hf
  split at h
  ·rename_i s b
   split at h
   ·rename_i hs
    have hs := of_decide_eq_true hs
    split at h
    ·rename_i hc
     simp only [Bool.and_eq_true,decide_eq_true_eq] at hc
     cases h
     rw [isStr_eq hc.1]
     exact rk_ok s tA _ _ (h214A hG) hc.2 hs
    ·split at h
     ·rename_i hc
      simp only [Bool.and_eq_true,decide_eq_true_eq] at hc
      cases h
      rw [isStr_eq hc.1]
      exact rk_ok s tB _ _ (h214B hG) hc.2 hs
     ·split at h
      ·rename_i hc
       simp only [Bool.and_eq_true,decide_eq_true_eq] at hc
       cases h
       rw [isStr_eq hc.1]
       exact rk_ok s tV _ _ (h214V hG) hc.2 hs
      ·cases h
   ·cases h
  ·cases h
 ·cases h
end
end Go.Proofs.YtpjdfcigadnhcaaGreatDoor
end

section
namespace Go.Proofs.YtpjdfcigadnhcaaGreatDoor
open Go.Eng
theorem a_ge (n : Int) (h : 4 ≤ n) : @FnOk (gGe n h) Tryz.prog 99 [sA] tru := @ev_call (gGe n h) _ _ (@orcRK_ok (gGe n h) rfl) (@natS_ok (gGe n h) rfl) 3000 _ _ _ (by kernel_rfl)
end Go.Proofs.YtpjdfcigadnhcaaGreatDoor
end

section
namespace Go.Proofs.YtpjdfcigadnhcaaGreatDoor
open Go.Eng
theorem b_ge (n : Int) (h : 4 ≤ n) : @FnOk (gGe n h) Tryz.prog 99 [sB] tru := @ev_call (gGe n h) _ _ (@orcRK_ok (gGe n h) rfl) (@natS_ok (gGe n h) rfl) 3000 _ _ _ (by kernel_rfl)
end Go.Proofs.YtpjdfcigadnhcaaGreatDoor
end

section
namespace Go.Proofs.YtpjdfcigadnhcaaGreatDoor
open Go.Eng
theorem v_ge (n : Int) (h : 4 ≤ n) : @FnOk (gGe n h) Tryz.prog 99 [sV1] tru := @ev_call (gGe n h) _ _ (@orcRK_ok (gGe n h) rfl) (@natS_ok (gGe n h) rfl) 3000 _ _ _ (by kernel_rfl)
end Go.Proofs.YtpjdfcigadnhcaaGreatDoor
end

section
namespace Go.Proofs.YtpjdfcigadnhcaaGreatDoor
open Go.Eng
theorem a_eq : @FnOk gEq Tryz.prog 99 [sA] tru := @ev_call gEq _ _ (@orcRK_ok gEq rfl) (@natS_ok gEq rfl) 3000 _ _ _ (by kernel_rfl)
end Go.Proofs.YtpjdfcigadnhcaaGreatDoor
end

section
namespace Go.Proofs.YtpjdfcigadnhcaaGreatDoor
open Go.Eng
theorem b_eq : @FnOk gEq Tryz.prog 99 [sB] tru := @ev_call gEq _ _ (@orcRK_ok gEq rfl) (@natS_ok gEq rfl) 3000 _ _ _ (by kernel_rfl)
end Go.Proofs.YtpjdfcigadnhcaaGreatDoor
end

section
namespace Go.Proofs.YtpjdfcigadnhcaaGreatDoor
open Go.Eng
theorem v_eq : @FnOk gEq Tryz.prog 99 [sV1] tru := @ev_call gEq _ _ (@orcRK_ok gEq rfl) (@natS_ok gEq rfl) 3000 _ _ _ (by kernel_rfl)
end Go.Proofs.YtpjdfcigadnhcaaGreatDoor
end

section
namespace Go.Proofs.YtpjdfcigadnhcaaGreatDoor
open Go.Eng
theorem a_lt (n : Int) (h : n < 3) : @FnOk (gLt n h) Tryz.prog 99 [sA] tru := @ev_call (gLt n h) _ _ (@orcRK_ok (gLt n h) rfl) (@natS_ok (gLt n h) rfl) 3000 _ _ _ (by kernel_rfl)
end Go.Proofs.YtpjdfcigadnhcaaGreatDoor
end

section
namespace Go.Proofs.YtpjdfcigadnhcaaGreatDoor
open Go.Eng
theorem b_lt (n : Int) (h : n < 3) : @FnOk (gLt n h) Tryz.prog 99 [sB] tru := @ev_call (gLt n h) _ _ (@orcRK_ok (gLt n h) rfl) (@natS_ok (gLt n h) rfl) 3000 _ _ _ (by kernel_rfl)
end Go.Proofs.YtpjdfcigadnhcaaGreatDoor
end

section
namespace Go.Proofs.YtpjdfcigadnhcaaGreatDoor
open Go.Eng
theorem v_lt (n : Int) (h : n < 3) : @FnOk (gLt n h) Tryz.prog 99 [sV1] tru := @ev_call (gLt n h) _ _ (@orcRK_ok (gLt n h) rfl) (@natS_ok (gLt n h) rfl) 3000 _ _ _ (by kernel_rfl)
end Go.Proofs.YtpjdfcigadnhcaaGreatDoor
end

section
namespace Go.Proofs.YtpjdfcigadnhcaaGreatDoor
open Go.Eng
def orcN : FuncId → List V → Option V := fun f vs =>
 if f = 99 then (match vs with
  | [a] => if isStr a ⟨#[97]⟩ || isStr a ⟨#[98]⟩ || isStr a ⟨#[118,49]⟩ then some tru else none
  | _ => none) else none
theorem orcN_ok [Glob] (ha : FnOk Tryz.prog 99 [sA] tru) (hb : FnOk Tryz.prog 99 [sB] tru) (hv : FnOk Tryz.prog 99 [sV1] tru) : OrcOk Tryz.prog orcN := fun f vs r h => by
 unfold orcN at h
 split at h
 ·rename_i hf
  subst hf
  split at h
  ·split at h
   ·rename_i hc
    cases h
    simp only [Bool.or_eq_true] at hc
    rcases hc with (h2 | h2) | h2
    ·rw [isStr_eq h2]; exact ha
    ·rw [isStr_eq h2]; exact hb
    ·rw [isStr_eq h2]; exact hv
   ·cases h
  ·cases h
 ·cases h
theorem awake_ge (n : Int) (h : 4 ≤ n) : @FnOk (gGe n h) Tryz.prog 10 [] tru := @ev_call (gGe n h) _ _ (@orcN_ok (gGe n h) (a_ge n h) (b_ge n h) (v_ge n h)) (@natS_ok (gGe n h) rfl) 3000 _ _ _ (by kernel_rfl)
theorem awake_eq : @FnOk gEq Tryz.prog 10 [] tru := @ev_call gEq _ _ (@orcN_ok gEq (a_eq ) (b_eq ) (v_eq )) (@natS_ok gEq rfl) 3000 _ _ _ (by kernel_rfl)
theorem awake_lt (n : Int) (h : n < 3) : @FnOk (gLt n h) Tryz.prog 10 [] tru := @ev_call (gLt n h) _ _ (@orcN_ok (gLt n h) (a_lt n h) (b_lt n h) (v_lt n h)) (@natS_ok (gLt n h) rfl) 3000 _ _ _ (by kernel_rfl)
end Go.Proofs.YtpjdfcigadnhcaaGreatDoor
end

section
namespace Go.Proofs.YtpjdfcigadnhcaaGreatDoor
open Go.Eng
set_option maxRecDepth 100000
open Go.ChangeShapes Go.WideShapes Go.ChangeAt Go.RowKit
theorem cell_int {W : World} {v : Value} (hok : Cell.ok Tryz.prog W .any 0 3 v) : ∃ n : Int, v = .int .i64 n := by
 unfold Cell.ok at hok
 rw [Tryz.underlying3] at hok
 cases v with
 | int k n => exact ⟨n, by rw [show k = .i64 from hok.1]⟩
 | _ => exact hok.elim
theorem maxLen_at {W : World} (hS : W.ShapedOpen Tryz.prog) : ∃ n : Int, W.cell? ⟨0, 0, none⟩ = some (.int .i64 n) := by
 have h0 : (((begin Tryz.prog (fun _ _ => 0) default).world.heap[0]?).bind Obj.row?) = some (#[.int .i64 0], 3) := by kernel_rfl
 obtain ⟨cs, hc, hz, hr⟩ := hS.1 0 _ _ (of_decide_eq_true (by kernel_rfl)) h0
 obtain ⟨ts, h1, -, h3⟩ := hr (by kernel_rfl)
 obtain rfl : [3] = ts := Option.some.inj ((show Tryz.prog.cellTypes Tryz.prog.depth 3 = some [3] by kernel_rfl).symm.trans h1)
 have hz' : cs.size = 1 := hz
 obtain ⟨v, hv⟩ : ∃ v, cs[0]? = some v := ⟨cs[0], Array.getElem?_eq_getElem (by omega)⟩
 obtain ⟨u, hu, hok⟩ := h3 0 v hv
 obtain rfl : 3 = u := by simpa using hu
 obtain ⟨n, rfl⟩ := cell_int hok
 exact ⟨n, by simp [World.cell?, hc, hv]⟩
theorem rep_one {F : Addr → Option Value} [Glob] {hg : Gl F} {cs : List V} {v : Value} (hne : cs.length ≠ 1) (h : Rd F hg cs v.cells.toList) : Rep ⟨F, fun _ _ => none, hg⟩ (.agg cs) v := by
 cases v with
 | agg xs => exact .agg _ _ _ (by simpa [Value.cells] using h.1.1) fun i c x hc hx => h.1.2 i c x hc (by simpa [Value.cells] using hx)
 | _ => exact absurd h.1.1 (by simpa [Value.cells] using hne)
theorem post_kept {H : Type} {enc : TypeId × Value → H} {P : Program} {f : Func} {s : ChangeSpec} {apart fresh handsOn again : Bool} {W W' : World} {args : Array Value} {v : Value} {ds gs : List (DataW H)} {before pa pv : List MemPlace}
  (hW : DataW.Whole enc P f.params.toList s.vars apart W args.toList ds gs before)
  (hres : ∀ (b : Nat) (sp : Nat → Bool) (hd : Bool), DataW.TrodAll enc P W' b sp hd f.resultTypes.toList (v.resultList f.resultTypes.size) (s.fn H (ds ++ gs)).results [])
  (hargs : ∀ sp : Nat → Bool, (∀ p ∈ before, sp p.block = true) → DataW.TrodAll enc P W' 0 sp true f.params.toList args.toList (s.fn H (ds ++ gs)).args pa)
  (hvars : ∀ sp : Nat → Bool, (∀ p ∈ before, sp p.block = true) → DataW.TrodVars enc P W' sp s.vars (s.fn H (ds ++ gs)).vars pv)
  (hps : before = pa ++ pv) (hb : Below W.heap.size W W')
  (hok : ∀ (j : Nat) (t : TypeId) (r : Value), f.resultTypes[j]? = some t → (v.resultList f.resultTypes.size)[j]? = some r → Value.okWide P W' .any 0 t r) :
  s.post enc P f apart fresh handsOn again W args v W' := by
 have hlt := hW.lt
 refine ⟨ds, gs, before, [], pa, pv, hW, hres _ _ _, hargs _ (fun p hp => by simpa using hlt p hp), hvars _ (fun p hp => by simpa using hlt p hp), hb.frame _, fun _ => ?_⟩
 obtain ⟨_, _, _, _, _, hz, hn⟩ := hW
 refine ⟨hok, _, _, ([] ++ pa) ++ pv, ⟨[] ++ pa, pv, trodAll_append (hargs _ (fun _ _ => rfl)) (hres _ _ _), hvars _ (fun _ _ => rfl), rfl, fun b off hp => ?_, fun ha => ?_⟩, fun p hp _ => ?_⟩
 ·have hp' : MemPlace.cell b off ∈ before := by rw [hps]; simpa using hp
  rw [hb.frozen (show (⟨b, off, none⟩ : Addr).block < W.heap.size from hlt _ hp')]
  exact hz b off hp'
 ·have := hn ha
  rw [hps] at this
  simpa using this
 ·rw [hps]
  simpa using hp
end Go.Proofs.YtpjdfcigadnhcaaGreatDoor
end

section
namespace Go.Proofs.YtpjdfcigadnhcaaGreatDoor
open Go.Eng
open Nat (reduceAdd reduceLT reduceLeDiff reduceMul reduceEqDiff reduceSub)
variable [Glob]
set_option maxHeartbeats 4000000
set_option maxRecDepth 100000
attribute [local irreducible] runM stepM valD stepOp stepD callF
def isB (v : V) : Prop := ∃ b : Bool, v = bl b
def isN (v : V) : Prop := ∃ n : Int, v = num n
theorem small_tot (c : Int) : ∃ r, isB r ∧ FnOk Tryz.prog 148 [.sc (.int .u8 c)] r := by
 refine fn_ex tt_ok (fn := Tryz.f148) Tryz.func148 rfl Tryz.call148 ?_
 simp only [startSt,Tryz.ntmps148,List.length_cons,List.length_nil,reduceAdd,reduceSub,List.replicate_succ,List.replicate_zero,List.cons_append,List.nil_append]
 refine ex_region_w tt_ok 9 [0,0,2] [] (by kernel_rfl) (by kernel_rfl) fun K hK => ?_
 try simp only [ltb]
 try simp only [ltb]
 simp only [go_sem,reduceIte,reduceAdd,reduceLT,reduceLeDiff,reduceMul,reduceEqDiff,reduceSub,reduceCtorEq,List.take_length]
 refine hK _ _ (by kernel_rfl) ?_
 simp only [mkW,lkF,reduceAdd,reduceEqDiff,if_true,if_false,reduceIte]
 refine ex_region_w tt_ok 9 [0,0,2,1,1,1,1,1,1] [(2, 5)] (by kernel_rfl) (by kernel_rfl) fun K hK => ?_
 try simp only [ltb]
 refine runX_cut 3 fun K1 hK1 => ?_
 simp only [ltb]
 simp only [go_sem,reduceIte,reduceAdd,reduceLT,reduceLeDiff,reduceMul,reduceEqDiff,reduceSub,reduceCtorEq,List.take_length]
 refine hK1 _ ?_
 refine runX_case 5 (by rfl) fun b hb1_2 => ?_
 cases b
 ·skip
  try simp only [ltb]
  simp only [go_sem,reduceIte,reduceAdd,reduceLT,reduceLeDiff,reduceMul,reduceEqDiff,reduceSub,reduceCtorEq,List.take_length]
  refine hK _ _ (by kernel_rfl) ?_
  simp only [mkW,lkF,reduceAdd,reduceEqDiff,if_true,if_false,reduceIte]
  refine ex_ret ?_
  exact ⟨.inl rfl, _, ⟨_, rfl⟩, rfl⟩
 ·skip
  try simp only [ltb]
  simp only [go_sem,reduceIte,reduceAdd,reduceLT,reduceLeDiff,reduceMul,reduceEqDiff,reduceSub,reduceCtorEq,List.take_length]
  refine hK _ _ (by kernel_rfl) ?_
  simp only [mkW,lkF,reduceAdd,reduceEqDiff,if_true,if_false,reduceIte]
  refine ex_ret ?_
  exact ⟨.inl rfl, _, ⟨_, rfl⟩, rfl⟩
theorem capital_tot (c : Int) : ∃ r, isB r ∧ FnOk Tryz.prog 118 [.sc (.int .u8 c)] r := by
 refine fn_ex tt_ok (fn := Tryz.f118) Tryz.func118 rfl Tryz.call118 ?_
 simp only [startSt,Tryz.ntmps118,List.length_cons,List.length_nil,reduceAdd,reduceSub,List.replicate_succ,List.replicate_zero,List.cons_append,List.nil_append]
 refine ex_region_w tt_ok 9 [0,0,2] [] (by kernel_rfl) (by kernel_rfl) fun K hK => ?_
 try simp only [ltb]
 try simp only [ltb]
 simp only [go_sem,reduceIte,reduceAdd,reduceLT,reduceLeDiff,reduceMul,reduceEqDiff,reduceSub,reduceCtorEq,List.take_length]
 refine hK _ _ (by kernel_rfl) ?_
 simp only [mkW,lkF,reduceAdd,reduceEqDiff,if_true,if_false,reduceIte]
 refine ex_region_w tt_ok 9 [0,0,2,1,1,1,1,1,1] [(2, 5)] (by kernel_rfl) (by kernel_rfl) fun K hK => ?_
 try simp only [ltb]
 refine runX_cut 3 fun K1 hK1 => ?_
 simp only [ltb]
 simp only [go_sem,reduceIte,reduceAdd,reduceLT,reduceLeDiff,reduceMul,reduceEqDiff,reduceSub,reduceCtorEq,List.take_length]
 refine hK1 _ ?_
 refine runX_case 5 (by rfl) fun b hb1_2 => ?_
 cases b
 ·skip
  try simp only [ltb]
  simp only [go_sem,reduceIte,reduceAdd,reduceLT,reduceLeDiff,reduceMul,reduceEqDiff,reduceSub,reduceCtorEq,List.take_length]
  refine hK _ _ (by kernel_rfl) ?_
  simp only [mkW,lkF,reduceAdd,reduceEqDiff,if_true,if_false,reduceIte]
  refine ex_ret ?_
  exact ⟨.inl rfl, _, ⟨_, rfl⟩, rfl⟩
 ·skip
  try simp only [ltb]
  simp only [go_sem,reduceIte,reduceAdd,reduceLT,reduceLeDiff,reduceMul,reduceEqDiff,reduceSub,reduceCtorEq,List.take_length]
  refine hK _ _ (by kernel_rfl) ?_
  simp only [mkW,lkF,reduceAdd,reduceEqDiff,if_true,if_false,reduceIte]
  refine ex_ret ?_
  exact ⟨.inl rfl, _, ⟨_, rfl⟩, rfl⟩
theorem digit_tot (c : Int) : ∃ r, isB r ∧ FnOk Tryz.prog 169 [.sc (.int .u8 c)] r := by
 refine fn_ex tt_ok (fn := Tryz.f169) Tryz.func169 rfl Tryz.call169 ?_
 simp only [startSt,Tryz.ntmps169,List.length_cons,List.length_nil,reduceAdd,reduceSub,List.replicate_succ,List.replicate_zero,List.cons_append,List.nil_append]
 refine ex_region_w tt_ok 9 [0,0,2] [] (by kernel_rfl) (by kernel_rfl) fun K hK => ?_
 try simp only [ltb]
 try simp only [ltb]
 simp only [go_sem,reduceIte,reduceAdd,reduceLT,reduceLeDiff,reduceMul,reduceEqDiff,reduceSub,reduceCtorEq,List.take_length]
 refine hK _ _ (by kernel_rfl) ?_
 simp only [mkW,lkF,reduceAdd,reduceEqDiff,if_true,if_false,reduceIte]
 refine ex_region_w tt_ok 9 [0,0,2,1,1,1,1,1,1] [(2, 5)] (by kernel_rfl) (by kernel_rfl) fun K hK => ?_
 try simp only [ltb]
 refine runX_cut 3 fun K1 hK1 => ?_
 simp only [ltb]
 simp only [go_sem,reduceIte,reduceAdd,reduceLT,reduceLeDiff,reduceMul,reduceEqDiff,reduceSub,reduceCtorEq,List.take_length]
 refine hK1 _ ?_
 refine runX_case 5 (by rfl) fun b hb1_2 => ?_
 cases b
 ·skip
  try simp only [ltb]
  simp only [go_sem,reduceIte,reduceAdd,reduceLT,reduceLeDiff,reduceMul,reduceEqDiff,reduceSub,reduceCtorEq,List.take_length]
  refine hK _ _ (by kernel_rfl) ?_
  simp only [mkW,lkF,reduceAdd,reduceEqDiff,if_true,if_false,reduceIte]
  refine ex_ret ?_
  exact ⟨.inl rfl, _, ⟨_, rfl⟩, rfl⟩
 ·skip
  try simp only [ltb]
  simp only [go_sem,reduceIte,reduceAdd,reduceLT,reduceLeDiff,reduceMul,reduceEqDiff,reduceSub,reduceCtorEq,List.take_length]
  refine hK _ _ (by kernel_rfl) ?_
  simp only [mkW,lkF,reduceAdd,reduceEqDiff,if_true,if_false,reduceIte]
  refine ex_ret ?_
  exact ⟨.inl rfl, _, ⟨_, rfl⟩, rfl⟩
theorem word_tot (c : Int) : ∃ r, isB r ∧ FnOk Tryz.prog 120 [.sc (.int .u8 c)] r := by
 refine fn_ex tt_ok (fn := Tryz.f120) Tryz.func120 rfl Tryz.call120 ?_
 simp only [startSt,Tryz.ntmps120,List.length_cons,List.length_nil,reduceAdd,reduceSub,List.replicate_succ,List.replicate_zero,List.cons_append,List.nil_append]
 refine ex_region_w tt_ok 17 [0,0,2] [] (by kernel_rfl) (by kernel_rfl) fun K hK => ?_
 try simp only [ltb]
 try simp only [ltb]
 simp only [go_sem,reduceIte,reduceAdd,reduceLT,reduceLeDiff,reduceMul,reduceEqDiff,reduceSub,reduceCtorEq,List.take_length]
 refine hK _ _ (by kernel_rfl) ?_
 simp only [mkW,lkF,reduceAdd,reduceEqDiff,if_true,if_false,reduceIte]
 refine ex_region_w tt_ok 17 [0,0,2,1,1,1,1,1,1,1,1,1,1,1,1,1,1] [(2, 5), (6, 9), (10, 13)] (by kernel_rfl) (by kernel_rfl) fun K hK => ?_
 try simp only [ltb]
 refine runX_cut 2 fun K1 hK1 => ?_
 simp only [ltb]
 simp only [go_sem,reduceIte,reduceAdd,reduceLT,reduceLeDiff,reduceMul,reduceEqDiff,reduceSub,reduceCtorEq,List.take_length]
 refine callF_ex (small_tot _) ?_
 rintro _ ⟨r1, rfl⟩
 try simp only [go_sem,reduceIte,reduceAdd,reduceLT,reduceLeDiff,reduceMul,reduceEqDiff,reduceSub,reduceCtorEq,List.take_length]
 refine hK1 _ ?_
 refine runX_cut 1 fun K1 hK1 => ?_
 simp only [ltb]
 simp only [go_sem,reduceIte,reduceAdd,reduceLT,reduceLeDiff,reduceMul,reduceEqDiff,reduceSub,reduceCtorEq,List.take_length]
 refine hK1 _ ?_
 refine runX_case 5 (by rfl) fun b hb1_2 => ?_
 cases b
 ·skip
  refine runX_cut 2 fun K1 hK1 => ?_
  simp only [ltb]
  simp only [go_sem,reduceIte,reduceAdd,reduceLT,reduceLeDiff,reduceMul,reduceEqDiff,reduceSub,reduceCtorEq,List.take_length]
  refine callF_ex (capital_tot _) ?_
  rintro _ ⟨r2, rfl⟩
  try simp only [go_sem,reduceIte,reduceAdd,reduceLT,reduceLeDiff,reduceMul,reduceEqDiff,reduceSub,reduceCtorEq,List.take_length]
  refine hK1 _ ?_
  refine runX_cut 2 fun K1 hK1 => ?_
  simp only [ltb]
  simp only [go_sem,reduceIte,reduceAdd,reduceLT,reduceLeDiff,reduceMul,reduceEqDiff,reduceSub,reduceCtorEq,List.take_length]
  refine hK1 _ ?_
  refine runX_case 9 (by rfl) fun b hb1_6 => ?_
  cases b
  ·skip
   refine runX_cut 2 fun K1 hK1 => ?_
   simp only [ltb]
   simp only [go_sem,reduceIte,reduceAdd,reduceLT,reduceLeDiff,reduceMul,reduceEqDiff,reduceSub,reduceCtorEq,List.take_length]
   refine callF_ex (digit_tot _) ?_
   rintro _ ⟨r3, rfl⟩
   try simp only [go_sem,reduceIte,reduceAdd,reduceLT,reduceLeDiff,reduceMul,reduceEqDiff,reduceSub,reduceCtorEq,List.take_length]
   refine hK1 _ ?_
   refine runX_cut 2 fun K1 hK1 => ?_
   simp only [ltb]
   simp only [go_sem,reduceIte,reduceAdd,reduceLT,reduceLeDiff,reduceMul,reduceEqDiff,reduceSub,reduceCtorEq,List.take_length]
   refine hK1 _ ?_
   refine runX_case 13 (by rfl) fun b hb1_10 => ?_
   cases b
   ·skip
    try simp only [ltb]
    simp only [go_sem,reduceIte,reduceAdd,reduceLT,reduceLeDiff,reduceMul,reduceEqDiff,reduceSub,reduceCtorEq,List.take_length]
    refine hK _ _ (by kernel_rfl) ?_
    simp only [mkW,lkF,reduceAdd,reduceEqDiff,if_true,if_false,reduceIte]
    refine ex_ret ?_
    exact ⟨.inl rfl, _, ⟨_, rfl⟩, rfl⟩
   ·skip
    try simp only [ltb]
    simp only [go_sem,reduceIte,reduceAdd,reduceLT,reduceLeDiff,reduceMul,reduceEqDiff,reduceSub,reduceCtorEq,List.take_length]
    refine hK _ _ (by kernel_rfl) ?_
    simp only [mkW,lkF,reduceAdd,reduceEqDiff,if_true,if_false,reduceIte]
    refine ex_ret ?_
    exact ⟨.inl rfl, _, ⟨_, rfl⟩, rfl⟩
  ·skip
   try simp only [ltb]
   simp only [go_sem,reduceIte,reduceAdd,reduceLT,reduceLeDiff,reduceMul,reduceEqDiff,reduceSub,reduceCtorEq,List.take_length]
   refine hK _ _ (by kernel_rfl) ?_
   simp only [mkW,lkF,reduceAdd,reduceEqDiff,if_true,if_false,reduceIte]
   refine ex_ret ?_
   exact ⟨.inl rfl, _, ⟨_, rfl⟩, rfl⟩
 ·skip
  refine runX_cut 8 fun K1 hK1 => ?_
  simp only [ltb]
  simp only [go_sem,reduceIte,reduceAdd,reduceLT,reduceLeDiff,reduceMul,reduceEqDiff,reduceSub,reduceCtorEq,List.take_length]
  refine hK1 _ ?_
  try simp only [ltb]
  simp only [go_sem,reduceIte,reduceAdd,reduceLT,reduceLeDiff,reduceMul,reduceEqDiff,reduceSub,reduceCtorEq,List.take_length]
  refine hK _ _ (by kernel_rfl) ?_
  simp only [mkW,lkF,reduceAdd,reduceEqDiff,if_true,if_false,reduceIte]
  refine ex_ret ?_
  exact ⟨.inl rfl, _, ⟨_, rfl⟩, rfl⟩
end Go.Proofs.YtpjdfcigadnhcaaGreatDoor
end

section
namespace Go.Proofs.YtpjdfcigadnhcaaGreatDoor
open Go.Eng
open Nat (reduceAdd reduceLT reduceLeDiff reduceMul reduceEqDiff reduceSub)
variable [Glob]
set_option maxHeartbeats 4000000
set_option maxRecDepth 100000
attribute [local irreducible] runM stepM valD stepOp stepD callF
theorem ne_get {s e : ByteArray} (he : e.size = 0) (h : (!(s.toList == e.toList)) = true) : ∃ c, s[0]? = some c := by
 refine get_byte (s := s) (i := 0) ?_
 rcases Nat.eq_zero_or_pos s.size with hz | hz
 ·exfalso
  have e1 : s.toList = e.toList := by
   rw [ByteArray.toList_eq, ByteArray.toList_eq]
   have a1 : s.data.toList = [] := by simpa [← List.length_eq_zero_iff, Array.length_toList] using hz
   have a2 : e.data.toList = [] := by simpa [← List.length_eq_zero_iff, Array.length_toList] using he
   rw [a1, a2]
  rw [e1] at h; simp at h
 ·exact hz
theorem all_tot (g : FuncId) (hg : ∀ c : Int, ∃ r, isB r ∧ FnOk Tryz.prog g [.sc (.int .u8 c)] r) (s : ByteArray) (hs : s.size ≤ 1048576) : ∃ r, isB r ∧ FnOk Tryz.prog 119 [str s, .sc (.func (.func g) #[] #[])] r := by
 refine fn_ex tt_ok (fn := Tryz.f119) Tryz.func119 rfl Tryz.call119 ?_
 simp only [startSt,Tryz.ntmps119,List.length_cons,List.length_nil,reduceAdd,reduceSub,List.replicate_succ,List.replicate_zero,List.cons_append,List.nil_append]
 have hT9 : Tryz.prog.underlying 9 = some .string := by kernel_rfl
 have sl : ∀ (a : ByteArray) (ty : TypeId), liftL Tryz.prog (Builtin.len_ #[9] ty) [.sc (.string a)] = some (num a.size) := fun a ty => ev_slen (P := Tryz.prog) (tt := tt) (T := 9) a hT9 ty
 refine ex_region_w tt_ok 18 [0,0,0,0,2] [] (by kernel_rfl) (by kernel_rfl) fun K hK => ?_
 try simp only [ltb]
 try simp only [ltb]
 simp only [sl,go_sem,reduceIte,reduceAdd,reduceLT,reduceLeDiff,reduceMul,reduceEqDiff,reduceSub,reduceCtorEq,List.take_length]
 refine hK _ _ (by kernel_rfl) ?_
 simp only [mkW,lkF,reduceAdd,reduceEqDiff,if_true,if_false,reduceIte]
 refine ex_seq ?_
 refine ex_region_w tt_ok 18 [0,0,0,0,0,0,1,2,2] [] (by kernel_rfl) (by kernel_rfl) fun K hK => ?_
 try simp only [ltb]
 try simp only [ltb]
 simp only [sl,go_sem,reduceIte,reduceAdd,reduceLT,reduceLeDiff,reduceMul,reduceEqDiff,reduceSub,reduceCtorEq,List.take_length]
 refine hK _ _ (by kernel_rfl) ?_
 simp only [mkW,lkF,reduceAdd,reduceEqDiff,if_true,if_false,reduceIte]
 refine ex_block ?_
 refine ex_range 8 (s.size) 0 [true,true,false,false,true,false,false,true,true] (by omega) (by simp only [maskFr,belowV,belowL,belowB,reduceLT,mkb]) (by simp only [maskFr,belowV,belowL,belowB,reduceLT,mkb]) (by rfl) fun i hii => ?_
 simp only [maskFr,belowV,belowL,belowB,reduceLT,mkb,List.set_cons_zero,List.set_cons_succ]
 refine ex_region_w tt_ok 18 [0,0,0,0,0,0,0,0,0,2] [] (by kernel_rfl) (by kernel_rfl) fun K hK => ?_
 try simp only [ltb]
 try simp only [ltb]
 simp only [sl,go_sem,reduceIte,reduceAdd,reduceLT,reduceLeDiff,reduceMul,reduceEqDiff,reduceSub,reduceCtorEq,List.take_length]
 refine hK _ _ (by kernel_rfl) ?_
 simp only [mkW,lkF,reduceAdd,reduceEqDiff,if_true,if_false,reduceIte]
 refine ex_seq ?_
 refine ex_if rfl (fun hc9 => ?_) (fun hc9 => ?_)
 ·skip
  have hlti : i < (s.size) := by simpa using hc9
  refine ex_skip ?_
  show Go.Eng.Ex _ _ _ _ _ _
  refine ex_seq ?_
  refine ex_block ?_
  refine ex_region_w tt_ok 18 [0,0,0,0,0,2,0,0,0,0,1] [] (by kernel_rfl) (by kernel_rfl) fun K hK => ?_
  try simp only [ltb]
  try simp only [ltb]
  simp only [hlti,sl,go_sem,reduceIte,reduceAdd,reduceLT,reduceLeDiff,reduceMul,reduceEqDiff,reduceSub,reduceCtorEq,List.take_length]
  refine hK _ _ (by kernel_rfl) ?_
  simp only [mkW,lkF,reduceAdd,reduceEqDiff,if_true,if_false,reduceIte]
  refine ex_region_w tt_ok 18 [0,0,0,0,0,0,0,0,0,0,0,1,1,1,1,1,2] [] (by kernel_rfl) (by kernel_rfl) fun K hK => ?_
  try simp only [ltb]
  refine runX_cut 3 fun K1 hK1 => ?_
  simp only [ltb]
  simp only [hlti,sl,go_sem,reduceIte,reduceAdd,reduceLT,reduceLeDiff,reduceMul,reduceEqDiff,reduceSub,reduceCtorEq,List.take_length]
  refine hK1 _ ?_
  obtain ⟨c, hcb⟩ := get_byte (s := s) (i := i) hlti
  have hix := ev_index (P := Tryz.prog) s hT9 .i64 (i : Int) (by omega) (c := c) (show s[((i : Nat) : Int).toNat]? = some c from hcb)
  refine runX_cut 2 fun K1 hK1 => ?_
  simp only [ltb]
  simp only [hlti,hix,sl,go_sem,reduceIte,reduceAdd,reduceLT,reduceLeDiff,reduceMul,reduceEqDiff,reduceSub,reduceCtorEq,List.take_length]
  refine callF_ex (hg _) ?_
  rintro _ ⟨r1, rfl⟩
  try simp only [hlti,hix,sl,go_sem,reduceIte,reduceAdd,reduceLT,reduceLeDiff,reduceMul,reduceEqDiff,reduceSub,reduceCtorEq,List.take_length]
  refine hK1 _ ?_
  try simp only [ltb]
  simp only [hlti,hix,sl,go_sem,reduceIte,reduceAdd,reduceLT,reduceLeDiff,reduceMul,reduceEqDiff,reduceSub,reduceCtorEq,List.take_length]
  refine hK _ _ (by kernel_rfl) ?_
  simp only [mkW,lkF,reduceAdd,reduceEqDiff,if_true,if_false,reduceIte]
  refine ex_if rfl (fun hc16 => ?_) (fun hc16 => ?_)
  ·skip
   refine ex_region_w tt_ok 18 [0,0,0,0,2] [] (by kernel_rfl) (by kernel_rfl) fun K hK => ?_
   try simp only [ltb]
   try simp only [ltb]
   simp only [hlti,hix,sl,go_sem,reduceIte,reduceAdd,reduceLT,reduceLeDiff,reduceMul,reduceEqDiff,reduceSub,reduceCtorEq,List.take_length]
   refine hK _ _ (by kernel_rfl) ?_
   simp only [mkW,lkF,reduceAdd,reduceEqDiff,if_true,if_false,reduceIte]
   refine ex_ret ?_
   exact ⟨.inl rfl, _, ⟨_, rfl⟩, rfl⟩
  ·skip
   refine ex_skip ?_
   show Go.Eng.Ex _ _ _ _ _ _
   refine ex_last_region_w tt_ok 18 [0,0,0,0,0,0,0,0,2,0,0,0,0,0,0,0,0,2] [] (by kernel_rfl) (by kernel_rfl) (by kernel_rfl) fun K hK => ?_
   try simp only [ltb]
   try simp only [ltb]
   simp only [hlti,hix,sl,go_sem,reduceIte,reduceAdd,reduceLT,reduceLeDiff,reduceMul,reduceEqDiff,reduceSub,reduceCtorEq,List.take_length]
   refine hK _ _ (by kernel_rfl) ?_
   simp only [mkW,lkF,reduceAdd,reduceEqDiff,if_true,if_false,reduceIte]
   have hwi := i64_succ i (by omega)
   refine ⟨hlti, 0, [true,true,false,false,true,false,false,true,true], by omega, by simp only [maskFr,belowV,belowL,belowB,reduceLT,mkb], by simp only [maskFr,belowV,belowL,belowB,reduceLT,mkb], ?_⟩
   simp only [hwi,maskFr,belowV,belowL,belowB,reduceLT,mkb,List.set_cons_zero,List.set_cons_succ]
 ·skip
  have hgei : ¬ i < (s.size) := by simpa using hc9
  refine ex_exit ?_
  show Go.Eng.Ex _ _ _ _ _ _
  refine ex_region_w tt_ok 18 [0,0,0,0,2] [] (by kernel_rfl) (by kernel_rfl) fun K hK => ?_
  try simp only [ltb]
  try simp only [ltb]
  simp only [sl,go_sem,reduceIte,reduceAdd,reduceLT,reduceLeDiff,reduceMul,reduceEqDiff,reduceSub,reduceCtorEq,List.take_length]
  refine hK _ _ (by kernel_rfl) ?_
  simp only [mkW,lkF,reduceAdd,reduceEqDiff,if_true,if_false,reduceIte]
  refine ex_ret ?_
  exact ⟨.inl rfl, _, ⟨_, rfl⟩, rfl⟩
theorem isType_tot (s : ByteArray) : ∃ r, isB r ∧ FnOk Tryz.prog 78 [str s] r := by
 refine fn_ex tt_ok (fn := Tryz.f78) Tryz.func78 rfl Tryz.call78 ?_
 simp only [startSt,Tryz.ntmps78,List.length_cons,List.length_nil,reduceAdd,reduceSub,List.replicate_succ,List.replicate_zero,List.cons_append,List.nil_append]
 have hT9 : Tryz.prog.underlying 9 = some .string := by kernel_rfl
 have sl : ∀ (a : ByteArray) (ty : TypeId), liftL Tryz.prog (Builtin.len_ #[9] ty) [.sc (.string a)] = some (num a.size) := fun a ty => ev_slen (P := Tryz.prog) (tt := tt) (T := 9) a hT9 ty
 refine ex_region_w tt_ok 19 [0,0,2] [] (by kernel_rfl) (by kernel_rfl) fun K hK => ?_
 try simp only [ltb]
 try simp only [ltb]
 simp only [sl,go_sem,reduceIte,reduceAdd,reduceLT,reduceLeDiff,reduceMul,reduceEqDiff,reduceSub,reduceCtorEq,List.take_length]
 refine hK _ _ (by kernel_rfl) ?_
 simp only [mkW,lkF,reduceAdd,reduceEqDiff,if_true,if_false,reduceIte]
 refine ex_region_w tt_ok 19 [0,0,2,1,1,1,1,1,1,1,1,1,1,1,1,1,1,1,1] [(2, 5), (7, 10), (12, 15)] (by kernel_rfl) (by kernel_rfl) fun K hK => ?_
 try simp only [ltb]
 refine runX_cut 3 fun K1 hK1 => ?_
 simp only [ltb]
 simp only [sl,go_sem,reduceIte,reduceAdd,reduceLT,reduceLeDiff,reduceMul,reduceEqDiff,reduceSub,reduceCtorEq,List.take_length]
 refine hK1 _ ?_
 refine runX_case 5 (by rfl) fun b hb1_2 => ?_
 cases b
 ·skip
  refine runX_cut 8 fun K1 hK1 => ?_
  simp only [ltb]
  simp only [sl,go_sem,reduceIte,reduceAdd,reduceLT,reduceLeDiff,reduceMul,reduceEqDiff,reduceSub,reduceCtorEq,List.take_length]
  refine hK1 _ ?_
  try simp only [ltb]
  simp only [sl,go_sem,reduceIte,reduceAdd,reduceLT,reduceLeDiff,reduceMul,reduceEqDiff,reduceSub,reduceCtorEq,List.take_length]
  refine hK _ _ (by kernel_rfl) ?_
  simp only [mkW,lkF,reduceAdd,reduceEqDiff,if_true,if_false,reduceIte]
  refine ex_ret ?_
  exact ⟨.inl rfl, _, ⟨_, rfl⟩, rfl⟩
 ·skip
  refine runX_cut 5 fun K1 hK1 => ?_
  simp only [ltb]
  simp only [sl,go_sem,reduceIte,reduceAdd,reduceLT,reduceLeDiff,reduceMul,reduceEqDiff,reduceSub,reduceCtorEq,List.take_length]
  refine hK1 _ ?_
  refine runX_case 10 (by rfl) fun b hb1_7 => ?_
  cases b
  ·skip
   refine runX_cut 8 fun K1 hK1 => ?_
   simp only [ltb]
   simp only [sl,go_sem,reduceIte,reduceAdd,reduceLT,reduceLeDiff,reduceMul,reduceEqDiff,reduceSub,reduceCtorEq,List.take_length]
   refine hK1 _ ?_
   try simp only [ltb]
   simp only [sl,go_sem,reduceIte,reduceAdd,reduceLT,reduceLeDiff,reduceMul,reduceEqDiff,reduceSub,reduceCtorEq,List.take_length]
   refine hK _ _ (by kernel_rfl) ?_
   simp only [mkW,lkF,reduceAdd,reduceEqDiff,if_true,if_false,reduceIte]
   refine ex_ret ?_
   exact ⟨.inl rfl, _, ⟨_, rfl⟩, rfl⟩
  ·skip
   have hsz : s.size ≤ 1048576 := by have h1 := hb1_7; simp at h1; omega
   refine runX_cut 1 fun K1 hK1 => ?_
   simp only [ltb]
   simp only [sl,go_sem,reduceIte,reduceAdd,reduceLT,reduceLeDiff,reduceMul,reduceEqDiff,reduceSub,reduceCtorEq,List.take_length]
   refine hK1 _ ?_
   obtain ⟨c0, hcb0⟩ := ne_get rfl hb1_2
   have hix0 := ev_index (P := Tryz.prog) s hT9 .i64 0 (by omega) (c := c0) (show s[(0 : Int).toNat]? = some c0 from hcb0)
   refine runX_cut 2 fun K1 hK1 => ?_
   simp only [ltb]
   simp only [hix0,sl,go_sem,reduceIte,reduceAdd,reduceLT,reduceLeDiff,reduceMul,reduceEqDiff,reduceSub,reduceCtorEq,List.take_length]
   refine callF_ex (capital_tot _) ?_
   rintro _ ⟨r1, rfl⟩
   try simp only [hix0,sl,go_sem,reduceIte,reduceAdd,reduceLT,reduceLeDiff,reduceMul,reduceEqDiff,reduceSub,reduceCtorEq,List.take_length]
   refine hK1 _ ?_
   refine runX_cut 2 fun K1 hK1 => ?_
   simp only [ltb]
   simp only [hix0,sl,go_sem,reduceIte,reduceAdd,reduceLT,reduceLeDiff,reduceMul,reduceEqDiff,reduceSub,reduceCtorEq,List.take_length]
   refine hK1 _ ?_
   refine runX_case 15 (by rfl) fun b hb1_12 => ?_
   cases b
   ·skip
    try simp only [ltb]
    simp only [hix0,sl,go_sem,reduceIte,reduceAdd,reduceLT,reduceLeDiff,reduceMul,reduceEqDiff,reduceSub,reduceCtorEq,List.take_length]
    refine hK _ _ (by kernel_rfl) ?_
    simp only [mkW,lkF,reduceAdd,reduceEqDiff,if_true,if_false,reduceIte]
    refine ex_ret ?_
    exact ⟨.inl rfl, _, ⟨_, rfl⟩, rfl⟩
   ·skip
    refine runX_cut 2 fun K1 hK1 => ?_
    simp only [ltb]
    simp only [hix0,sl,go_sem,reduceIte,reduceAdd,reduceLT,reduceLeDiff,reduceMul,reduceEqDiff,reduceSub,reduceCtorEq,List.take_length]
    refine callF_ex (all_tot 120 word_tot _ hsz) ?_
    rintro _ ⟨r2, rfl⟩
    try simp only [hix0,sl,go_sem,reduceIte,reduceAdd,reduceLT,reduceLeDiff,reduceMul,reduceEqDiff,reduceSub,reduceCtorEq,List.take_length]
    refine hK1 _ ?_
    try simp only [ltb]
    simp only [hix0,sl,go_sem,reduceIte,reduceAdd,reduceLT,reduceLeDiff,reduceMul,reduceEqDiff,reduceSub,reduceCtorEq,List.take_length]
    refine hK _ _ (by kernel_rfl) ?_
    simp only [mkW,lkF,reduceAdd,reduceEqDiff,if_true,if_false,reduceIte]
    refine ex_ret ?_
    exact ⟨.inl rfl, _, ⟨_, rfl⟩, rfl⟩
end Go.Proofs.YtpjdfcigadnhcaaGreatDoor
end

section
namespace Go.Proofs.YtpjdfcigadnhcaaGreatDoor
open Go.Eng
variable [Glob]
theorem find_range {n : Nat} {p : Nat → Bool} : match (List.range n).find? p with | some i => i < n | none => True := by
 cases h : (List.range n).find? p with
 | none => trivial
 | some i => simpa using List.mem_of_find?_eq_some h
theorem idxByte_nat (s : ByteArray) (c : Int) : ∃ r, (∃ o : Int, r = num o ∧ -1 ≤ o ∧ o < s.size) ∧ NatOk Tryz.prog 213 [str s, .sc (.int .u8 c)] r := by
 obtain ⟨v, hv⟩ : ∃ v : Value, v = (match (List.range s.size).find? fun i => s[i]! == c.toNat.toUInt8 with | some i => goInt i | none => goInt (-1)) := ⟨_, rfl⟩
 refine ⟨absV v, ?_, natOk_of (P := Tryz.prog) (fn := Tryz.f213) (ext := Extern.BytealgIndexByte.indexByte) Tryz.func213 (by kernel_rfl) rfl (by kernel_rfl) (by kernel_rfl) (l := [.string s, .int .u8 c]) rfl fun w => ?_⟩
 ·have := find_range (n := s.size) (p := fun i => s[i]! == c.toNat.toUInt8)
  rw [hv]
  revert this
  cases (List.range s.size).find? (fun i => s[i]! == c.toNat.toUInt8) with
  | none => intro _; exact ⟨-1, rfl, by omega, by omega⟩
  | some i => intro h; exact ⟨i, rfl, by omega, by dsimp only at h; omega⟩
 ·rw [hv]
  show (do
   let b ← Extern.Bytes.bytesOf (.string s)
   let c ← Extern.Bytes.asByte (.int .u8 c)
   match (List.range b.size).find? fun i => b[i]! == c with
   | some i => pure (goInt i)
   | none => pure (goInt (-1)) : Sem Value).run Tryz.prog w = _
  simp only [Extern.Bytes.bytesOf,Extern.Bytes.asByte,Sem.run_bind,Sem.run_pure,Result.andThen_ok]
  cases (List.range s.size).find? (fun i => s[i]! == c.toNat.toUInt8) <;> rfl
theorem count_nat (s : ByteArray) (c : Int) : ∃ r, isN r ∧ NatOk Tryz.prog 217 [str s, .sc (.int .u8 c)] r :=
 ⟨_, ⟨_, rfl⟩, natOk_of (P := Tryz.prog) (fn := Tryz.f217) (ext := Extern.BytealgCount.count) Tryz.func217 (by kernel_rfl) rfl (by kernel_rfl) (by kernel_rfl) (l := [.string s, .int .u8 c]) rfl fun w => rfl⟩
theorem cmp_nat (s t : ByteArray) : ∃ r, isN r ∧ NatOk Tryz.prog 198 [str s, str t] r :=
 ⟨_, ⟨_, rfl⟩, natOk_of (P := Tryz.prog) (fn := Tryz.f198) (ext := Extern.BytealgCompare.compare) Tryz.func198 (by kernel_rfl) rfl (by kernel_rfl) (by kernel_rfl) (l := [.string s, .string t]) rfl fun w => rfl⟩
theorem idxStr_nat (hG : Glob.g = some 0) (s t : ByteArray) (h2 : 2 ≤ t.size) (hc : cmpG t.size = true) (hs : s.size < 4294967281) : ∃ r, isN r ∧ NatOk Tryz.prog 204 [str s, str t] r := by
 obtain ⟨v, hv⟩ : ∃ v : V, v = (match (List.range (s.size + 1 - t.size)).find? fun i => s.extract i (i + t.size) == t with | some i => num i | none => num (-1)) := ⟨_, rfl⟩
 refine ⟨v, ?_, natS_ok hG 204 _ _ ?_⟩
 ·rw [hv]
  cases (List.range (s.size + 1 - t.size)).find? (fun i => s.extract i (i + t.size) == t) <;> exact ⟨_, rfl⟩
 ·unfold natS
  rw [if_pos rfl]
  simp only [idxStr]
  rw [if_pos ⟨h2, hc, hs⟩, hv]
  cases (List.range (s.size + 1 - t.size)).find? (fun i => s.extract i (i + t.size) == t) <;> rfl
end Go.Proofs.YtpjdfcigadnhcaaGreatDoor
end

section
namespace Go.Proofs.YtpjdfcigadnhcaaGreatDoor
open Go.Eng
open Nat (reduceAdd reduceLT reduceLeDiff reduceMul reduceEqDiff reduceSub)
variable [Glob]
set_option maxHeartbeats 4000000
set_option maxRecDepth 100000
attribute [local irreducible] runM stepM valD stepOp stepD callF
theorem hdiv (i : Int) (h : 0 < i) : (i.fdiv (2 ^ min (1 : Int).toNat IntKind.i64.bits)).toNat < i.toNat := by
 have e : (2 : Int) ^ min (1 : Int).toNat IntKind.i64.bits = 2 := by decide
 rw [e, Int.fdiv_eq_ediv_of_nonneg _ (by omega)]
 omega
theorem indexByte_tot (s : ByteArray) (c : Int) : ∃ r, (fun v => ∃ o : Int, v = num o ∧ -1 ≤ o ∧ o < s.size) r ∧ FnOk Tryz.prog 203 [str s, .sc (.int .u8 c)] r := by
 refine fn_ex tt_ok (fn := Tryz.f203) Tryz.func203 rfl Tryz.call203 ?_
 simp only [startSt,Tryz.ntmps203,List.length_cons,List.length_nil,reduceAdd,reduceSub,List.replicate_succ,List.replicate_zero,List.cons_append,List.nil_append]
 refine ex_region_w tt_ok 8 [0,0,0,0,2] [] (by kernel_rfl) (by kernel_rfl) fun K hK => ?_
 try simp only [ltb]
 try simp only [ltb]
 simp only [go_sem,reduceIte,reduceAdd,reduceLT,reduceLeDiff,reduceMul,reduceEqDiff,reduceSub,reduceCtorEq,List.take_length]
 refine hK _ _ (by kernel_rfl) ?_
 simp only [mkW,lkF,reduceAdd,reduceEqDiff,if_true,if_false,reduceIte]
 refine ex_region_w tt_ok 8 [0,0,0,0,2,1,1,1] [] (by kernel_rfl) (by kernel_rfl) fun K hK => ?_
 try simp only [ltb]
 refine runX_cut 3 fun K1 hK1 => ?_
 simp only [ltb]
 simp only [go_sem,reduceIte,reduceAdd,reduceLT,reduceLeDiff,reduceMul,reduceEqDiff,reduceSub,reduceCtorEq,List.take_length]
 refine callF_nat (idxByte_nat _ _) ?_
 rintro _ ⟨o, rfl, hl, hu⟩
 try simp only [go_sem,reduceIte,reduceAdd,reduceLT,reduceLeDiff,reduceMul,reduceEqDiff,reduceSub,reduceCtorEq,List.take_length]
 refine hK1 _ ?_
 try simp only [ltb]
 simp only [go_sem,reduceIte,reduceAdd,reduceLT,reduceLeDiff,reduceMul,reduceEqDiff,reduceSub,reduceCtorEq,List.take_length]
 refine hK _ _ (by kernel_rfl) ?_
 simp only [mkW,lkF,reduceAdd,reduceEqDiff,if_true,if_false,reduceIte]
 refine ex_ret ?_
 exact ⟨.inl rfl, _, ⟨o, rfl, hl, hu⟩, rfl⟩
theorem cutover_tot (n : Int) : ∃ r, isN r ∧ FnOk Tryz.prog 205 [num n] r := by
 refine fn_ex tt_ok (fn := Tryz.f205) Tryz.func205 rfl Tryz.call205 ?_
 simp only [startSt,Tryz.ntmps205,List.length_cons,List.length_nil,reduceAdd,reduceSub,List.replicate_succ,List.replicate_zero,List.cons_append,List.nil_append]
 have e8 := fun x y a => ev_quo Tryz.prog 3 x y .i64 a 8 (by omega)
 refine ex_region_w tt_ok 6 [0,0,2] [] (by kernel_rfl) (by kernel_rfl) fun K hK => ?_
 try simp only [ltb]
 try simp only [ltb]
 simp only [e8,go_sem,reduceIte,reduceAdd,reduceLT,reduceLeDiff,reduceMul,reduceEqDiff,reduceSub,reduceCtorEq,List.take_length]
 refine hK _ _ (by kernel_rfl) ?_
 simp only [mkW,lkF,reduceAdd,reduceEqDiff,if_true,if_false,reduceIte]
 refine ex_region_w tt_ok 6 [0,0,2,1,1,1] [] (by kernel_rfl) (by kernel_rfl) fun K hK => ?_
 try simp only [ltb]
 try simp only [ltb]
 simp only [e8,go_sem,reduceIte,reduceAdd,reduceLT,reduceLeDiff,reduceMul,reduceEqDiff,reduceSub,reduceCtorEq,List.take_length]
 refine hK _ _ (by kernel_rfl) ?_
 simp only [mkW,lkF,reduceAdd,reduceEqDiff,if_true,if_false,reduceIte]
 refine ex_ret ?_
 exact ⟨.inl rfl, _, ⟨_, rfl⟩, rfl⟩
theorem hashStr_tot (s : ByteArray) (hs : s.size ≤ 1048576) : ∃ r, (fun v => ∃ a b : Int, v = .tup [u32 a, u32 b]) r ∧ FnOk Tryz.prog 214 [str s] r := by
 refine fn_ex tt_ok (fn := Tryz.f214) Tryz.func214 rfl Tryz.call214 ?_
 simp only [startSt,Tryz.ntmps214,List.length_cons,List.length_nil,reduceAdd,reduceSub,List.replicate_succ,List.replicate_zero,List.cons_append,List.nil_append]
 have hT9 : Tryz.prog.underlying 9 = some .string := by kernel_rfl
 have sl : ∀ (a : ByteArray) (ty : TypeId), liftL Tryz.prog (Builtin.len_ #[9] ty) [.sc (.string a)] = some (num a.size) := fun a ty => ev_slen (P := Tryz.prog) (tt := tt) (T := 9) a hT9 ty
 have hT5 : Tryz.prog.underlying 5 = some (.int .u8) := by kernel_rfl
 have hT160 : Tryz.prog.underlying 160 = some (.int .u32) := by kernel_rfl
 have cv := fun (k : IntKind) (n : Int) => ev_conv (P := Tryz.prog) (src := 5) (dst := 160) hT5 hT160 k n
 have ea := fun x y a => ev_and Tryz.prog 3 x y .i64 a 1
 have es := fun x y a => ev_shr Tryz.prog 3 x y .i64 .i64 a 1 (by omega)
 refine ex_region_w tt_ok 39 [0,0,2,2] [] (by kernel_rfl) (by kernel_rfl) fun K hK => ?_
 try simp only [ltb]
 try simp only [ltb]
 simp only [sl,cv,ea,es,go_sem,reduceIte,reduceAdd,reduceLT,reduceLeDiff,reduceMul,reduceEqDiff,reduceSub,reduceCtorEq,List.take_length]
 refine hK _ _ (by kernel_rfl) ?_
 simp only [mkW,lkF,reduceAdd,reduceEqDiff,if_true,if_false,reduceIte]
 refine ex_region_w tt_ok 39 [0,0,0,0,2] [] (by kernel_rfl) (by kernel_rfl) fun K hK => ?_
 try simp only [ltb]
 try simp only [ltb]
 simp only [sl,cv,ea,es,go_sem,reduceIte,reduceAdd,reduceLT,reduceLeDiff,reduceMul,reduceEqDiff,reduceSub,reduceCtorEq,List.take_length]
 refine hK _ _ (by kernel_rfl) ?_
 simp only [mkW,lkF,reduceAdd,reduceEqDiff,if_true,if_false,reduceIte]
 refine ex_seq ?_
 refine ex_region_w tt_ok 39 [0,0,0,0,0,2] [] (by kernel_rfl) (by kernel_rfl) fun K hK => ?_
 try simp only [ltb]
 try simp only [ltb]
 simp only [sl,cv,ea,es,go_sem,reduceIte,reduceAdd,reduceLT,reduceLeDiff,reduceMul,reduceEqDiff,reduceSub,reduceCtorEq,List.take_length]
 refine hK _ _ (by kernel_rfl) ?_
 simp only [mkW,lkF,reduceAdd,reduceEqDiff,if_true,if_false,reduceIte]
 refine ex_block ?_
 refine ex_loopK [5,4] [num 0, u32 0] 0 [true,false,true,true,true,true] (fun vs => ((s.size : Int) - intOf (vs.headD .undef)).toNat) (fun vs => ∃ (i : Nat) (h : Int), vs = [num i, u32 h] ∧ i ≤ s.size) (by omega) (by simp only [absV,maskFr,belowV,belowL,belowB,reduceLT,mkb]) (by simp only [absV,maskFr,belowV,belowL,belowB,reduceLT,mkb]) (by rfl) (⟨0, 0, rfl, by omega⟩) fun vs hI => ?_
 obtain ⟨i, h, rfl, hi⟩ := hI
 simp only [absV,maskFr,belowV,belowL,belowB,reduceLT,mkb,putAll,List.set_cons_zero,List.set_cons_succ]
 refine ex_seq ?_
 refine ex_region_w tt_ok 39 [0,0,0,0,0,0,0,0,0,1,1,1,2] [] (by kernel_rfl) (by kernel_rfl) fun K hK => ?_
 try simp only [ltb]
 try simp only [ltb]
 simp only [sl,cv,ea,es,go_sem,reduceIte,reduceAdd,reduceLT,reduceLeDiff,reduceMul,reduceEqDiff,reduceSub,reduceCtorEq,List.take_length]
 refine hK _ _ (by kernel_rfl) ?_
 simp only [mkW,lkF,reduceAdd,reduceEqDiff,if_true,if_false,reduceIte]
 refine ex_if rfl (fun hc12 => ?_) (fun hc12 => ?_)
 ·skip
  have hlti : i < s.size := by simpa using hc12
  have hw := i64_succ i (by omega)
  refine ex_skip ?_
  show Go.Eng.Ex _ _ _ _ _ _
  refine ex_seq ?_
  refine ex_block ?_
  refine ex_last_region_w tt_ok 39 [0,0,0,0,2,0,0,0,0,0,0,0,0,0,0,2,2,2,2,2,2,2] [] (by kernel_rfl) (by kernel_rfl) (by kernel_rfl) fun K hK => ?_
  try simp only [ltb]
  refine runX_cut 4 fun K1 hK1 => ?_
  simp only [ltb]
  simp only [hw,sl,cv,ea,es,go_sem,reduceIte,reduceAdd,reduceLT,reduceLeDiff,reduceMul,reduceEqDiff,reduceSub,reduceCtorEq,List.take_length]
  refine hK1 _ ?_
  obtain ⟨c, hcb⟩ := get_byte (s := s) (i := i) hlti
  have hix := ev_index (P := Tryz.prog) s hT9 .i64 (i : Int) (by omega) (c := c) (show s[((i : Nat) : Int).toNat]? = some c from hcb)
  try simp only [ltb]
  simp only [hw,hix,sl,cv,ea,es,go_sem,reduceIte,reduceAdd,reduceLT,reduceLeDiff,reduceMul,reduceEqDiff,reduceSub,reduceCtorEq,List.take_length]
  refine hK _ _ (by kernel_rfl) ?_
  simp only [mkW,lkF,reduceAdd,reduceEqDiff,if_true,if_false,reduceIte]
  show Go.Eng.Ex _ _ _ _ _ _
  refine ex_last_region_w tt_ok 39 [0,0,0,0,0,2,0,0,0,0,0,0,0,2,2] [] (by kernel_rfl) (by kernel_rfl) (by kernel_rfl) fun K hK => ?_
  try simp only [ltb]
  try simp only [ltb]
  simp only [hw,hix,sl,cv,ea,es,go_sem,reduceIte,reduceAdd,reduceLT,reduceLeDiff,reduceMul,reduceEqDiff,reduceSub,reduceCtorEq,List.take_length]
  refine hK _ _ (by kernel_rfl) ?_
  simp only [mkW,lkF,reduceAdd,reduceEqDiff,if_true,if_false,reduceIte]
  refine ⟨[_, _], ?_, ?_, 0, [true,false,true,true,true,true], by omega, by simp only [absV,maskFr,belowV,belowL,belowB,reduceLT,mkb], by simp only [absV,maskFr,belowV,belowL,belowB,reduceLT,mkb], by simp only [absV,maskFr,belowV,belowL,belowB,reduceLT,mkb,putAll,List.set_cons_zero,List.set_cons_succ]; rfl⟩
  ·exact ⟨i + 1, _, rfl, by omega⟩
  ·simp only [intOf,List.headD_cons,absV]; omega
 ·skip
  refine ex_exit ?_
  show Go.Eng.Ex _ _ _ _ _ _
  refine ex_region_w tt_ok 39 [0,0,0,0,0,0,2,2] [] (by kernel_rfl) (by kernel_rfl) fun K hK => ?_
  try simp only [ltb]
  try simp only [ltb]
  simp only [sl,cv,ea,es,go_sem,reduceIte,reduceAdd,reduceLT,reduceLeDiff,reduceMul,reduceEqDiff,reduceSub,reduceCtorEq,List.take_length]
  refine hK _ _ (by kernel_rfl) ?_
  simp only [mkW,lkF,reduceAdd,reduceEqDiff,if_true,if_false,reduceIte]
  refine ex_seq ?_
  refine ex_region_w tt_ok 39 [0,0,0,0,0,0,0,0,2,0,0,0,0,0,0,0,0,0,0,0,0,0,1,1] [] (by kernel_rfl) (by kernel_rfl) fun K hK => ?_
  try simp only [ltb]
  try simp only [ltb]
  simp only [sl,cv,ea,es,go_sem,reduceIte,reduceAdd,reduceLT,reduceLeDiff,reduceMul,reduceEqDiff,reduceSub,reduceCtorEq,List.take_length]
  refine hK _ _ (by kernel_rfl) ?_
  simp only [mkW,lkF,reduceAdd,reduceEqDiff,if_true,if_false,reduceIte]
  refine ex_block ?_
  refine ex_loopK [8,6,7] [num s.size, u32 1, u32 16777619] 0 [false,false,true,true,true,false,true,true,true,false,false,false,true] (fun vs => (intOf (vs.headD .undef)).toNat) (fun vs => ∃ (i : Int) (h g : Int), vs = [num i, u32 h, u32 g] ∧ 0 ≤ i) (by omega) (by simp only [absV,maskFr,belowV,belowL,belowB,reduceLT,mkb]) (by simp only [absV,maskFr,belowV,belowL,belowB,reduceLT,mkb]) (by rfl) (⟨_, _, _, rfl, by omega⟩) fun vs hI => ?_
  obtain ⟨i, h, g, rfl, hi⟩ := hI
  simp only [absV,maskFr,belowV,belowL,belowB,reduceLT,mkb,putAll,List.set_cons_zero,List.set_cons_succ]
  refine ex_seq ?_
  refine ex_region_w tt_ok 39 [0,0,0,0,0,0,0,0,0,0,0,0,0,0,0,0,0,0,0,0,0,0,0,0,1,2] [] (by kernel_rfl) (by kernel_rfl) fun K hK => ?_
  try simp only [ltb]
  try simp only [ltb]
  simp only [sl,cv,ea,es,go_sem,reduceIte,reduceAdd,reduceLT,reduceLeDiff,reduceMul,reduceEqDiff,reduceSub,reduceCtorEq,List.take_length]
  refine hK _ _ (by kernel_rfl) ?_
  simp only [mkW,lkF,reduceAdd,reduceEqDiff,if_true,if_false,reduceIte]
  refine ex_if rfl (fun hc25 => ?_) (fun hc25 => ?_)
  ·skip
   refine ex_skip ?_
   show Go.Eng.Ex _ _ _ _ _ _
   refine ex_seq ?_
   refine ex_block ?_
   refine ex_seq ?_
   refine ex_region_w tt_ok 39 [0,0,0,0,0,0,0,0,0,0,0,0,0,0,0,0,0,0,0,0,0,0,0,0,0,0,0,0,1,1,2] [] (by kernel_rfl) (by kernel_rfl) fun K hK => ?_
   try simp only [ltb]
   try simp only [ltb]
   simp only [sl,cv,ea,es,go_sem,reduceIte,reduceAdd,reduceLT,reduceLeDiff,reduceMul,reduceEqDiff,reduceSub,reduceCtorEq,List.take_length]
   refine hK _ _ (by kernel_rfl) ?_
   simp only [mkW,lkF,reduceAdd,reduceEqDiff,if_true,if_false,reduceIte]
   refine ex_if rfl (fun hc30 => ?_) (fun hc30 => ?_)
   ·skip
    refine ex_last_region_w tt_ok 39 [0,0,0,0,0,0,2,0,0,0,0,0,0,0,0,0,0,0,0,0,0,0,0,0,0,0,0,0,0,0,0,2,2,2] [] (by kernel_rfl) (by kernel_rfl) (by kernel_rfl) fun K hK => ?_
    try simp only [ltb]
    try simp only [ltb]
    simp only [sl,cv,ea,es,go_sem,reduceIte,reduceAdd,reduceLT,reduceLeDiff,reduceMul,reduceEqDiff,reduceSub,reduceCtorEq,List.take_length]
    refine hK _ _ (by kernel_rfl) ?_
    simp only [mkW,lkF,reduceAdd,reduceEqDiff,if_true,if_false,reduceIte]
    show Go.Eng.Ex _ _ _ _ _ _
    refine ex_last_region_w tt_ok 39 [0,0,0,0,0,0,0,2,0,0,0,0,0,0,0,0,0,0,0,0,0,0,0,0,0,0,0,0,0,0,0,0,0,0,2,2,2] [] (by kernel_rfl) (by kernel_rfl) (by kernel_rfl) fun K hK => ?_
    try simp only [ltb]
    try simp only [ltb]
    simp only [sl,cv,ea,es,go_sem,reduceIte,reduceAdd,reduceLT,reduceLeDiff,reduceMul,reduceEqDiff,reduceSub,reduceCtorEq,List.take_length]
    refine hK _ _ (by kernel_rfl) ?_
    simp only [mkW,lkF,reduceAdd,reduceEqDiff,if_true,if_false,reduceIte]
    show Go.Eng.Ex _ _ _ _ _ _
    refine ex_last_region_w tt_ok 39 [0,0,0,0,0,0,0,0,2,0,0,0,0,0,0,0,0,0,0,0,0,0,0,0,0,0,2,2] [] (by kernel_rfl) (by kernel_rfl) (by kernel_rfl) fun K hK => ?_
    try simp only [ltb]
    try simp only [ltb]
    simp only [sl,cv,ea,es,go_sem,reduceIte,reduceAdd,reduceLT,reduceLeDiff,reduceMul,reduceEqDiff,reduceSub,reduceCtorEq,List.take_length]
    refine hK _ _ (by kernel_rfl) ?_
    simp only [mkW,lkF,reduceAdd,reduceEqDiff,if_true,if_false,reduceIte]
    refine ⟨[_, _, _], ?_, ?_, 0, [false,false,true,true,true,false,true,true,true,false,false,false,true], by omega, by simp only [absV,maskFr,belowV,belowL,belowB,reduceLT,mkb], by simp only [absV,maskFr,belowV,belowL,belowB,reduceLT,mkb], by simp only [absV,maskFr,belowV,belowL,belowB,reduceLT,mkb,putAll,List.set_cons_zero,List.set_cons_succ]; rfl⟩
    ·exact ⟨_, _, _, rfl, Int.fdiv_nonneg hi (by decide)⟩
    ·simp only [intOf,List.headD_cons,absV]; exact hdiv i (by simpa using hc25)
   ·skip
    refine ex_skip ?_
    show Go.Eng.Ex _ _ _ _ _ _
    refine ex_last_region_w tt_ok 39 [0,0,0,0,0,0,0,2,0,0,0,0,0,0,0,0,0,0,0,0,0,0,0,0,0,0,0,0,0,0,0,0,0,0,2,2,2] [] (by kernel_rfl) (by kernel_rfl) (by kernel_rfl) fun K hK => ?_
    try simp only [ltb]
    try simp only [ltb]
    simp only [sl,cv,ea,es,go_sem,reduceIte,reduceAdd,reduceLT,reduceLeDiff,reduceMul,reduceEqDiff,reduceSub,reduceCtorEq,List.take_length]
    refine hK _ _ (by kernel_rfl) ?_
    simp only [mkW,lkF,reduceAdd,reduceEqDiff,if_true,if_false,reduceIte]
    show Go.Eng.Ex _ _ _ _ _ _
    refine ex_last_region_w tt_ok 39 [0,0,0,0,0,0,0,0,2,0,0,0,0,0,0,0,0,0,0,0,0,0,0,0,0,0,2,2] [] (by kernel_rfl) (by kernel_rfl) (by kernel_rfl) fun K hK => ?_
    try simp only [ltb]
    try simp only [ltb]
    simp only [sl,cv,ea,es,go_sem,reduceIte,reduceAdd,reduceLT,reduceLeDiff,reduceMul,reduceEqDiff,reduceSub,reduceCtorEq,List.take_length]
    refine hK _ _ (by kernel_rfl) ?_
    simp only [mkW,lkF,reduceAdd,reduceEqDiff,if_true,if_false,reduceIte]
    refine ⟨[_, _, _], ?_, ?_, 0, [false,false,true,true,true,false,true,true,true,false,false,false,true], by omega, by simp only [absV,maskFr,belowV,belowL,belowB,reduceLT,mkb], by simp only [absV,maskFr,belowV,belowL,belowB,reduceLT,mkb], by simp only [absV,maskFr,belowV,belowL,belowB,reduceLT,mkb,putAll,List.set_cons_zero,List.set_cons_succ]; rfl⟩
    ·exact ⟨_, _, _, rfl, Int.fdiv_nonneg hi (by decide)⟩
    ·simp only [intOf,List.headD_cons,absV]; exact hdiv i (by simpa using hc25)
  ·skip
   refine ex_exit ?_
   show Go.Eng.Ex _ _ _ _ _ _
   refine ex_region_w tt_ok 39 [0,0,2,2,0,0,0,0,0,0,0,0,0,0,0,0,0,0,0,0,0,0,0,0,0,0,0,0,0,0,0,0,0,0,0,0,0,1,1] [] (by kernel_rfl) (by kernel_rfl) fun K hK => ?_
   try simp only [ltb]
   try simp only [ltb]
   simp only [sl,cv,ea,es,go_sem,reduceIte,reduceAdd,reduceLT,reduceLeDiff,reduceMul,reduceEqDiff,reduceSub,reduceCtorEq,List.take_length]
   refine hK _ _ (by kernel_rfl) ?_
   simp only [mkW,lkF,reduceAdd,reduceEqDiff,if_true,if_false,reduceIte]
   refine ex_ret ?_
   exact ⟨.inl rfl, _, ⟨_, _, rfl⟩, rfl⟩
end Go.Proofs.YtpjdfcigadnhcaaGreatDoor
end

section
namespace Go.Proofs.YtpjdfcigadnhcaaGreatDoor
open Go.Eng
open Nat (reduceAdd reduceLT reduceLeDiff reduceMul reduceEqDiff reduceSub)
variable [Glob]
set_option maxHeartbeats 4000000
set_option maxRecDepth 100000
attribute [local irreducible] runM stepM valD stepOp stepD callF
theorem size_ext {s : ByteArray} {a b : Nat} : (s.extract a b).size = min b s.size - a := by simp [ByteArray.size_extract]
theorem rk_tot (s t : ByteArray) (hs : s.size ≤ 1048576) (ht : t.size ≤ 1048576) (hts : t.size ≤ s.size) : ∃ r, isN r ∧ FnOk Tryz.prog 206 [str s, str t] r := by
 obtain ⟨_, ⟨a, b, rfl⟩, h⟩ := hashStr_tot t ht
 exact ⟨_, ⟨_, rfl⟩, rk_ok s t a b h hts (by omega)⟩
theorem index_tot (hG : Glob.g = some 0) (s t : ByteArray) (hs : s.size ≤ 1048576) (ht : t.size ≤ 1048576) : ∃ r, isN r ∧ FnOk Tryz.prog 199 [str s, str t] r := by
 refine fn_ex tt_ok (fn := Tryz.f199) Tryz.func199 rfl Tryz.call199 ?_
 simp only [startSt,Tryz.ntmps199,List.length_cons,List.length_nil,reduceAdd,reduceSub,List.replicate_succ,List.replicate_zero,List.cons_append,List.nil_append]
 have hT9 : Tryz.prog.underlying 9 = some .string := by kernel_rfl
 have sl : ∀ (a : ByteArray) (ty : TypeId), liftL Tryz.prog (Builtin.len_ #[9] ty) [.sc (.string a)] = some (num a.size) := fun a ty => ev_slen (P := Tryz.prog) (tt := tt) (T := 9) a hT9 ty
 have e4 := fun x y a => ev_shr Tryz.prog 3 x y .i64 .i64 a 4 (by omega)
 obtain ⟨T, hT⟩ : ∃ T : Int, T = (s.size : Int) - (t.size : Int) + 1 := ⟨_, rfl⟩
 have hw1 : IntKind.i64.wrap ((s.size : Int) - (t.size : Int)) = (s.size : Int) - (t.size : Int) := IntWalk.i64_in _ (by omega)
 have hw2 : IntKind.i64.wrap ((s.size : Int) - (t.size : Int) + 1) = T := by rw [IntWalk.i64_in _ (by omega)]; exact hT.symm
 refine ex_region_w tt_ok 143 [0,0,0,0,2] [] (by kernel_rfl) (by kernel_rfl) fun K hK => ?_
 try simp only [ltb]
 try simp only [ltb]
 simp only [sl,e4,hG,hw1,hw2,toVal,go_sem,reduceIte,reduceAdd,reduceLT,reduceLeDiff,reduceMul,reduceEqDiff,reduceSub,reduceCtorEq,List.take_length]
 refine hK _ _ (by kernel_rfl) ?_
 simp only [mkW,lkF,reduceAdd,reduceEqDiff,if_true,if_false,reduceIte]
 refine ex_region_w tt_ok 143 [0,0,0,0,0,2,0,0,0,0,0,0,0,0,1,1] [] (by kernel_rfl) (by kernel_rfl) fun K hK => ?_
 try simp only [ltb]
 try simp only [ltb]
 simp only [sl,e4,hG,hw1,hw2,toVal,go_sem,reduceIte,reduceAdd,reduceLT,reduceLeDiff,reduceMul,reduceEqDiff,reduceSub,reduceCtorEq,List.take_length]
 refine hK _ _ (by kernel_rfl) ?_
 simp only [mkW,lkF,reduceAdd,reduceEqDiff,if_true,if_false,reduceIte]
 refine ex_seq_joinK [] 0 [true,true,false,false,false,true,false,false,false,false,false,false,false,false,true,true] (fun vs => vs = [] ∧ 2 ≤ t.size ∧ t.size < s.size) ?_ ?_
 ·skip
  refine ex_block ?_
  refine ex_region_w tt_ok 143 [0,0,0,0,0,0,0,0,0,0,0,0,0,0,0,0,2,1,1,1,1,1,1,1] [(2, 19)] (by kernel_rfl) (by kernel_rfl) fun K hK => ?_
  try simp only [ltb]
  refine runX_cut 3 fun K1 hK1 => ?_
  simp only [ltb]
  simp only [sl,e4,hG,hw1,hw2,toVal,go_sem,reduceIte,reduceAdd,reduceLT,reduceLeDiff,reduceMul,reduceEqDiff,reduceSub,reduceCtorEq,List.take_length]
  refine hK1 _ ?_
  refine runX_case 19 (by rfl) fun b hb2_2 => ?_
  cases b
  ·skip
   have hz : t.size ≠ 0 := by have := of_decide_eq_false hb2_2; omega
   try simp only [ltb]
   simp only [sl,e4,hG,hw1,hw2,toVal,go_sem,reduceIte,reduceAdd,reduceLT,reduceLeDiff,reduceMul,reduceEqDiff,reduceSub,reduceCtorEq,List.take_length]
   refine hK _ _ (by kernel_rfl) ?_
   simp only [mkW,lkF,reduceAdd,reduceEqDiff,if_true,if_false,reduceIte]
   refine ex_if rfl (fun hc16 => ?_) (fun hc16 => ?_)
   ·skip
    refine ex_region_w tt_ok 143 [0,0,0,0,2] [] (by kernel_rfl) (by kernel_rfl) fun K hK => ?_
    try simp only [ltb]
    try simp only [ltb]
    simp only [sl,e4,hG,hw1,hw2,toVal,go_sem,reduceIte,reduceAdd,reduceLT,reduceLeDiff,reduceMul,reduceEqDiff,reduceSub,reduceCtorEq,List.take_length]
    refine hK _ _ (by kernel_rfl) ?_
    simp only [mkW,lkF,reduceAdd,reduceEqDiff,if_true,if_false,reduceIte]
    refine ex_ret ?_
    exact ⟨.inl rfl, _, ⟨_, rfl⟩, rfl⟩
   ·skip
    refine ex_region_w tt_ok 143 [0,0,0,0,0,0,0,0,0,0,0,0,0,0,0,0,0,0,0,0,0,0,0,0,2,1,1] [] (by kernel_rfl) (by kernel_rfl) fun K hK => ?_
    try simp only [ltb]
    try simp only [ltb]
    simp only [sl,e4,hG,hw1,hw2,toVal,go_sem,reduceIte,reduceAdd,reduceLT,reduceLeDiff,reduceMul,reduceEqDiff,reduceSub,reduceCtorEq,List.take_length]
    refine hK _ _ (by kernel_rfl) ?_
    simp only [mkW,lkF,reduceAdd,reduceEqDiff,if_true,if_false,reduceIte]
    refine ex_if rfl (fun hc24 => ?_) (fun hc24 => ?_)
    ·skip
     have ht1 : t.size = 1 := by have := of_decide_eq_true hc24; omega
     obtain ⟨ct0, hcbt0⟩ := get_byte (s := t) (i := (0 : Int).toNat) (by omega)
     have hixt0 := ev_index (P := Tryz.prog) t hT9 .i64 (0) (by omega) (c := ct0) hcbt0
     refine ex_region_w tt_ok 143 [0,0,0,0,2,0,0,0,0,0,0,0,0,0,0,0,0,0,0,0,0,0,0,0,0,0,0,1,1,1,1] [] (by kernel_rfl) (by kernel_rfl) fun K hK => ?_
     try simp only [ltb]
     refine runX_cut 4 fun K1 hK1 => ?_
     simp only [ltb]
     simp only [hixt0,sl,e4,hG,hw1,hw2,toVal,go_sem,reduceIte,reduceAdd,reduceLT,reduceLeDiff,reduceMul,reduceEqDiff,reduceSub,reduceCtorEq,List.take_length]
     refine callF_ex (indexByte_tot _ _) ?_
     rintro _ ⟨o, rfl, hol, hou⟩
     try simp only [hixt0,sl,e4,hG,hw1,hw2,toVal,go_sem,reduceIte,reduceAdd,reduceLT,reduceLeDiff,reduceMul,reduceEqDiff,reduceSub,reduceCtorEq,List.take_length]
     refine hK1 _ ?_
     try simp only [ltb]
     simp only [hixt0,sl,e4,hG,hw1,hw2,toVal,go_sem,reduceIte,reduceAdd,reduceLT,reduceLeDiff,reduceMul,reduceEqDiff,reduceSub,reduceCtorEq,List.take_length]
     refine hK _ _ (by kernel_rfl) ?_
     simp only [mkW,lkF,reduceAdd,reduceEqDiff,if_true,if_false,reduceIte]
     refine ex_ret ?_
     exact ⟨.inl rfl, _, ⟨_, rfl⟩, rfl⟩
    ·skip
     have ht1 : t.size ≠ 1 := by have := of_decide_eq_false hc24; omega
     have ht0 : t.size ≠ 0 := fun e => by subst_vars; simp [e] at *
     refine ex_region_w tt_ok 143 [0,0,0,0,0,0,0,0,0,0,0,0,0,0,0,0,0,0,0,0,0,0,0,0,0,0,0,0,0,0,0,2,1,1,1,1] [] (by kernel_rfl) (by kernel_rfl) fun K hK => ?_
     try simp only [ltb]
     try simp only [ltb]
     simp only [sl,e4,hG,hw1,hw2,toVal,go_sem,reduceIte,reduceAdd,reduceLT,reduceLeDiff,reduceMul,reduceEqDiff,reduceSub,reduceCtorEq,List.take_length]
     refine hK _ _ (by kernel_rfl) ?_
     simp only [mkW,lkF,reduceAdd,reduceEqDiff,if_true,if_false,reduceIte]
     refine ex_if rfl (fun hc31 => ?_) (fun hc31 => ?_)
     ·skip
      refine ex_region_w tt_ok 143 [0,0,0,0,2] [] (by kernel_rfl) (by kernel_rfl) fun K hK => ?_
      try simp only [ltb]
      try simp only [ltb]
      simp only [sl,e4,hG,hw1,hw2,toVal,go_sem,reduceIte,reduceAdd,reduceLT,reduceLeDiff,reduceMul,reduceEqDiff,reduceSub,reduceCtorEq,List.take_length]
      refine hK _ _ (by kernel_rfl) ?_
      simp only [mkW,lkF,reduceAdd,reduceEqDiff,if_true,if_false,reduceIte]
      refine ex_ret ?_
      exact ⟨.inl rfl, _, ⟨_, rfl⟩, rfl⟩
     ·skip
      have htls : t.size < s.size := by have := of_decide_eq_false hc31; omega
      have ht2 : 2 ≤ t.size := by omega
      refine ex_region_w tt_ok 143 [0,0,0,0,0,0,0,0,0,0,0,0,0,0,0,0,0,0,0,0,0,0,0,0,0,0,0,0,0,0,0,0,0,0,0,0,2,1,1,1,1,1,1,1,1] [(3, 40)] (by kernel_rfl) (by kernel_rfl) fun K hK => ?_
      try simp only [ltb]
      refine runX_cut 4 fun K1 hK1 => ?_
      simp only [ltb]
      simp only [sl,e4,hG,hw1,hw2,toVal,go_sem,reduceIte,reduceAdd,reduceLT,reduceLeDiff,reduceMul,reduceEqDiff,reduceSub,reduceCtorEq,List.take_length]
      refine hK1 _ ?_
      refine runX_case 40 (by rfl) fun b hb8_3 => ?_
      cases b
      ·skip
       try simp only [ltb]
       simp only [sl,e4,hG,hw1,hw2,toVal,go_sem,reduceIte,reduceAdd,reduceLT,reduceLeDiff,reduceMul,reduceEqDiff,reduceSub,reduceCtorEq,List.take_length]
       refine hK _ _ (by kernel_rfl) ?_
       simp only [mkW,lkF,reduceAdd,reduceEqDiff,if_true,if_false,reduceIte]
       refine ex_cond rfl ?_
       refine ex_skip ?_
       refine ⟨[], ?_, 0, [true,true,false,false,false,true,false,false,false,false,false,false,false,false,true,true], by omega, by simp only [maskFr,belowV,belowL,belowB,reduceLT,mkb], by simp only [maskFr,belowV,belowL,belowB,reduceLT,mkb], by simp only [maskFr,belowV,belowL,belowB,reduceLT,mkb,putAll,List.set_cons_zero,List.set_cons_succ]⟩
       exact ⟨rfl, ht2, htls⟩
      ·skip
       try simp only [ltb]
       simp only [sl,e4,hG,hw1,hw2,toVal,go_sem,reduceIte,reduceAdd,reduceLT,reduceLeDiff,reduceMul,reduceEqDiff,reduceSub,reduceCtorEq,List.take_length]
       refine hK _ _ (by kernel_rfl) ?_
       simp only [mkW,lkF,reduceAdd,reduceEqDiff,if_true,if_false,reduceIte]
       refine ex_if rfl (fun hc36 => ?_) (fun hc36 => ?_)
       ·skip
        refine ex_region_w tt_ok 143 [0,0,0,0,2,0,0,0,0,0,0,0,0,0,0,0,0,0,0,0,0,0,0,0,0,0,0,0,0,0,0,0,0,0,0,0,0,0,0,0,0,0,0,0,0,1,1,1] [] (by kernel_rfl) (by kernel_rfl) fun K hK => ?_
        try simp only [ltb]
        refine runX_cut 3 fun K1 hK1 => ?_
        simp only [ltb]
        simp only [sl,e4,hG,hw1,hw2,toVal,go_sem,reduceIte,reduceAdd,reduceLT,reduceLeDiff,reduceMul,reduceEqDiff,reduceSub,reduceCtorEq,List.take_length]
        refine callF_nat (idxStr_nat hG _ _ ht2 hb8_3 (by omega)) ?_
        rintro _ ⟨r2, rfl⟩
        try simp only [sl,e4,hG,hw1,hw2,toVal,go_sem,reduceIte,reduceAdd,reduceLT,reduceLeDiff,reduceMul,reduceEqDiff,reduceSub,reduceCtorEq,List.take_length]
        refine hK1 _ ?_
        try simp only [ltb]
        simp only [sl,e4,hG,hw1,hw2,toVal,go_sem,reduceIte,reduceAdd,reduceLT,reduceLeDiff,reduceMul,reduceEqDiff,reduceSub,reduceCtorEq,List.take_length]
        refine hK _ _ (by kernel_rfl) ?_
        simp only [mkW,lkF,reduceAdd,reduceEqDiff,if_true,if_false,reduceIte]
        refine ex_ret ?_
        exact ⟨.inl rfl, _, ⟨_, rfl⟩, rfl⟩
       ·skip
        refine ex_skip ?_
        refine ⟨[], ?_, 0, [true,true,false,false,false,true,false,false,false,false,false,false,false,false,true,true], by omega, by simp only [maskFr,belowV,belowL,belowB,reduceLT,mkb], by simp only [maskFr,belowV,belowL,belowB,reduceLT,mkb], by simp only [maskFr,belowV,belowL,belowB,reduceLT,mkb,putAll,List.set_cons_zero,List.set_cons_succ]⟩
        exact ⟨rfl, ht2, htls⟩
  ·skip
   try simp only [ltb]
   simp only [sl,e4,hG,hw1,hw2,toVal,go_sem,reduceIte,reduceAdd,reduceLT,reduceLeDiff,reduceMul,reduceEqDiff,reduceSub,reduceCtorEq,List.take_length]
   refine hK _ _ (by kernel_rfl) ?_
   simp only [mkW,lkF,reduceAdd,reduceEqDiff,if_true,if_false,reduceIte]
   refine ex_cond rfl ?_
   refine ex_region_w tt_ok 143 [0,0,0,0,2] [] (by kernel_rfl) (by kernel_rfl) fun K hK => ?_
   try simp only [ltb]
   try simp only [ltb]
   simp only [sl,e4,hG,hw1,hw2,toVal,go_sem,reduceIte,reduceAdd,reduceLT,reduceLeDiff,reduceMul,reduceEqDiff,reduceSub,reduceCtorEq,List.take_length]
   refine hK _ _ (by kernel_rfl) ?_
   simp only [mkW,lkF,reduceAdd,reduceEqDiff,if_true,if_false,reduceIte]
   refine ex_ret ?_
   exact ⟨.inl rfl, _, ⟨_, rfl⟩, rfl⟩
 ·intro vs hJ
  obtain ⟨rfl, ht2, htls⟩ := hJ
  simp only [maskFr,belowV,belowL,belowB,reduceLT,mkb,putAll,List.set_cons_zero,List.set_cons_succ]
  obtain ⟨ct0, hcbt0⟩ := get_byte (s := t) (i := (0 : Int).toNat) (by omega)
  have hixt0 := ev_index (P := Tryz.prog) t hT9 .i64 (0) (by omega) (c := ct0) hcbt0
  refine ex_region_w tt_ok 143 [0,0,0,0,0,0,2,0,0,0,0,0,0,0,0,0,0,0,0,0,0,0,0,0,0,0,0,0,0,0,0,0,0,0,0,0,0,0,0,0,0,0,0,0,0,0,0,0,1,1] [] (by kernel_rfl) (by kernel_rfl) fun K hK => ?_
  try simp only [ltb]
  try simp only [ltb]
  simp only [hixt0,sl,e4,hG,hw1,hw2,toVal,go_sem,reduceIte,reduceAdd,reduceLT,reduceLeDiff,reduceMul,reduceEqDiff,reduceSub,reduceCtorEq,List.take_length]
  refine hK _ _ (by kernel_rfl) ?_
  simp only [mkW,lkF,reduceAdd,reduceEqDiff,if_true,if_false,reduceIte]
  obtain ⟨ct1, hcbt1⟩ := get_byte (s := t) (i := (1 : Int).toNat) (by omega)
  have hixt1 := ev_index (P := Tryz.prog) t hT9 .i64 (1) (by omega) (c := ct1) hcbt1
  refine ex_region_w tt_ok 143 [0,0,0,0,0,0,0,2,0,0,0,0,0,0,0,0,0,0,0,0,0,0,0,0,0,0,0,0,0,0,0,0,0,0,0,0,0,0,0,0,0,0,0,0,0,0,0,0,0,0,1,1] [] (by kernel_rfl) (by kernel_rfl) fun K hK => ?_
  try simp only [ltb]
  try simp only [ltb]
  simp only [hixt0,hixt1,sl,e4,hG,hw1,hw2,toVal,go_sem,reduceIte,reduceAdd,reduceLT,reduceLeDiff,reduceMul,reduceEqDiff,reduceSub,reduceCtorEq,List.take_length]
  refine hK _ _ (by kernel_rfl) ?_
  simp only [mkW,lkF,reduceAdd,reduceEqDiff,if_true,if_false,reduceIte]
  refine ex_region_w tt_ok 143 [0,0,0,0,0,0,0,0,2] [] (by kernel_rfl) (by kernel_rfl) fun K hK => ?_
  try simp only [ltb]
  try simp only [ltb]
  simp only [hixt0,hixt1,sl,e4,hG,hw1,hw2,toVal,go_sem,reduceIte,reduceAdd,reduceLT,reduceLeDiff,reduceMul,reduceEqDiff,reduceSub,reduceCtorEq,List.take_length]
  refine hK _ _ (by kernel_rfl) ?_
  simp only [mkW,lkF,reduceAdd,reduceEqDiff,if_true,if_false,reduceIte]
  refine ex_region_w tt_ok 143 [0,0,0,0,0,0,0,0,0,2,0,0,0,0,0,0,0,0,0,0,0,0,0,0,0,0,0,0,0,0,0,0,0,0,0,0,0,0,0,0,0,0,0,0,0,0,0,0,0,0,0,0,1,1,1,1,1] [] (by kernel_rfl) (by kernel_rfl) fun K hK => ?_
  try simp only [ltb]
  try simp only [ltb]
  simp only [hixt0,hixt1,sl,e4,hG,hw1,hw2,toVal,go_sem,reduceIte,reduceAdd,reduceLT,reduceLeDiff,reduceMul,reduceEqDiff,reduceSub,reduceCtorEq,List.take_length]
  refine hK _ _ (by kernel_rfl) ?_
  simp only [mkW,lkF,reduceAdd,reduceEqDiff,if_true,if_false,reduceIte]
  refine ex_region_w tt_ok 143 [0,0,0,0,0,0,0,0,0,0,2] [] (by kernel_rfl) (by kernel_rfl) fun K hK => ?_
  try simp only [ltb]
  try simp only [ltb]
  simp only [hixt0,hixt1,sl,e4,hG,hw1,hw2,toVal,go_sem,reduceIte,reduceAdd,reduceLT,reduceLeDiff,reduceMul,reduceEqDiff,reduceSub,reduceCtorEq,List.take_length]
  refine hK _ _ (by kernel_rfl) ?_
  simp only [mkW,lkF,reduceAdd,reduceEqDiff,if_true,if_false,reduceIte]
  refine ex_seq ?_
  refine ex_block ?_
  refine ex_loopK [8,10] [num 0, num 0] 0 [true,true,false,false,true,true,true,true,true,true,true,false,false,false,false,false,true,false,false,false,false,false,false,false,true,false,false,false,false,false,false,true,false,false,false,false,true] (fun vs => (T - intOf (vs.headD .undef)).toNat) (fun vs => ∃ i f : Int, vs = [num i, num f] ∧ 0 ≤ i ∧ i ≤ T ∧ 0 ≤ f ∧ f ≤ i) (by omega) (by simp only [maskFr,belowV,belowL,belowB,reduceLT,mkb]) (by simp only [maskFr,belowV,belowL,belowB,reduceLT,mkb]) (by rfl) (⟨0, 0, rfl, by omega, by omega, by omega, by omega⟩) fun vs hI => ?_
  obtain ⟨i, f, rfl, hi0, hiT, hf0, hfi⟩ := hI
  simp only [maskFr,belowV,belowL,belowB,reduceLT,mkb,putAll,List.set_cons_zero,List.set_cons_succ]
  refine ex_seq ?_
  refine ex_region_w tt_ok 143 [0,0,0,0,0,0,0,0,0,0,0,0,0,0,0,0,0,0,0,0,0,0,0,0,0,0,0,0,0,0,0,0,0,0,0,0,0,0,0,0,0,0,0,0,0,0,0,0,0,0,0,0,0,0,0,0,0,1,1,2] [] (by kernel_rfl) (by kernel_rfl) fun K hK => ?_
  try simp only [ltb]
  try simp only [ltb]
  simp only [hixt0,hixt1,sl,e4,hG,hw1,hw2,toVal,go_sem,reduceIte,reduceAdd,reduceLT,reduceLeDiff,reduceMul,reduceEqDiff,reduceSub,reduceCtorEq,List.take_length]
  refine hK _ _ (by kernel_rfl) ?_
  simp only [mkW,lkF,reduceAdd,reduceEqDiff,if_true,if_false,reduceIte]
  refine ex_if rfl (fun hc59 => ?_) (fun hc59 => ?_)
  ·skip
   have hlt : i < T := by simpa using hc59
   obtain ⟨cs0, hcbs0⟩ := get_byte (s := s) (i := (i : Int).toNat) (by omega)
   have hixs0 := ev_index (P := Tryz.prog) s hT9 .i64 (i) (by omega) (c := cs0) hcbs0
   refine ex_skip ?_
   show Go.Eng.Ex _ _ _ _ _ _
   refine ex_block ?_
   refine ex_seq_joinK [8] 0 [true,true,false,false,false,true,true,true,true,true,true,false,false,false,true,true,true,true,true,true,true,true,true,true,true,true,true,true,true,true,true,true,true,true,true,true,true,true,true,true,true,true,true,true,true,true,true,true,true,true,true,true,true,true,true,true,true,true,true,true] (fun vs => ∃ j : Int, vs = [num j] ∧ i ≤ j ∧ j < T) ?_ ?_
   ·skip
    refine ex_region_w tt_ok 143 [0,0,0,0,0,0,0,0,0,0,0,0,0,0,0,0,0,0,0,0,0,0,0,0,0,0,0,0,0,0,0,0,0,0,0,0,0,0,0,0,0,0,0,0,0,0,0,0,0,0,0,0,0,0,0,0,0,0,0,0,1,1,1,1,2] [] (by kernel_rfl) (by kernel_rfl) fun K hK => ?_
    try simp only [ltb]
    try simp only [ltb]
    simp only [hixt0,hixt1,hixs0,sl,e4,hG,hw1,hw2,toVal,go_sem,reduceIte,reduceAdd,reduceLT,reduceLeDiff,reduceMul,reduceEqDiff,reduceSub,reduceCtorEq,List.take_length]
    refine hK _ _ (by kernel_rfl) ?_
    simp only [mkW,lkF,reduceAdd,reduceEqDiff,if_true,if_false,reduceIte]
    refine ex_if rfl (fun hc64 => ?_) (fun hc64 => ?_)
    ·skip
     have hwi : IntKind.i64.wrap (i + 1) = i + 1 := IntWalk.i64_in _ (by omega)
     have hcm : lift2 Tryz.prog (fun a l => Instr.sliceAt 9 a (some l) (some (.int .i64 (T))) none) (.sc (.string s)) (.sc (.int .i64 (i + 1))) = some (.sc (.string (s.extract (i + 1 : Int).toNat (T : Int).toNat))) := ev_cutmid (P := Tryz.prog) (tt := tt) (mem := []) (T := 9) s hT9 .i64 .i64 (i + 1) (T) (by omega) (by omega) (by omega)
     refine ex_region_w tt_ok 143 [0,0,0,0,0,0,0,0,0,0,0,2,0,0,0,0,0,0,0,0,0,0,0,0,0,0,0,0,0,0,0,0,0,0,0,0,0,0,0,0,0,0,0,0,0,0,0,0,0,0,0,0,0,0,0,0,0,0,0,0,0,0,0,0,0,1,1,1,1,1,1,1] [] (by kernel_rfl) (by kernel_rfl) fun K hK => ?_
     try simp only [ltb]
     refine runX_cut 7 fun K1 hK1 => ?_
     simp only [ltb]
     simp only [hixt0,hixt1,hixs0,hwi,hcm,sl,e4,hG,hw1,hw2,toVal,go_sem,reduceIte,reduceAdd,reduceLT,reduceLeDiff,reduceMul,reduceEqDiff,reduceSub,reduceCtorEq,List.take_length]
     refine callF_ex (indexByte_tot _ _) ?_
     rintro _ ⟨o, rfl, hol, hou⟩
     try simp only [hixt0,hixt1,hixs0,hwi,hcm,sl,e4,hG,hw1,hw2,toVal,go_sem,reduceIte,reduceAdd,reduceLT,reduceLeDiff,reduceMul,reduceEqDiff,reduceSub,reduceCtorEq,List.take_length]
     have hox : o < T - (i + 1) := by have := size_ext (s := s) (a := (i + 1 : Int).toNat) (b := T.toNat); omega
     refine hK1 _ ?_
     try simp only [ltb]
     simp only [hixt0,hixt1,hixs0,hwi,hcm,sl,e4,hG,hw1,hw2,toVal,go_sem,reduceIte,reduceAdd,reduceLT,reduceLeDiff,reduceMul,reduceEqDiff,reduceSub,reduceCtorEq,List.take_length]
     refine hK _ _ (by kernel_rfl) ?_
     simp only [mkW,lkF,reduceAdd,reduceEqDiff,if_true,if_false,reduceIte]
     refine ex_seq ?_
     refine ex_region_w tt_ok 143 [0,0,0,0,0,0,0,0,0,0,0,0,0,0,0,0,0,0,0,0,0,0,0,0,0,0,0,0,0,0,0,0,0,0,0,0,0,0,0,0,0,0,0,0,0,0,0,0,0,0,0,0,0,0,0,0,0,0,0,0,0,0,0,0,0,0,0,0,0,0,0,0,1,2] [] (by kernel_rfl) (by kernel_rfl) fun K hK => ?_
     try simp only [ltb]
     try simp only [ltb]
     simp only [hixt0,hixt1,hixs0,hwi,hcm,sl,e4,hG,hw1,hw2,toVal,go_sem,reduceIte,reduceAdd,reduceLT,reduceLeDiff,reduceMul,reduceEqDiff,reduceSub,reduceCtorEq,List.take_length]
     refine hK _ _ (by kernel_rfl) ?_
     simp only [mkW,lkF,reduceAdd,reduceEqDiff,if_true,if_false,reduceIte]
     refine ex_if rfl (fun hc73 => ?_) (fun hc73 => ?_)
     ·skip
      refine ex_region_w tt_ok 143 [0,0,0,0,2] [] (by kernel_rfl) (by kernel_rfl) fun K hK => ?_
      try simp only [ltb]
      try simp only [ltb]
      simp only [hixt0,hixt1,hixs0,hwi,hcm,sl,e4,hG,hw1,hw2,toVal,go_sem,reduceIte,reduceAdd,reduceLT,reduceLeDiff,reduceMul,reduceEqDiff,reduceSub,reduceCtorEq,List.take_length]
      refine hK _ _ (by kernel_rfl) ?_
      simp only [mkW,lkF,reduceAdd,reduceEqDiff,if_true,if_false,reduceIte]
      refine ex_ret ?_
      exact ⟨.inl rfl, _, ⟨_, rfl⟩, rfl⟩
     ·skip
      have ho0 : 0 ≤ o := by have := of_decide_eq_false hc73; omega
      obtain ⟨j, hj⟩ : ∃ j : Int, j = i + (o + 1) := ⟨_, rfl⟩
      have hwo : IntKind.i64.wrap (o + 1) = o + 1 := IntWalk.i64_in _ (by omega)
      have hwj : IntKind.i64.wrap (i + (o + 1)) = j := by rw [IntWalk.i64_in _ (by omega)]; exact hj.symm
      have hj0 : i ≤ j := by omega
      have hjT : j < T := by omega
      refine ex_skip ?_
      show Go.Eng.Ex _ _ _ _ _ _
      refine ex_last_region_w tt_ok 143 [0,0,0,0,0,0,0,0,2,0,0,0,0,0,0,0,0,0,0,0,0,0,0,0,0,0,0,0,0,0,0,0,0,0,0,0,0,0,0,0,0,0,0,0,0,0,0,0,0,0,0,0,0,0,0,0,0,0,0,0,0,0,0,0,0,0,0,0,0,0,0,0,0,0,2,2,2,2] [] (by kernel_rfl) (by kernel_rfl) (by kernel_rfl) fun K hK => ?_
      try simp only [ltb]
      try simp only [ltb]
      simp only [hixt0,hixt1,hixs0,hwi,hcm,hwo,hwj,sl,e4,hG,hw1,hw2,toVal,go_sem,reduceIte,reduceAdd,reduceLT,reduceLeDiff,reduceMul,reduceEqDiff,reduceSub,reduceCtorEq,List.take_length]
      refine hK _ _ (by kernel_rfl) ?_
      simp only [mkW,lkF,reduceAdd,reduceEqDiff,if_true,if_false,reduceIte]
      refine ⟨[_], ?_, 0, [true,true,false,false,false,true,true,true,true,true,true,false,false,false,true,true,true,true,true,true,true,true,true,true,true,true,true,true,true,true,true,true,true,true,true,true,true,true,true,true,true,true,true,true,true,true,true,true,true,true,true,true,true,true,true,true,true,true,true,true], by omega, by simp only [maskFr,belowV,belowL,belowB,reduceLT,mkb], by simp only [maskFr,belowV,belowL,belowB,reduceLT,mkb], by simp only [maskFr,belowV,belowL,belowB,reduceLT,mkb,putAll,List.set_cons_zero,List.set_cons_succ]; rfl⟩
      exact ⟨j, by rw [hj], by omega, hjT⟩
    ·skip
     obtain ⟨j, hj⟩ : ∃ j : Int, j = i := ⟨i, rfl⟩
     have hjT : j < T := by omega
     refine ex_skip ?_
     refine ⟨[_], ?_, 0, [true,true,false,false,false,true,true,true,true,true,true,false,false,false,true,true,true,true,true,true,true,true,true,true,true,true,true,true,true,true,true,true,true,true,true,true,true,true,true,true,true,true,true,true,true,true,true,true,true,true,true,true,true,true,true,true,true,true,true,true], by omega, by simp only [maskFr,belowV,belowL,belowB,reduceLT,mkb], by simp only [maskFr,belowV,belowL,belowB,reduceLT,mkb], by simp only [maskFr,belowV,belowL,belowB,reduceLT,mkb,putAll,List.set_cons_zero,List.set_cons_succ]; rfl⟩
     exact ⟨j, by rw [hj], by omega, hjT⟩
   ·intro vs hJ
    obtain ⟨j, rfl, hj0, hjT⟩ := hJ
    simp only [maskFr,belowV,belowL,belowB,reduceLT,mkb,putAll,List.set_cons_zero,List.set_cons_succ]
    refine ex_seq ?_
    have hwj1 : IntKind.i64.wrap (j + 1) = j + 1 := IntWalk.i64_in _ (by omega)
    have hwjn : IntKind.i64.wrap (j + (t.size : Int)) = j + (t.size : Int) := IntWalk.i64_in _ (by omega)
    obtain ⟨cs1, hcbs1⟩ := get_byte (s := s) (i := (j + 1 : Int).toNat) (by omega)
    have hixs1 := ev_index (P := Tryz.prog) s hT9 .i64 (j + 1) (by omega) (c := cs1) hcbs1
    have hcm1 : lift2 Tryz.prog (fun a l => Instr.sliceAt 9 a (some l) (some (.int .i64 (j + (t.size : Int)))) none) (.sc (.string s)) (.sc (.int .i64 (j))) = some (.sc (.string (s.extract (j : Int).toNat (j + (t.size : Int) : Int).toNat))) := ev_cutmid (P := Tryz.prog) (tt := tt) (mem := []) (T := 9) s hT9 .i64 .i64 (j) (j + (t.size : Int)) (by omega) (by omega) (by omega)
    have hcf1 : lift2 Tryz.prog (fun a l => Instr.sliceAt 9 a (some l) none none) (.sc (.string s)) (.sc (.int .i64 (j + 1))) = some (.sc (.string (s.extract (j + 1 : Int).toNat s.size))) := ev_cutfrom (P := Tryz.prog) (tt := tt) (mem := []) (T := 9) s hT9 .i64 (j + 1) (by omega) (by omega)
    have hwf : IntKind.i64.wrap (f + 1) = f + 1 := IntWalk.i64_in _ (by omega)
    refine ex_region_w tt_ok 143 [0,0,0,0,0,0,0,0,0,0,0,0,0,0,0,0,0,0,0,0,0,0,0,0,0,0,0,0,0,0,0,0,0,0,0,0,0,0,0,0,0,0,0,0,0,0,0,0,0,0,0,0,0,0,0,0,0,0,0,0,0,0,0,0,0,0,0,0,0,0,0,0,0,0,0,0,0,0,1,1,1,1,1,1,1,1,1,1,1,1,1,1,1,2] [(6, 84)] (by kernel_rfl) (by kernel_rfl) fun K hK => ?_
    try simp only [ltb]
    refine runX_cut 7 fun K1 hK1 => ?_
    simp only [ltb]
    simp only [hixt0,hixt1,hixs0,hwj1,hwjn,hixs1,hcm1,hcf1,hwf,sl,e4,hG,hw1,hw2,toVal,go_sem,reduceIte,reduceAdd,reduceLT,reduceLeDiff,reduceMul,reduceEqDiff,reduceSub,reduceCtorEq,List.take_length]
    refine hK1 _ ?_
    refine runX_case 84 (by rfl) fun b hb21_6 => ?_
    cases b
    ·skip
     refine runX_cut 8 fun K1 hK1 => ?_
     simp only [ltb]
     simp only [hixt0,hixt1,hixs0,hwj1,hwjn,hixs1,hcm1,hcf1,hwf,sl,e4,hG,hw1,hw2,toVal,go_sem,reduceIte,reduceAdd,reduceLT,reduceLeDiff,reduceMul,reduceEqDiff,reduceSub,reduceCtorEq,List.take_length]
     refine hK1 _ ?_
     try simp only [ltb]
     simp only [hixt0,hixt1,hixs0,hwj1,hwjn,hixs1,hcm1,hcf1,hwf,sl,e4,hG,hw1,hw2,toVal,go_sem,reduceIte,reduceAdd,reduceLT,reduceLeDiff,reduceMul,reduceEqDiff,reduceSub,reduceCtorEq,List.take_length]
     refine hK _ _ (by kernel_rfl) ?_
     simp only [mkW,lkF,reduceAdd,reduceEqDiff,if_true,if_false,reduceIte]
     refine ex_cond rfl ?_
     refine ex_skip ?_
     show Go.Eng.Ex _ _ _ _ _ _
     refine ex_region_w tt_ok 143 [0,0,0,0,0,0,0,0,2,0,0,0,0,0,0,0,0,0,0,0,0,0,0,0,0,0,0,0,0,0,0,0,0,0,0,0,0,0,0,0,0,0,0,0,0,0,0,0,0,0,0,0,0,0,0,0,0,0,0,0,0,0,0,0,0,0,0,0,0,0,0,0,0,0,0,0,0,0,0,0,0,0,0,0,0,0,0,0,0,0,0,0,0,0,0,1,1] [] (by kernel_rfl) (by kernel_rfl) fun K hK => ?_
     try simp only [ltb]
     try simp only [ltb]
     simp only [hixt0,hixt1,hixs0,hwj1,hwjn,hixs1,hcm1,hcf1,hwf,sl,e4,hG,hw1,hw2,toVal,go_sem,reduceIte,reduceAdd,reduceLT,reduceLeDiff,reduceMul,reduceEqDiff,reduceSub,reduceCtorEq,List.take_length]
     refine hK _ _ (by kernel_rfl) ?_
     simp only [mkW,lkF,reduceAdd,reduceEqDiff,if_true,if_false,reduceIte]
     refine ex_region_w tt_ok 143 [0,0,0,0,0,0,0,0,0,0,2,0,0,0,0,0,0,0,0,0,0,0,0,0,0,0,0,0,0,0,0,0,0,0,0,0,0,0,0,0,0,0,0,0,0,0,0,0,0,0,0,0,0,0,0,0,0,0,0,0,0,0,0,0,0,0,0,0,0,0,0,0,0,0,0,0,0,0,0,0,0,0,0,0,0,0,0,0,0,0,0,0,0,0,0,0,0,1,1] [] (by kernel_rfl) (by kernel_rfl) fun K hK => ?_
     try simp only [ltb]
     try simp only [ltb]
     simp only [hixt0,hixt1,hixs0,hwj1,hwjn,hixs1,hcm1,hcf1,hwf,sl,e4,hG,hw1,hw2,toVal,go_sem,reduceIte,reduceAdd,reduceLT,reduceLeDiff,reduceMul,reduceEqDiff,reduceSub,reduceCtorEq,List.take_length]
     refine hK _ _ (by kernel_rfl) ?_
     simp only [mkW,lkF,reduceAdd,reduceEqDiff,if_true,if_false,reduceIte]
     refine ex_region_w tt_ok 143 [0,0,0,0,0,0,0,0,0,0,0,0,0,0,0,0,0,0,0,0,0,0,0,0,0,0,0,0,0,0,0,0,0,0,0,0,0,0,0,0,0,0,0,0,0,0,0,0,0,0,0,0,0,0,0,0,0,0,0,0,0,0,0,0,0,0,0,0,0,0,0,0,0,0,0,0,0,0,0,0,0,0,0,0,0,0,0,0,0,0,0,0,0,0,0,0,0,0,0,1,1,1,1,1,1,1,1,2] [(3, 102)] (by kernel_rfl) (by kernel_rfl) fun K hK => ?_
     try simp only [ltb]
     refine runX_cut 4 fun K1 hK1 => ?_
     simp only [ltb]
     simp only [hixt0,hixt1,hixs0,hwj1,hwjn,hixs1,hcm1,hcf1,hwf,sl,e4,hG,hw1,hw2,toVal,go_sem,reduceIte,reduceAdd,reduceLT,reduceLeDiff,reduceMul,reduceEqDiff,reduceSub,reduceCtorEq,List.take_length]
     refine hK1 _ ?_
     refine runX_case 102 (by rfl) fun b hb25_3 => ?_
     cases b
     ·skip
      try simp only [ltb]
      simp only [hixt0,hixt1,hixs0,hwj1,hwjn,hixs1,hcm1,hcf1,hwf,sl,e4,hG,hw1,hw2,toVal,go_sem,reduceIte,reduceAdd,reduceLT,reduceLeDiff,reduceMul,reduceEqDiff,reduceSub,reduceCtorEq,List.take_length]
      refine hK _ _ (by kernel_rfl) ?_
      simp only [mkW,lkF,reduceAdd,reduceEqDiff,if_true,if_false,reduceIte]
      refine ex_cond rfl ?_
      refine ex_region_w tt_ok 143 [0,0,0,0,0,0,0,0,0,0,0,0,0,0,0,0,0,0,0,0,0,0,0,0,0,0,0,0,0,0,0,0,0,0,0,0,0,0,0,0,0,0,0,0,0,0,0,0,0,0,0,0,0,0,0,0,0,0,0,0,0,0,0,0,0,0,0,0,0,0,0,0,0,0,0,0,0,0,0,0,0,0,0,0,0,0,0,0,0,0,0,0,0,0,0,0,0,0,0,0,0,0,0,0,0,0,0,0,0,0,0,0,0,0,0,0,0,0,1,1,1,1,1,1,1,1,1,1,1,1,1,1,2] [(3, 121), (10, 128)] (by kernel_rfl) (by kernel_rfl) fun K hK => ?_
      try simp only [ltb]
      refine runX_cut 4 fun K1 hK1 => ?_
      simp only [ltb]
      simp only [hixt0,hixt1,hixs0,hwj1,hwjn,hixs1,hcm1,hcf1,hwf,sl,e4,hG,hw1,hw2,toVal,go_sem,reduceIte,reduceAdd,reduceLT,reduceLeDiff,reduceMul,reduceEqDiff,reduceSub,reduceCtorEq,List.take_length]
      refine hK1 _ ?_
      refine runX_case 121 (by rfl) fun b hb30_3 => ?_
      cases b
      ·skip
       refine runX_cut 8 fun K1 hK1 => ?_
       simp only [ltb]
       simp only [hixt0,hixt1,hixs0,hwj1,hwjn,hixs1,hcm1,hcf1,hwf,sl,e4,hG,hw1,hw2,toVal,go_sem,reduceIte,reduceAdd,reduceLT,reduceLeDiff,reduceMul,reduceEqDiff,reduceSub,reduceCtorEq,List.take_length]
       refine hK1 _ ?_
       try simp only [ltb]
       simp only [hixt0,hixt1,hixs0,hwj1,hwjn,hixs1,hcm1,hcf1,hwf,sl,e4,hG,hw1,hw2,toVal,go_sem,reduceIte,reduceAdd,reduceLT,reduceLeDiff,reduceMul,reduceEqDiff,reduceSub,reduceCtorEq,List.take_length]
       refine hK _ _ (by kernel_rfl) ?_
       simp only [mkW,lkF,reduceAdd,reduceEqDiff,if_true,if_false,reduceIte]
       refine ex_cond rfl ?_
       refine ex_skip ?_
       refine ⟨[_, _], ?_, ?_, 0, [true,true,false,false,true,true,true,true,true,true,true,false,false,false,false,false,true,false,false,false,false,false,false,false,true,false,false,false,false,false,false,true,false,false,false,false,true], by omega, by simp only [maskFr,belowV,belowL,belowB,reduceLT,mkb], by simp only [maskFr,belowV,belowL,belowB,reduceLT,mkb], by simp only [maskFr,belowV,belowL,belowB,reduceLT,mkb,putAll,List.set_cons_zero,List.set_cons_succ]; rfl⟩
       ·exact ⟨j + 1, f + 1, rfl, by omega, by omega, by omega, by omega⟩
       ·simp only [intOf,List.headD_cons]; omega
      ·skip
       refine runX_cut 7 fun K1 hK1 => ?_
       simp only [ltb]
       simp only [hixt0,hixt1,hixs0,hwj1,hwjn,hixs1,hcm1,hcf1,hwf,sl,e4,hG,hw1,hw2,toVal,go_sem,reduceIte,reduceAdd,reduceLT,reduceLeDiff,reduceMul,reduceEqDiff,reduceSub,reduceCtorEq,List.take_length]
       refine hK1 _ ?_
       refine runX_case 128 (by rfl) fun b hb30_10 => ?_
       cases b
       ·skip
        try simp only [ltb]
        simp only [hixt0,hixt1,hixs0,hwj1,hwjn,hixs1,hcm1,hcf1,hwf,sl,e4,hG,hw1,hw2,toVal,go_sem,reduceIte,reduceAdd,reduceLT,reduceLeDiff,reduceMul,reduceEqDiff,reduceSub,reduceCtorEq,List.take_length]
        refine hK _ _ (by kernel_rfl) ?_
        simp only [mkW,lkF,reduceAdd,reduceEqDiff,if_true,if_false,reduceIte]
        refine ex_cond rfl ?_
        refine ex_skip ?_
        refine ⟨[_, _], ?_, ?_, 0, [true,true,false,false,true,true,true,true,true,true,true,false,false,false,false,false,true,false,false,false,false,false,false,false,true,false,false,false,false,false,false,true,false,false,false,false,true], by omega, by simp only [maskFr,belowV,belowL,belowB,reduceLT,mkb], by simp only [maskFr,belowV,belowL,belowB,reduceLT,mkb], by simp only [maskFr,belowV,belowL,belowB,reduceLT,mkb,putAll,List.set_cons_zero,List.set_cons_succ]; rfl⟩
        ·exact ⟨j + 1, f + 1, rfl, by omega, by omega, by omega, by omega⟩
        ·simp only [intOf,List.headD_cons]; omega
       ·skip
        try simp only [ltb]
        simp only [hixt0,hixt1,hixs0,hwj1,hwjn,hixs1,hcm1,hcf1,hwf,sl,e4,hG,hw1,hw2,toVal,go_sem,reduceIte,reduceAdd,reduceLT,reduceLeDiff,reduceMul,reduceEqDiff,reduceSub,reduceCtorEq,List.take_length]
        refine hK _ _ (by kernel_rfl) ?_
        simp only [mkW,lkF,reduceAdd,reduceEqDiff,if_true,if_false,reduceIte]
        refine ex_if rfl (fun hc132 => ?_) (fun hc132 => ?_)
        ·skip
         have hlast : j + 1 < T := by simpa using hc132
         refine ex_region_w tt_ok 143 [0,0,0,0,0,0,0,0,0,0,0,0,0,2,0,0,0,0,0,0,0,0,0,0,0,0,0,0,0,0,0,0,0,0,0,0,0,0,0,0,0,0,0,0,0,0,0,0,0,0,0,0,0,0,0,0,0,0,0,0,0,0,0,0,0,0,0,0,0,0,0,0,0,0,0,0,0,0,0,0,0,0,0,0,0,0,0,0,0,0,0,0,0,0,0,0,0,0,0,0,0,0,0,0,0,0,0,0,0,0,0,0,0,0,0,0,0,0,0,0,0,0,0,0,0,0,0,0,0,0,0,0,0,1,1,1,1,1] [] (by kernel_rfl) (by kernel_rfl) fun K hK => ?_
         try simp only [ltb]
         refine runX_cut 5 fun K1 hK1 => ?_
         simp only [ltb]
         simp only [hixt0,hixt1,hixs0,hwj1,hwjn,hixs1,hcm1,hcf1,hwf,sl,e4,hG,hw1,hw2,toVal,go_sem,reduceIte,reduceAdd,reduceLT,reduceLeDiff,reduceMul,reduceEqDiff,reduceSub,reduceCtorEq,List.take_length]
         refine callF_ex (rk_tot _ _ (by have := size_ext (s := s) (a := (j + 1 : Int).toNat) (b := s.size); omega) ht (by have := size_ext (s := s) (a := (j + 1 : Int).toNat) (b := s.size); omega)) ?_
         rintro _ ⟨r4, rfl⟩
         try simp only [hixt0,hixt1,hixs0,hwj1,hwjn,hixs1,hcm1,hcf1,hwf,sl,e4,hG,hw1,hw2,toVal,go_sem,reduceIte,reduceAdd,reduceLT,reduceLeDiff,reduceMul,reduceEqDiff,reduceSub,reduceCtorEq,List.take_length]
         refine hK1 _ ?_
         try simp only [ltb]
         simp only [hixt0,hixt1,hixs0,hwj1,hwjn,hixs1,hcm1,hcf1,hwf,sl,e4,hG,hw1,hw2,toVal,go_sem,reduceIte,reduceAdd,reduceLT,reduceLeDiff,reduceMul,reduceEqDiff,reduceSub,reduceCtorEq,List.take_length]
         refine hK _ _ (by kernel_rfl) ?_
         simp only [mkW,lkF,reduceAdd,reduceEqDiff,if_true,if_false,reduceIte]
         refine ex_seq ?_
         refine ex_region_w tt_ok 143 [0,0,0,0,0,0,0,0,0,0,0,0,0,0,0,0,0,0,0,0,0,0,0,0,0,0,0,0,0,0,0,0,0,0,0,0,0,0,0,0,0,0,0,0,0,0,0,0,0,0,0,0,0,0,0,0,0,0,0,0,0,0,0,0,0,0,0,0,0,0,0,0,0,0,0,0,0,0,0,0,0,0,0,0,0,0,0,0,0,0,0,0,0,0,0,0,0,0,0,0,0,0,0,0,0,0,0,0,0,0,0,0,0,0,0,0,0,0,0,0,0,0,0,0,0,0,0,0,0,0,0,0,0,0,0,0,0,0,1,2] [] (by kernel_rfl) (by kernel_rfl) fun K hK => ?_
         try simp only [ltb]
         try simp only [ltb]
         simp only [hixt0,hixt1,hixs0,hwj1,hwjn,hixs1,hcm1,hcf1,hwf,sl,e4,hG,hw1,hw2,toVal,go_sem,reduceIte,reduceAdd,reduceLT,reduceLeDiff,reduceMul,reduceEqDiff,reduceSub,reduceCtorEq,List.take_length]
         refine hK _ _ (by kernel_rfl) ?_
         simp only [mkW,lkF,reduceAdd,reduceEqDiff,if_true,if_false,reduceIte]
         refine ex_if rfl (fun hc139 => ?_) (fun hc139 => ?_)
         ·skip
          refine ex_region_w tt_ok 143 [0,0,0,0,2] [] (by kernel_rfl) (by kernel_rfl) fun K hK => ?_
          try simp only [ltb]
          try simp only [ltb]
          simp only [hixt0,hixt1,hixs0,hwj1,hwjn,hixs1,hcm1,hcf1,hwf,sl,e4,hG,hw1,hw2,toVal,go_sem,reduceIte,reduceAdd,reduceLT,reduceLeDiff,reduceMul,reduceEqDiff,reduceSub,reduceCtorEq,List.take_length]
          refine hK _ _ (by kernel_rfl) ?_
          simp only [mkW,lkF,reduceAdd,reduceEqDiff,if_true,if_false,reduceIte]
          refine ex_ret ?_
          exact ⟨.inl rfl, _, ⟨_, rfl⟩, rfl⟩
         ·skip
          refine ex_skip ?_
          show Go.Eng.Ex _ _ _ _ _ _
          refine ex_region_w tt_ok 143 [0,0,0,0,2,0,0,0,0,0,0,0,0,0,0,0,0,0,0,0,0,0,0,0,0,0,0,0,0,0,0,0,0,0,0,0,0,0,0,0,0,0,0,0,0,0,0,0,0,0,0,0,0,0,0,0,0,0,0,0,0,0,0,0,0,0,0,0,0,0,0,0,0,0,0,0,0,0,0,0,0,0,0,0,0,0,0,0,0,0,0,0,0,0,0,0,0,0,0,0,0,0,0,0,0,0,0,0,0,0,0,0,0,0,0,0,0,0,0,0,0,0,0,0,0,0,0,0,0,0,0,0,0,0,0,0,0,0,0,0,1,1,1] [] (by kernel_rfl) (by kernel_rfl) fun K hK => ?_
          try simp only [ltb]
          try simp only [ltb]
          simp only [hixt0,hixt1,hixs0,hwj1,hwjn,hixs1,hcm1,hcf1,hwf,sl,e4,hG,hw1,hw2,toVal,go_sem,reduceIte,reduceAdd,reduceLT,reduceLeDiff,reduceMul,reduceEqDiff,reduceSub,reduceCtorEq,List.take_length]
          refine hK _ _ (by kernel_rfl) ?_
          simp only [mkW,lkF,reduceAdd,reduceEqDiff,if_true,if_false,reduceIte]
          refine ex_ret ?_
          exact ⟨.inl rfl, _, ⟨_, rfl⟩, rfl⟩
        ·skip
         refine ex_skip ?_
         refine ⟨[_, _], ?_, ?_, 0, [true,true,false,false,true,true,true,true,true,true,true,false,false,false,false,false,true,false,false,false,false,false,false,false,true,false,false,false,false,false,false,true,false,false,false,false,true], by omega, by simp only [maskFr,belowV,belowL,belowB,reduceLT,mkb], by simp only [maskFr,belowV,belowL,belowB,reduceLT,mkb], by simp only [maskFr,belowV,belowL,belowB,reduceLT,mkb,putAll,List.set_cons_zero,List.set_cons_succ]; rfl⟩
         ·exact ⟨j + 1, f + 1, rfl, by omega, by omega, by omega, by omega⟩
         ·simp only [intOf,List.headD_cons]; omega
     ·skip
      refine runX_cut 3 fun K1 hK1 => ?_
      simp only [ltb]
      simp only [hixt0,hixt1,hixs0,hwj1,hwjn,hixs1,hcm1,hcf1,hwf,sl,e4,hG,hw1,hw2,toVal,go_sem,reduceIte,reduceAdd,reduceLT,reduceLeDiff,reduceMul,reduceEqDiff,reduceSub,reduceCtorEq,List.take_length]
      refine callF_ex (cutover_tot _) ?_
      rintro _ ⟨r5, rfl⟩
      try simp only [hixt0,hixt1,hixs0,hwj1,hwjn,hixs1,hcm1,hcf1,hwf,sl,e4,hG,hw1,hw2,toVal,go_sem,reduceIte,reduceAdd,reduceLT,reduceLeDiff,reduceMul,reduceEqDiff,reduceSub,reduceCtorEq,List.take_length]
      refine hK1 _ ?_
      try simp only [ltb]
      simp only [hixt0,hixt1,hixs0,hwj1,hwjn,hixs1,hcm1,hcf1,hwf,sl,e4,hG,hw1,hw2,toVal,go_sem,reduceIte,reduceAdd,reduceLT,reduceLeDiff,reduceMul,reduceEqDiff,reduceSub,reduceCtorEq,List.take_length]
      refine hK _ _ (by kernel_rfl) ?_
      simp only [mkW,lkF,reduceAdd,reduceEqDiff,if_true,if_false,reduceIte]
      refine ex_if rfl (fun hc107 => ?_) (fun hc107 => ?_)
      ·skip
       refine ex_region_w tt_ok 143 [0,0,0,0,0,0,0,0,0,0,0,0,2,0,0,0,0,0,0,0,0,0,0,0,0,0,0,0,0,0,0,0,0,0,0,0,0,0,0,0,0,0,0,0,0,0,0,0,0,0,0,0,0,0,0,0,0,0,0,0,0,0,0,0,0,0,0,0,0,0,0,0,0,0,0,0,0,0,0,0,0,0,0,0,0,0,0,0,0,0,0,0,0,0,0,0,0,0,0,0,0,0,0,0,0,0,0,0,1,1,1,1,1] [] (by kernel_rfl) (by kernel_rfl) fun K hK => ?_
       try simp only [ltb]
       refine runX_cut 5 fun K1 hK1 => ?_
       simp only [ltb]
       simp only [hixt0,hixt1,hixs0,hwj1,hwjn,hixs1,hcm1,hcf1,hwf,sl,e4,hG,hw1,hw2,toVal,go_sem,reduceIte,reduceAdd,reduceLT,reduceLeDiff,reduceMul,reduceEqDiff,reduceSub,reduceCtorEq,List.take_length]
       refine callF_nat (idxStr_nat hG _ _ ht2 hb25_3 (by have := size_ext (s := s) (a := (j + 1 : Int).toNat) (b := s.size); omega)) ?_
       rintro _ ⟨r6, rfl⟩
       try simp only [hixt0,hixt1,hixs0,hwj1,hwjn,hixs1,hcm1,hcf1,hwf,sl,e4,hG,hw1,hw2,toVal,go_sem,reduceIte,reduceAdd,reduceLT,reduceLeDiff,reduceMul,reduceEqDiff,reduceSub,reduceCtorEq,List.take_length]
       refine hK1 _ ?_
       try simp only [ltb]
       simp only [hixt0,hixt1,hixs0,hwj1,hwjn,hixs1,hcm1,hcf1,hwf,sl,e4,hG,hw1,hw2,toVal,go_sem,reduceIte,reduceAdd,reduceLT,reduceLeDiff,reduceMul,reduceEqDiff,reduceSub,reduceCtorEq,List.take_length]
       refine hK _ _ (by kernel_rfl) ?_
       simp only [mkW,lkF,reduceAdd,reduceEqDiff,if_true,if_false,reduceIte]
       refine ex_seq ?_
       refine ex_region_w tt_ok 143 [0,0,0,0,0,0,0,0,0,0,0,0,0,0,0,0,0,0,0,0,0,0,0,0,0,0,0,0,0,0,0,0,0,0,0,0,0,0,0,0,0,0,0,0,0,0,0,0,0,0,0,0,0,0,0,0,0,0,0,0,0,0,0,0,0,0,0,0,0,0,0,0,0,0,0,0,0,0,0,0,0,0,0,0,0,0,0,0,0,0,0,0,0,0,0,0,0,0,0,0,0,0,0,0,0,0,0,0,0,0,0,0,0,1,2] [] (by kernel_rfl) (by kernel_rfl) fun K hK => ?_
       try simp only [ltb]
       try simp only [ltb]
       simp only [hixt0,hixt1,hixs0,hwj1,hwjn,hixs1,hcm1,hcf1,hwf,sl,e4,hG,hw1,hw2,toVal,go_sem,reduceIte,reduceAdd,reduceLT,reduceLeDiff,reduceMul,reduceEqDiff,reduceSub,reduceCtorEq,List.take_length]
       refine hK _ _ (by kernel_rfl) ?_
       simp only [mkW,lkF,reduceAdd,reduceEqDiff,if_true,if_false,reduceIte]
       refine ex_if rfl (fun hc114 => ?_) (fun hc114 => ?_)
       ·skip
        refine ex_region_w tt_ok 143 [0,0,0,0,2,0,0,0,0,0,0,0,0,0,0,0,0,0,0,0,0,0,0,0,0,0,0,0,0,0,0,0,0,0,0,0,0,0,0,0,0,0,0,0,0,0,0,0,0,0,0,0,0,0,0,0,0,0,0,0,0,0,0,0,0,0,0,0,0,0,0,0,0,0,0,0,0,0,0,0,0,0,0,0,0,0,0,0,0,0,0,0,0,0,0,0,0,0,0,0,0,0,0,0,0,0,0,0,0,0,0,0,0,0,0,1,1,1] [] (by kernel_rfl) (by kernel_rfl) fun K hK => ?_
        try simp only [ltb]
        try simp only [ltb]
        simp only [hixt0,hixt1,hixs0,hwj1,hwjn,hixs1,hcm1,hcf1,hwf,sl,e4,hG,hw1,hw2,toVal,go_sem,reduceIte,reduceAdd,reduceLT,reduceLeDiff,reduceMul,reduceEqDiff,reduceSub,reduceCtorEq,List.take_length]
        refine hK _ _ (by kernel_rfl) ?_
        simp only [mkW,lkF,reduceAdd,reduceEqDiff,if_true,if_false,reduceIte]
        refine ex_ret ?_
        exact ⟨.inl rfl, _, ⟨_, rfl⟩, rfl⟩
       ·skip
        refine ex_skip ?_
        show Go.Eng.Ex _ _ _ _ _ _
        refine ex_region_w tt_ok 143 [0,0,0,0,2] [] (by kernel_rfl) (by kernel_rfl) fun K hK => ?_
        try simp only [ltb]
        try simp only [ltb]
        simp only [hixt0,hixt1,hixs0,hwj1,hwjn,hixs1,hcm1,hcf1,hwf,sl,e4,hG,hw1,hw2,toVal,go_sem,reduceIte,reduceAdd,reduceLT,reduceLeDiff,reduceMul,reduceEqDiff,reduceSub,reduceCtorEq,List.take_length]
        refine hK _ _ (by kernel_rfl) ?_
        simp only [mkW,lkF,reduceAdd,reduceEqDiff,if_true,if_false,reduceIte]
        refine ex_ret ?_
        exact ⟨.inl rfl, _, ⟨_, rfl⟩, rfl⟩
      ·skip
       refine ex_region_w tt_ok 143 [0,0,0,0,0,0,0,0,0,0,0,0,0,0,0,0,0,0,0,0,0,0,0,0,0,0,0,0,0,0,0,0,0,0,0,0,0,0,0,0,0,0,0,0,0,0,0,0,0,0,0,0,0,0,0,0,0,0,0,0,0,0,0,0,0,0,0,0,0,0,0,0,0,0,0,0,0,0,0,0,0,0,0,0,0,0,0,0,0,0,0,0,0,0,0,0,0,0,0,0,0,0,0,0,0,0,0,0,0,0,0,0,0,0,0,0,0,0,1,1,1,1,1,1,1,1,1,1,1,1,1,1,2] [(3, 121), (10, 128)] (by kernel_rfl) (by kernel_rfl) fun K hK => ?_
       try simp only [ltb]
       refine runX_cut 4 fun K1 hK1 => ?_
       simp only [ltb]
       simp only [hixt0,hixt1,hixs0,hwj1,hwjn,hixs1,hcm1,hcf1,hwf,sl,e4,hG,hw1,hw2,toVal,go_sem,reduceIte,reduceAdd,reduceLT,reduceLeDiff,reduceMul,reduceEqDiff,reduceSub,reduceCtorEq,List.take_length]
       refine hK1 _ ?_
       refine runX_case 121 (by rfl) fun b hb30_3 => ?_
       cases b
       ·skip
        refine runX_cut 8 fun K1 hK1 => ?_
        simp only [ltb]
        simp only [hixt0,hixt1,hixs0,hwj1,hwjn,hixs1,hcm1,hcf1,hwf,sl,e4,hG,hw1,hw2,toVal,go_sem,reduceIte,reduceAdd,reduceLT,reduceLeDiff,reduceMul,reduceEqDiff,reduceSub,reduceCtorEq,List.take_length]
        refine hK1 _ ?_
        try simp only [ltb]
        simp only [hixt0,hixt1,hixs0,hwj1,hwjn,hixs1,hcm1,hcf1,hwf,sl,e4,hG,hw1,hw2,toVal,go_sem,reduceIte,reduceAdd,reduceLT,reduceLeDiff,reduceMul,reduceEqDiff,reduceSub,reduceCtorEq,List.take_length]
        refine hK _ _ (by kernel_rfl) ?_
        simp only [mkW,lkF,reduceAdd,reduceEqDiff,if_true,if_false,reduceIte]
        refine ex_cond rfl ?_
        refine ex_skip ?_
        refine ⟨[_, _], ?_, ?_, 0, [true,true,false,false,true,true,true,true,true,true,true,false,false,false,false,false,true,false,false,false,false,false,false,false,true,false,false,false,false,false,false,true,false,false,false,false,true], by omega, by simp only [maskFr,belowV,belowL,belowB,reduceLT,mkb], by simp only [maskFr,belowV,belowL,belowB,reduceLT,mkb], by simp only [maskFr,belowV,belowL,belowB,reduceLT,mkb,putAll,List.set_cons_zero,List.set_cons_succ]; rfl⟩
        ·exact ⟨j + 1, f + 1, rfl, by omega, by omega, by omega, by omega⟩
        ·simp only [intOf,List.headD_cons]; omega
       ·skip
        refine runX_cut 7 fun K1 hK1 => ?_
        simp only [ltb]
        simp only [hixt0,hixt1,hixs0,hwj1,hwjn,hixs1,hcm1,hcf1,hwf,sl,e4,hG,hw1,hw2,toVal,go_sem,reduceIte,reduceAdd,reduceLT,reduceLeDiff,reduceMul,reduceEqDiff,reduceSub,reduceCtorEq,List.take_length]
        refine hK1 _ ?_
        refine runX_case 128 (by rfl) fun b hb30_10 => ?_
        cases b
        ·skip
         try simp only [ltb]
         simp only [hixt0,hixt1,hixs0,hwj1,hwjn,hixs1,hcm1,hcf1,hwf,sl,e4,hG,hw1,hw2,toVal,go_sem,reduceIte,reduceAdd,reduceLT,reduceLeDiff,reduceMul,reduceEqDiff,reduceSub,reduceCtorEq,List.take_length]
         refine hK _ _ (by kernel_rfl) ?_
         simp only [mkW,lkF,reduceAdd,reduceEqDiff,if_true,if_false,reduceIte]
         refine ex_cond rfl ?_
         refine ex_skip ?_
         refine ⟨[_, _], ?_, ?_, 0, [true,true,false,false,true,true,true,true,true,true,true,false,false,false,false,false,true,false,false,false,false,false,false,false,true,false,false,false,false,false,false,true,false,false,false,false,true], by omega, by simp only [maskFr,belowV,belowL,belowB,reduceLT,mkb], by simp only [maskFr,belowV,belowL,belowB,reduceLT,mkb], by simp only [maskFr,belowV,belowL,belowB,reduceLT,mkb,putAll,List.set_cons_zero,List.set_cons_succ]; rfl⟩
         ·exact ⟨j + 1, f + 1, rfl, by omega, by omega, by omega, by omega⟩
         ·simp only [intOf,List.headD_cons]; omega
        ·skip
         try simp only [ltb]
         simp only [hixt0,hixt1,hixs0,hwj1,hwjn,hixs1,hcm1,hcf1,hwf,sl,e4,hG,hw1,hw2,toVal,go_sem,reduceIte,reduceAdd,reduceLT,reduceLeDiff,reduceMul,reduceEqDiff,reduceSub,reduceCtorEq,List.take_length]
         refine hK _ _ (by kernel_rfl) ?_
         simp only [mkW,lkF,reduceAdd,reduceEqDiff,if_true,if_false,reduceIte]
         refine ex_if rfl (fun hc132 => ?_) (fun hc132 => ?_)
         ·skip
          have hlast : j + 1 < T := by simpa using hc132
          refine ex_region_w tt_ok 143 [0,0,0,0,0,0,0,0,0,0,0,0,0,2,0,0,0,0,0,0,0,0,0,0,0,0,0,0,0,0,0,0,0,0,0,0,0,0,0,0,0,0,0,0,0,0,0,0,0,0,0,0,0,0,0,0,0,0,0,0,0,0,0,0,0,0,0,0,0,0,0,0,0,0,0,0,0,0,0,0,0,0,0,0,0,0,0,0,0,0,0,0,0,0,0,0,0,0,0,0,0,0,0,0,0,0,0,0,0,0,0,0,0,0,0,0,0,0,0,0,0,0,0,0,0,0,0,0,0,0,0,0,0,1,1,1,1,1] [] (by kernel_rfl) (by kernel_rfl) fun K hK => ?_
          try simp only [ltb]
          refine runX_cut 5 fun K1 hK1 => ?_
          simp only [ltb]
          simp only [hixt0,hixt1,hixs0,hwj1,hwjn,hixs1,hcm1,hcf1,hwf,sl,e4,hG,hw1,hw2,toVal,go_sem,reduceIte,reduceAdd,reduceLT,reduceLeDiff,reduceMul,reduceEqDiff,reduceSub,reduceCtorEq,List.take_length]
          refine callF_ex (rk_tot _ _ (by have := size_ext (s := s) (a := (j + 1 : Int).toNat) (b := s.size); omega) ht (by have := size_ext (s := s) (a := (j + 1 : Int).toNat) (b := s.size); omega)) ?_
          rintro _ ⟨r7, rfl⟩
          try simp only [hixt0,hixt1,hixs0,hwj1,hwjn,hixs1,hcm1,hcf1,hwf,sl,e4,hG,hw1,hw2,toVal,go_sem,reduceIte,reduceAdd,reduceLT,reduceLeDiff,reduceMul,reduceEqDiff,reduceSub,reduceCtorEq,List.take_length]
          refine hK1 _ ?_
          try simp only [ltb]
          simp only [hixt0,hixt1,hixs0,hwj1,hwjn,hixs1,hcm1,hcf1,hwf,sl,e4,hG,hw1,hw2,toVal,go_sem,reduceIte,reduceAdd,reduceLT,reduceLeDiff,reduceMul,reduceEqDiff,reduceSub,reduceCtorEq,List.take_length]
          refine hK _ _ (by kernel_rfl) ?_
          simp only [mkW,lkF,reduceAdd,reduceEqDiff,if_true,if_false,reduceIte]
          refine ex_seq ?_
          refine ex_region_w tt_ok 143 [0,0,0,0,0,0,0,0,0,0,0,0,0,0,0,0,0,0,0,0,0,0,0,0,0,0,0,0,0,0,0,0,0,0,0,0,0,0,0,0,0,0,0,0,0,0,0,0,0,0,0,0,0,0,0,0,0,0,0,0,0,0,0,0,0,0,0,0,0,0,0,0,0,0,0,0,0,0,0,0,0,0,0,0,0,0,0,0,0,0,0,0,0,0,0,0,0,0,0,0,0,0,0,0,0,0,0,0,0,0,0,0,0,0,0,0,0,0,0,0,0,0,0,0,0,0,0,0,0,0,0,0,0,0,0,0,0,0,1,2] [] (by kernel_rfl) (by kernel_rfl) fun K hK => ?_
          try simp only [ltb]
          try simp only [ltb]
          simp only [hixt0,hixt1,hixs0,hwj1,hwjn,hixs1,hcm1,hcf1,hwf,sl,e4,hG,hw1,hw2,toVal,go_sem,reduceIte,reduceAdd,reduceLT,reduceLeDiff,reduceMul,reduceEqDiff,reduceSub,reduceCtorEq,List.take_length]
          refine hK _ _ (by kernel_rfl) ?_
          simp only [mkW,lkF,reduceAdd,reduceEqDiff,if_true,if_false,reduceIte]
          refine ex_if rfl (fun hc139 => ?_) (fun hc139 => ?_)
          ·skip
           refine ex_region_w tt_ok 143 [0,0,0,0,2] [] (by kernel_rfl) (by kernel_rfl) fun K hK => ?_
           try simp only [ltb]
           try simp only [ltb]
           simp only [hixt0,hixt1,hixs0,hwj1,hwjn,hixs1,hcm1,hcf1,hwf,sl,e4,hG,hw1,hw2,toVal,go_sem,reduceIte,reduceAdd,reduceLT,reduceLeDiff,reduceMul,reduceEqDiff,reduceSub,reduceCtorEq,List.take_length]
           refine hK _ _ (by kernel_rfl) ?_
           simp only [mkW,lkF,reduceAdd,reduceEqDiff,if_true,if_false,reduceIte]
           refine ex_ret ?_
           exact ⟨.inl rfl, _, ⟨_, rfl⟩, rfl⟩
          ·skip
           refine ex_skip ?_
           show Go.Eng.Ex _ _ _ _ _ _
           refine ex_region_w tt_ok 143 [0,0,0,0,2,0,0,0,0,0,0,0,0,0,0,0,0,0,0,0,0,0,0,0,0,0,0,0,0,0,0,0,0,0,0,0,0,0,0,0,0,0,0,0,0,0,0,0,0,0,0,0,0,0,0,0,0,0,0,0,0,0,0,0,0,0,0,0,0,0,0,0,0,0,0,0,0,0,0,0,0,0,0,0,0,0,0,0,0,0,0,0,0,0,0,0,0,0,0,0,0,0,0,0,0,0,0,0,0,0,0,0,0,0,0,0,0,0,0,0,0,0,0,0,0,0,0,0,0,0,0,0,0,0,0,0,0,0,0,0,1,1,1] [] (by kernel_rfl) (by kernel_rfl) fun K hK => ?_
           try simp only [ltb]
           try simp only [ltb]
           simp only [hixt0,hixt1,hixs0,hwj1,hwjn,hixs1,hcm1,hcf1,hwf,sl,e4,hG,hw1,hw2,toVal,go_sem,reduceIte,reduceAdd,reduceLT,reduceLeDiff,reduceMul,reduceEqDiff,reduceSub,reduceCtorEq,List.take_length]
           refine hK _ _ (by kernel_rfl) ?_
           simp only [mkW,lkF,reduceAdd,reduceEqDiff,if_true,if_false,reduceIte]
           refine ex_ret ?_
           exact ⟨.inl rfl, _, ⟨_, rfl⟩, rfl⟩
         ·skip
          refine ex_skip ?_
          refine ⟨[_, _], ?_, ?_, 0, [true,true,false,false,true,true,true,true,true,true,true,false,false,false,false,false,true,false,false,false,false,false,false,false,true,false,false,false,false,false,false,true,false,false,false,false,true], by omega, by simp only [maskFr,belowV,belowL,belowB,reduceLT,mkb], by simp only [maskFr,belowV,belowL,belowB,reduceLT,mkb], by simp only [maskFr,belowV,belowL,belowB,reduceLT,mkb,putAll,List.set_cons_zero,List.set_cons_succ]; rfl⟩
          ·exact ⟨j + 1, f + 1, rfl, by omega, by omega, by omega, by omega⟩
          ·simp only [intOf,List.headD_cons]; omega
    ·skip
     refine runX_cut 8 fun K1 hK1 => ?_
     simp only [ltb]
     simp only [hixt0,hixt1,hixs0,hwj1,hwjn,hixs1,hcm1,hcf1,hwf,sl,e4,hG,hw1,hw2,toVal,go_sem,reduceIte,reduceAdd,reduceLT,reduceLeDiff,reduceMul,reduceEqDiff,reduceSub,reduceCtorEq,List.take_length]
     refine hK1 _ ?_
     try simp only [ltb]
     simp only [hixt0,hixt1,hixs0,hwj1,hwjn,hixs1,hcm1,hcf1,hwf,sl,e4,hG,hw1,hw2,toVal,go_sem,reduceIte,reduceAdd,reduceLT,reduceLeDiff,reduceMul,reduceEqDiff,reduceSub,reduceCtorEq,List.take_length]
     refine hK _ _ (by kernel_rfl) ?_
     simp only [mkW,lkF,reduceAdd,reduceEqDiff,if_true,if_false,reduceIte]
     refine ex_if rfl (fun hc93 => ?_) (fun hc93 => ?_)
     ·skip
      refine ex_region_w tt_ok 143 [0,0,0,0,2,0,0,0,0,0,0,0,0,0,0,0,0,0,0,0,0,0,0,0,0,0,0,0,0,0,0,0,0,0,0,0,0,0,0,0,0,0,0,0,0,0,0,0,0,0,0,0,0,0,0,0,0,0,0,0,0,0,0,0,0,0,0,0,0,0,0,0,0,0,0,0,0,0,0,0,0,0,0,0,0,0,0,0,0,0,0,0,0,0,1] [] (by kernel_rfl) (by kernel_rfl) fun K hK => ?_
      try simp only [ltb]
      try simp only [ltb]
      simp only [hixt0,hixt1,hixs0,hwj1,hwjn,hixs1,hcm1,hcf1,hwf,sl,e4,hG,hw1,hw2,toVal,go_sem,reduceIte,reduceAdd,reduceLT,reduceLeDiff,reduceMul,reduceEqDiff,reduceSub,reduceCtorEq,List.take_length]
      refine hK _ _ (by kernel_rfl) ?_
      simp only [mkW,lkF,reduceAdd,reduceEqDiff,if_true,if_false,reduceIte]
      refine ex_ret ?_
      exact ⟨.inl rfl, _, ⟨_, rfl⟩, rfl⟩
     ·skip
      refine ex_skip ?_
      show Go.Eng.Ex _ _ _ _ _ _
      refine ex_region_w tt_ok 143 [0,0,0,0,0,0,0,0,2,0,0,0,0,0,0,0,0,0,0,0,0,0,0,0,0,0,0,0,0,0,0,0,0,0,0,0,0,0,0,0,0,0,0,0,0,0,0,0,0,0,0,0,0,0,0,0,0,0,0,0,0,0,0,0,0,0,0,0,0,0,0,0,0,0,0,0,0,0,0,0,0,0,0,0,0,0,0,0,0,0,0,0,0,0,0,1,1] [] (by kernel_rfl) (by kernel_rfl) fun K hK => ?_
      try simp only [ltb]
      try simp only [ltb]
      simp only [hixt0,hixt1,hixs0,hwj1,hwjn,hixs1,hcm1,hcf1,hwf,sl,e4,hG,hw1,hw2,toVal,go_sem,reduceIte,reduceAdd,reduceLT,reduceLeDiff,reduceMul,reduceEqDiff,reduceSub,reduceCtorEq,List.take_length]
      refine hK _ _ (by kernel_rfl) ?_
      simp only [mkW,lkF,reduceAdd,reduceEqDiff,if_true,if_false,reduceIte]
      refine ex_region_w tt_ok 143 [0,0,0,0,0,0,0,0,0,0,2,0,0,0,0,0,0,0,0,0,0,0,0,0,0,0,0,0,0,0,0,0,0,0,0,0,0,0,0,0,0,0,0,0,0,0,0,0,0,0,0,0,0,0,0,0,0,0,0,0,0,0,0,0,0,0,0,0,0,0,0,0,0,0,0,0,0,0,0,0,0,0,0,0,0,0,0,0,0,0,0,0,0,0,0,0,0,1,1] [] (by kernel_rfl) (by kernel_rfl) fun K hK => ?_
      try simp only [ltb]
      try simp only [ltb]
      simp only [hixt0,hixt1,hixs0,hwj1,hwjn,hixs1,hcm1,hcf1,hwf,sl,e4,hG,hw1,hw2,toVal,go_sem,reduceIte,reduceAdd,reduceLT,reduceLeDiff,reduceMul,reduceEqDiff,reduceSub,reduceCtorEq,List.take_length]
      refine hK _ _ (by kernel_rfl) ?_
      simp only [mkW,lkF,reduceAdd,reduceEqDiff,if_true,if_false,reduceIte]
      refine ex_region_w tt_ok 143 [0,0,0,0,0,0,0,0,0,0,0,0,0,0,0,0,0,0,0,0,0,0,0,0,0,0,0,0,0,0,0,0,0,0,0,0,0,0,0,0,0,0,0,0,0,0,0,0,0,0,0,0,0,0,0,0,0,0,0,0,0,0,0,0,0,0,0,0,0,0,0,0,0,0,0,0,0,0,0,0,0,0,0,0,0,0,0,0,0,0,0,0,0,0,0,0,0,0,0,1,1,1,1,1,1,1,1,2] [(3, 102)] (by kernel_rfl) (by kernel_rfl) fun K hK => ?_
      try simp only [ltb]
      refine runX_cut 4 fun K1 hK1 => ?_
      simp only [ltb]
      simp only [hixt0,hixt1,hixs0,hwj1,hwjn,hixs1,hcm1,hcf1,hwf,sl,e4,hG,hw1,hw2,toVal,go_sem,reduceIte,reduceAdd,reduceLT,reduceLeDiff,reduceMul,reduceEqDiff,reduceSub,reduceCtorEq,List.take_length]
      refine hK1 _ ?_
      refine runX_case 102 (by rfl) fun b hb25_3 => ?_
      cases b
      ·skip
       try simp only [ltb]
       simp only [hixt0,hixt1,hixs0,hwj1,hwjn,hixs1,hcm1,hcf1,hwf,sl,e4,hG,hw1,hw2,toVal,go_sem,reduceIte,reduceAdd,reduceLT,reduceLeDiff,reduceMul,reduceEqDiff,reduceSub,reduceCtorEq,List.take_length]
       refine hK _ _ (by kernel_rfl) ?_
       simp only [mkW,lkF,reduceAdd,reduceEqDiff,if_true,if_false,reduceIte]
       refine ex_cond rfl ?_
       refine ex_region_w tt_ok 143 [0,0,0,0,0,0,0,0,0,0,0,0,0,0,0,0,0,0,0,0,0,0,0,0,0,0,0,0,0,0,0,0,0,0,0,0,0,0,0,0,0,0,0,0,0,0,0,0,0,0,0,0,0,0,0,0,0,0,0,0,0,0,0,0,0,0,0,0,0,0,0,0,0,0,0,0,0,0,0,0,0,0,0,0,0,0,0,0,0,0,0,0,0,0,0,0,0,0,0,0,0,0,0,0,0,0,0,0,0,0,0,0,0,0,0,0,0,0,1,1,1,1,1,1,1,1,1,1,1,1,1,1,2] [(3, 121), (10, 128)] (by kernel_rfl) (by kernel_rfl) fun K hK => ?_
       try simp only [ltb]
       refine runX_cut 4 fun K1 hK1 => ?_
       simp only [ltb]
       simp only [hixt0,hixt1,hixs0,hwj1,hwjn,hixs1,hcm1,hcf1,hwf,sl,e4,hG,hw1,hw2,toVal,go_sem,reduceIte,reduceAdd,reduceLT,reduceLeDiff,reduceMul,reduceEqDiff,reduceSub,reduceCtorEq,List.take_length]
       refine hK1 _ ?_
       refine runX_case 121 (by rfl) fun b hb30_3 => ?_
       cases b
       ·skip
        refine runX_cut 8 fun K1 hK1 => ?_
        simp only [ltb]
        simp only [hixt0,hixt1,hixs0,hwj1,hwjn,hixs1,hcm1,hcf1,hwf,sl,e4,hG,hw1,hw2,toVal,go_sem,reduceIte,reduceAdd,reduceLT,reduceLeDiff,reduceMul,reduceEqDiff,reduceSub,reduceCtorEq,List.take_length]
        refine hK1 _ ?_
        try simp only [ltb]
        simp only [hixt0,hixt1,hixs0,hwj1,hwjn,hixs1,hcm1,hcf1,hwf,sl,e4,hG,hw1,hw2,toVal,go_sem,reduceIte,reduceAdd,reduceLT,reduceLeDiff,reduceMul,reduceEqDiff,reduceSub,reduceCtorEq,List.take_length]
        refine hK _ _ (by kernel_rfl) ?_
        simp only [mkW,lkF,reduceAdd,reduceEqDiff,if_true,if_false,reduceIte]
        refine ex_cond rfl ?_
        refine ex_skip ?_
        refine ⟨[_, _], ?_, ?_, 0, [true,true,false,false,true,true,true,true,true,true,true,false,false,false,false,false,true,false,false,false,false,false,false,false,true,false,false,false,false,false,false,true,false,false,false,false,true], by omega, by simp only [maskFr,belowV,belowL,belowB,reduceLT,mkb], by simp only [maskFr,belowV,belowL,belowB,reduceLT,mkb], by simp only [maskFr,belowV,belowL,belowB,reduceLT,mkb,putAll,List.set_cons_zero,List.set_cons_succ]; rfl⟩
        ·exact ⟨j + 1, f + 1, rfl, by omega, by omega, by omega, by omega⟩
        ·simp only [intOf,List.headD_cons]; omega
       ·skip
        refine runX_cut 7 fun K1 hK1 => ?_
        simp only [ltb]
        simp only [hixt0,hixt1,hixs0,hwj1,hwjn,hixs1,hcm1,hcf1,hwf,sl,e4,hG,hw1,hw2,toVal,go_sem,reduceIte,reduceAdd,reduceLT,reduceLeDiff,reduceMul,reduceEqDiff,reduceSub,reduceCtorEq,List.take_length]
        refine hK1 _ ?_
        refine runX_case 128 (by rfl) fun b hb30_10 => ?_
        cases b
        ·skip
         try simp only [ltb]
         simp only [hixt0,hixt1,hixs0,hwj1,hwjn,hixs1,hcm1,hcf1,hwf,sl,e4,hG,hw1,hw2,toVal,go_sem,reduceIte,reduceAdd,reduceLT,reduceLeDiff,reduceMul,reduceEqDiff,reduceSub,reduceCtorEq,List.take_length]
         refine hK _ _ (by kernel_rfl) ?_
         simp only [mkW,lkF,reduceAdd,reduceEqDiff,if_true,if_false,reduceIte]
         refine ex_cond rfl ?_
         refine ex_skip ?_
         refine ⟨[_, _], ?_, ?_, 0, [true,true,false,false,true,true,true,true,true,true,true,false,false,false,false,false,true,false,false,false,false,false,false,false,true,false,false,false,false,false,false,true,false,false,false,false,true], by omega, by simp only [maskFr,belowV,belowL,belowB,reduceLT,mkb], by simp only [maskFr,belowV,belowL,belowB,reduceLT,mkb], by simp only [maskFr,belowV,belowL,belowB,reduceLT,mkb,putAll,List.set_cons_zero,List.set_cons_succ]; rfl⟩
         ·exact ⟨j + 1, f + 1, rfl, by omega, by omega, by omega, by omega⟩
         ·simp only [intOf,List.headD_cons]; omega
        ·skip
         try simp only [ltb]
         simp only [hixt0,hixt1,hixs0,hwj1,hwjn,hixs1,hcm1,hcf1,hwf,sl,e4,hG,hw1,hw2,toVal,go_sem,reduceIte,reduceAdd,reduceLT,reduceLeDiff,reduceMul,reduceEqDiff,reduceSub,reduceCtorEq,List.take_length]
         refine hK _ _ (by kernel_rfl) ?_
         simp only [mkW,lkF,reduceAdd,reduceEqDiff,if_true,if_false,reduceIte]
         refine ex_if rfl (fun hc132 => ?_) (fun hc132 => ?_)
         ·skip
          have hlast : j + 1 < T := by simpa using hc132
          refine ex_region_w tt_ok 143 [0,0,0,0,0,0,0,0,0,0,0,0,0,2,0,0,0,0,0,0,0,0,0,0,0,0,0,0,0,0,0,0,0,0,0,0,0,0,0,0,0,0,0,0,0,0,0,0,0,0,0,0,0,0,0,0,0,0,0,0,0,0,0,0,0,0,0,0,0,0,0,0,0,0,0,0,0,0,0,0,0,0,0,0,0,0,0,0,0,0,0,0,0,0,0,0,0,0,0,0,0,0,0,0,0,0,0,0,0,0,0,0,0,0,0,0,0,0,0,0,0,0,0,0,0,0,0,0,0,0,0,0,0,1,1,1,1,1] [] (by kernel_rfl) (by kernel_rfl) fun K hK => ?_
          try simp only [ltb]
          refine runX_cut 5 fun K1 hK1 => ?_
          simp only [ltb]
          simp only [hixt0,hixt1,hixs0,hwj1,hwjn,hixs1,hcm1,hcf1,hwf,sl,e4,hG,hw1,hw2,toVal,go_sem,reduceIte,reduceAdd,reduceLT,reduceLeDiff,reduceMul,reduceEqDiff,reduceSub,reduceCtorEq,List.take_length]
          refine callF_ex (rk_tot _ _ (by have := size_ext (s := s) (a := (j + 1 : Int).toNat) (b := s.size); omega) ht (by have := size_ext (s := s) (a := (j + 1 : Int).toNat) (b := s.size); omega)) ?_
          rintro _ ⟨r8, rfl⟩
          try simp only [hixt0,hixt1,hixs0,hwj1,hwjn,hixs1,hcm1,hcf1,hwf,sl,e4,hG,hw1,hw2,toVal,go_sem,reduceIte,reduceAdd,reduceLT,reduceLeDiff,reduceMul,reduceEqDiff,reduceSub,reduceCtorEq,List.take_length]
          refine hK1 _ ?_
          try simp only [ltb]
          simp only [hixt0,hixt1,hixs0,hwj1,hwjn,hixs1,hcm1,hcf1,hwf,sl,e4,hG,hw1,hw2,toVal,go_sem,reduceIte,reduceAdd,reduceLT,reduceLeDiff,reduceMul,reduceEqDiff,reduceSub,reduceCtorEq,List.take_length]
          refine hK _ _ (by kernel_rfl) ?_
          simp only [mkW,lkF,reduceAdd,reduceEqDiff,if_true,if_false,reduceIte]
          refine ex_seq ?_
          refine ex_region_w tt_ok 143 [0,0,0,0,0,0,0,0,0,0,0,0,0,0,0,0,0,0,0,0,0,0,0,0,0,0,0,0,0,0,0,0,0,0,0,0,0,0,0,0,0,0,0,0,0,0,0,0,0,0,0,0,0,0,0,0,0,0,0,0,0,0,0,0,0,0,0,0,0,0,0,0,0,0,0,0,0,0,0,0,0,0,0,0,0,0,0,0,0,0,0,0,0,0,0,0,0,0,0,0,0,0,0,0,0,0,0,0,0,0,0,0,0,0,0,0,0,0,0,0,0,0,0,0,0,0,0,0,0,0,0,0,0,0,0,0,0,0,1,2] [] (by kernel_rfl) (by kernel_rfl) fun K hK => ?_
          try simp only [ltb]
          try simp only [ltb]
          simp only [hixt0,hixt1,hixs0,hwj1,hwjn,hixs1,hcm1,hcf1,hwf,sl,e4,hG,hw1,hw2,toVal,go_sem,reduceIte,reduceAdd,reduceLT,reduceLeDiff,reduceMul,reduceEqDiff,reduceSub,reduceCtorEq,List.take_length]
          refine hK _ _ (by kernel_rfl) ?_
          simp only [mkW,lkF,reduceAdd,reduceEqDiff,if_true,if_false,reduceIte]
          refine ex_if rfl (fun hc139 => ?_) (fun hc139 => ?_)
          ·skip
           refine ex_region_w tt_ok 143 [0,0,0,0,2] [] (by kernel_rfl) (by kernel_rfl) fun K hK => ?_
           try simp only [ltb]
           try simp only [ltb]
           simp only [hixt0,hixt1,hixs0,hwj1,hwjn,hixs1,hcm1,hcf1,hwf,sl,e4,hG,hw1,hw2,toVal,go_sem,reduceIte,reduceAdd,reduceLT,reduceLeDiff,reduceMul,reduceEqDiff,reduceSub,reduceCtorEq,List.take_length]
           refine hK _ _ (by kernel_rfl) ?_
           simp only [mkW,lkF,reduceAdd,reduceEqDiff,if_true,if_false,reduceIte]
           refine ex_ret ?_
           exact ⟨.inl rfl, _, ⟨_, rfl⟩, rfl⟩
          ·skip
           refine ex_skip ?_
           show Go.Eng.Ex _ _ _ _ _ _
           refine ex_region_w tt_ok 143 [0,0,0,0,2,0,0,0,0,0,0,0,0,0,0,0,0,0,0,0,0,0,0,0,0,0,0,0,0,0,0,0,0,0,0,0,0,0,0,0,0,0,0,0,0,0,0,0,0,0,0,0,0,0,0,0,0,0,0,0,0,0,0,0,0,0,0,0,0,0,0,0,0,0,0,0,0,0,0,0,0,0,0,0,0,0,0,0,0,0,0,0,0,0,0,0,0,0,0,0,0,0,0,0,0,0,0,0,0,0,0,0,0,0,0,0,0,0,0,0,0,0,0,0,0,0,0,0,0,0,0,0,0,0,0,0,0,0,0,0,1,1,1] [] (by kernel_rfl) (by kernel_rfl) fun K hK => ?_
           try simp only [ltb]
           try simp only [ltb]
           simp only [hixt0,hixt1,hixs0,hwj1,hwjn,hixs1,hcm1,hcf1,hwf,sl,e4,hG,hw1,hw2,toVal,go_sem,reduceIte,reduceAdd,reduceLT,reduceLeDiff,reduceMul,reduceEqDiff,reduceSub,reduceCtorEq,List.take_length]
           refine hK _ _ (by kernel_rfl) ?_
           simp only [mkW,lkF,reduceAdd,reduceEqDiff,if_true,if_false,reduceIte]
           refine ex_ret ?_
           exact ⟨.inl rfl, _, ⟨_, rfl⟩, rfl⟩
         ·skip
          refine ex_skip ?_
          refine ⟨[_, _], ?_, ?_, 0, [true,true,false,false,true,true,true,true,true,true,true,false,false,false,false,false,true,false,false,false,false,false,false,false,true,false,false,false,false,false,false,true,false,false,false,false,true], by omega, by simp only [maskFr,belowV,belowL,belowB,reduceLT,mkb], by simp only [maskFr,belowV,belowL,belowB,reduceLT,mkb], by simp only [maskFr,belowV,belowL,belowB,reduceLT,mkb,putAll,List.set_cons_zero,List.set_cons_succ]; rfl⟩
          ·exact ⟨j + 1, f + 1, rfl, by omega, by omega, by omega, by omega⟩
          ·simp only [intOf,List.headD_cons]; omega
      ·skip
       refine runX_cut 3 fun K1 hK1 => ?_
       simp only [ltb]
       simp only [hixt0,hixt1,hixs0,hwj1,hwjn,hixs1,hcm1,hcf1,hwf,sl,e4,hG,hw1,hw2,toVal,go_sem,reduceIte,reduceAdd,reduceLT,reduceLeDiff,reduceMul,reduceEqDiff,reduceSub,reduceCtorEq,List.take_length]
       refine callF_ex (cutover_tot _) ?_
       rintro _ ⟨r9, rfl⟩
       try simp only [hixt0,hixt1,hixs0,hwj1,hwjn,hixs1,hcm1,hcf1,hwf,sl,e4,hG,hw1,hw2,toVal,go_sem,reduceIte,reduceAdd,reduceLT,reduceLeDiff,reduceMul,reduceEqDiff,reduceSub,reduceCtorEq,List.take_length]
       refine hK1 _ ?_
       try simp only [ltb]
       simp only [hixt0,hixt1,hixs0,hwj1,hwjn,hixs1,hcm1,hcf1,hwf,sl,e4,hG,hw1,hw2,toVal,go_sem,reduceIte,reduceAdd,reduceLT,reduceLeDiff,reduceMul,reduceEqDiff,reduceSub,reduceCtorEq,List.take_length]
       refine hK _ _ (by kernel_rfl) ?_
       simp only [mkW,lkF,reduceAdd,reduceEqDiff,if_true,if_false,reduceIte]
       refine ex_if rfl (fun hc107 => ?_) (fun hc107 => ?_)
       ·skip
        refine ex_region_w tt_ok 143 [0,0,0,0,0,0,0,0,0,0,0,0,2,0,0,0,0,0,0,0,0,0,0,0,0,0,0,0,0,0,0,0,0,0,0,0,0,0,0,0,0,0,0,0,0,0,0,0,0,0,0,0,0,0,0,0,0,0,0,0,0,0,0,0,0,0,0,0,0,0,0,0,0,0,0,0,0,0,0,0,0,0,0,0,0,0,0,0,0,0,0,0,0,0,0,0,0,0,0,0,0,0,0,0,0,0,0,0,1,1,1,1,1] [] (by kernel_rfl) (by kernel_rfl) fun K hK => ?_
        try simp only [ltb]
        refine runX_cut 5 fun K1 hK1 => ?_
        simp only [ltb]
        simp only [hixt0,hixt1,hixs0,hwj1,hwjn,hixs1,hcm1,hcf1,hwf,sl,e4,hG,hw1,hw2,toVal,go_sem,reduceIte,reduceAdd,reduceLT,reduceLeDiff,reduceMul,reduceEqDiff,reduceSub,reduceCtorEq,List.take_length]
        refine callF_nat (idxStr_nat hG _ _ ht2 hb25_3 (by have := size_ext (s := s) (a := (j + 1 : Int).toNat) (b := s.size); omega)) ?_
        rintro _ ⟨r10, rfl⟩
        try simp only [hixt0,hixt1,hixs0,hwj1,hwjn,hixs1,hcm1,hcf1,hwf,sl,e4,hG,hw1,hw2,toVal,go_sem,reduceIte,reduceAdd,reduceLT,reduceLeDiff,reduceMul,reduceEqDiff,reduceSub,reduceCtorEq,List.take_length]
        refine hK1 _ ?_
        try simp only [ltb]
        simp only [hixt0,hixt1,hixs0,hwj1,hwjn,hixs1,hcm1,hcf1,hwf,sl,e4,hG,hw1,hw2,toVal,go_sem,reduceIte,reduceAdd,reduceLT,reduceLeDiff,reduceMul,reduceEqDiff,reduceSub,reduceCtorEq,List.take_length]
        refine hK _ _ (by kernel_rfl) ?_
        simp only [mkW,lkF,reduceAdd,reduceEqDiff,if_true,if_false,reduceIte]
        refine ex_seq ?_
        refine ex_region_w tt_ok 143 [0,0,0,0,0,0,0,0,0,0,0,0,0,0,0,0,0,0,0,0,0,0,0,0,0,0,0,0,0,0,0,0,0,0,0,0,0,0,0,0,0,0,0,0,0,0,0,0,0,0,0,0,0,0,0,0,0,0,0,0,0,0,0,0,0,0,0,0,0,0,0,0,0,0,0,0,0,0,0,0,0,0,0,0,0,0,0,0,0,0,0,0,0,0,0,0,0,0,0,0,0,0,0,0,0,0,0,0,0,0,0,0,0,1,2] [] (by kernel_rfl) (by kernel_rfl) fun K hK => ?_
        try simp only [ltb]
        try simp only [ltb]
        simp only [hixt0,hixt1,hixs0,hwj1,hwjn,hixs1,hcm1,hcf1,hwf,sl,e4,hG,hw1,hw2,toVal,go_sem,reduceIte,reduceAdd,reduceLT,reduceLeDiff,reduceMul,reduceEqDiff,reduceSub,reduceCtorEq,List.take_length]
        refine hK _ _ (by kernel_rfl) ?_
        simp only [mkW,lkF,reduceAdd,reduceEqDiff,if_true,if_false,reduceIte]
        refine ex_if rfl (fun hc114 => ?_) (fun hc114 => ?_)
        ·skip
         refine ex_region_w tt_ok 143 [0,0,0,0,2,0,0,0,0,0,0,0,0,0,0,0,0,0,0,0,0,0,0,0,0,0,0,0,0,0,0,0,0,0,0,0,0,0,0,0,0,0,0,0,0,0,0,0,0,0,0,0,0,0,0,0,0,0,0,0,0,0,0,0,0,0,0,0,0,0,0,0,0,0,0,0,0,0,0,0,0,0,0,0,0,0,0,0,0,0,0,0,0,0,0,0,0,0,0,0,0,0,0,0,0,0,0,0,0,0,0,0,0,0,0,1,1,1] [] (by kernel_rfl) (by kernel_rfl) fun K hK => ?_
         try simp only [ltb]
         try simp only [ltb]
         simp only [hixt0,hixt1,hixs0,hwj1,hwjn,hixs1,hcm1,hcf1,hwf,sl,e4,hG,hw1,hw2,toVal,go_sem,reduceIte,reduceAdd,reduceLT,reduceLeDiff,reduceMul,reduceEqDiff,reduceSub,reduceCtorEq,List.take_length]
         refine hK _ _ (by kernel_rfl) ?_
         simp only [mkW,lkF,reduceAdd,reduceEqDiff,if_true,if_false,reduceIte]
         refine ex_ret ?_
         exact ⟨.inl rfl, _, ⟨_, rfl⟩, rfl⟩
        ·skip
         refine ex_skip ?_
         show Go.Eng.Ex _ _ _ _ _ _
         refine ex_region_w tt_ok 143 [0,0,0,0,2] [] (by kernel_rfl) (by kernel_rfl) fun K hK => ?_
         try simp only [ltb]
         try simp only [ltb]
         simp only [hixt0,hixt1,hixs0,hwj1,hwjn,hixs1,hcm1,hcf1,hwf,sl,e4,hG,hw1,hw2,toVal,go_sem,reduceIte,reduceAdd,reduceLT,reduceLeDiff,reduceMul,reduceEqDiff,reduceSub,reduceCtorEq,List.take_length]
         refine hK _ _ (by kernel_rfl) ?_
         simp only [mkW,lkF,reduceAdd,reduceEqDiff,if_true,if_false,reduceIte]
         refine ex_ret ?_
         exact ⟨.inl rfl, _, ⟨_, rfl⟩, rfl⟩
       ·skip
        refine ex_region_w tt_ok 143 [0,0,0,0,0,0,0,0,0,0,0,0,0,0,0,0,0,0,0,0,0,0,0,0,0,0,0,0,0,0,0,0,0,0,0,0,0,0,0,0,0,0,0,0,0,0,0,0,0,0,0,0,0,0,0,0,0,0,0,0,0,0,0,0,0,0,0,0,0,0,0,0,0,0,0,0,0,0,0,0,0,0,0,0,0,0,0,0,0,0,0,0,0,0,0,0,0,0,0,0,0,0,0,0,0,0,0,0,0,0,0,0,0,0,0,0,0,0,1,1,1,1,1,1,1,1,1,1,1,1,1,1,2] [(3, 121), (10, 128)] (by kernel_rfl) (by kernel_rfl) fun K hK => ?_
        try simp only [ltb]
        refine runX_cut 4 fun K1 hK1 => ?_
        simp only [ltb]
        simp only [hixt0,hixt1,hixs0,hwj1,hwjn,hixs1,hcm1,hcf1,hwf,sl,e4,hG,hw1,hw2,toVal,go_sem,reduceIte,reduceAdd,reduceLT,reduceLeDiff,reduceMul,reduceEqDiff,reduceSub,reduceCtorEq,List.take_length]
        refine hK1 _ ?_
        refine runX_case 121 (by rfl) fun b hb30_3 => ?_
        cases b
        ·skip
         refine runX_cut 8 fun K1 hK1 => ?_
         simp only [ltb]
         simp only [hixt0,hixt1,hixs0,hwj1,hwjn,hixs1,hcm1,hcf1,hwf,sl,e4,hG,hw1,hw2,toVal,go_sem,reduceIte,reduceAdd,reduceLT,reduceLeDiff,reduceMul,reduceEqDiff,reduceSub,reduceCtorEq,List.take_length]
         refine hK1 _ ?_
         try simp only [ltb]
         simp only [hixt0,hixt1,hixs0,hwj1,hwjn,hixs1,hcm1,hcf1,hwf,sl,e4,hG,hw1,hw2,toVal,go_sem,reduceIte,reduceAdd,reduceLT,reduceLeDiff,reduceMul,reduceEqDiff,reduceSub,reduceCtorEq,List.take_length]
         refine hK _ _ (by kernel_rfl) ?_
         simp only [mkW,lkF,reduceAdd,reduceEqDiff,if_true,if_false,reduceIte]
         refine ex_cond rfl ?_
         refine ex_skip ?_
         refine ⟨[_, _], ?_, ?_, 0, [true,true,false,false,true,true,true,true,true,true,true,false,false,false,false,false,true,false,false,false,false,false,false,false,true,false,false,false,false,false,false,true,false,false,false,false,true], by omega, by simp only [maskFr,belowV,belowL,belowB,reduceLT,mkb], by simp only [maskFr,belowV,belowL,belowB,reduceLT,mkb], by simp only [maskFr,belowV,belowL,belowB,reduceLT,mkb,putAll,List.set_cons_zero,List.set_cons_succ]; rfl⟩
         ·exact ⟨j + 1, f + 1, rfl, by omega, by omega, by omega, by omega⟩
         ·simp only [intOf,List.headD_cons]; omega
        ·skip
         refine runX_cut 7 fun K1 hK1 => ?_
         simp only [ltb]
         simp only [hixt0,hixt1,hixs0,hwj1,hwjn,hixs1,hcm1,hcf1,hwf,sl,e4,hG,hw1,hw2,toVal,go_sem,reduceIte,reduceAdd,reduceLT,reduceLeDiff,reduceMul,reduceEqDiff,reduceSub,reduceCtorEq,List.take_length]
         refine hK1 _ ?_
         refine runX_case 128 (by rfl) fun b hb30_10 => ?_
         cases b
         ·skip
          try simp only [ltb]
          simp only [hixt0,hixt1,hixs0,hwj1,hwjn,hixs1,hcm1,hcf1,hwf,sl,e4,hG,hw1,hw2,toVal,go_sem,reduceIte,reduceAdd,reduceLT,reduceLeDiff,reduceMul,reduceEqDiff,reduceSub,reduceCtorEq,List.take_length]
          refine hK _ _ (by kernel_rfl) ?_
          simp only [mkW,lkF,reduceAdd,reduceEqDiff,if_true,if_false,reduceIte]
          refine ex_cond rfl ?_
          refine ex_skip ?_
          refine ⟨[_, _], ?_, ?_, 0, [true,true,false,false,true,true,true,true,true,true,true,false,false,false,false,false,true,false,false,false,false,false,false,false,true,false,false,false,false,false,false,true,false,false,false,false,true], by omega, by simp only [maskFr,belowV,belowL,belowB,reduceLT,mkb], by simp only [maskFr,belowV,belowL,belowB,reduceLT,mkb], by simp only [maskFr,belowV,belowL,belowB,reduceLT,mkb,putAll,List.set_cons_zero,List.set_cons_succ]; rfl⟩
          ·exact ⟨j + 1, f + 1, rfl, by omega, by omega, by omega, by omega⟩
          ·simp only [intOf,List.headD_cons]; omega
         ·skip
          try simp only [ltb]
          simp only [hixt0,hixt1,hixs0,hwj1,hwjn,hixs1,hcm1,hcf1,hwf,sl,e4,hG,hw1,hw2,toVal,go_sem,reduceIte,reduceAdd,reduceLT,reduceLeDiff,reduceMul,reduceEqDiff,reduceSub,reduceCtorEq,List.take_length]
          refine hK _ _ (by kernel_rfl) ?_
          simp only [mkW,lkF,reduceAdd,reduceEqDiff,if_true,if_false,reduceIte]
          refine ex_if rfl (fun hc132 => ?_) (fun hc132 => ?_)
          ·skip
           have hlast : j + 1 < T := by simpa using hc132
           refine ex_region_w tt_ok 143 [0,0,0,0,0,0,0,0,0,0,0,0,0,2,0,0,0,0,0,0,0,0,0,0,0,0,0,0,0,0,0,0,0,0,0,0,0,0,0,0,0,0,0,0,0,0,0,0,0,0,0,0,0,0,0,0,0,0,0,0,0,0,0,0,0,0,0,0,0,0,0,0,0,0,0,0,0,0,0,0,0,0,0,0,0,0,0,0,0,0,0,0,0,0,0,0,0,0,0,0,0,0,0,0,0,0,0,0,0,0,0,0,0,0,0,0,0,0,0,0,0,0,0,0,0,0,0,0,0,0,0,0,0,1,1,1,1,1] [] (by kernel_rfl) (by kernel_rfl) fun K hK => ?_
           try simp only [ltb]
           refine runX_cut 5 fun K1 hK1 => ?_
           simp only [ltb]
           simp only [hixt0,hixt1,hixs0,hwj1,hwjn,hixs1,hcm1,hcf1,hwf,sl,e4,hG,hw1,hw2,toVal,go_sem,reduceIte,reduceAdd,reduceLT,reduceLeDiff,reduceMul,reduceEqDiff,reduceSub,reduceCtorEq,List.take_length]
           refine callF_ex (rk_tot _ _ (by have := size_ext (s := s) (a := (j + 1 : Int).toNat) (b := s.size); omega) ht (by have := size_ext (s := s) (a := (j + 1 : Int).toNat) (b := s.size); omega)) ?_
           rintro _ ⟨r11, rfl⟩
           try simp only [hixt0,hixt1,hixs0,hwj1,hwjn,hixs1,hcm1,hcf1,hwf,sl,e4,hG,hw1,hw2,toVal,go_sem,reduceIte,reduceAdd,reduceLT,reduceLeDiff,reduceMul,reduceEqDiff,reduceSub,reduceCtorEq,List.take_length]
           refine hK1 _ ?_
           try simp only [ltb]
           simp only [hixt0,hixt1,hixs0,hwj1,hwjn,hixs1,hcm1,hcf1,hwf,sl,e4,hG,hw1,hw2,toVal,go_sem,reduceIte,reduceAdd,reduceLT,reduceLeDiff,reduceMul,reduceEqDiff,reduceSub,reduceCtorEq,List.take_length]
           refine hK _ _ (by kernel_rfl) ?_
           simp only [mkW,lkF,reduceAdd,reduceEqDiff,if_true,if_false,reduceIte]
           refine ex_seq ?_
           refine ex_region_w tt_ok 143 [0,0,0,0,0,0,0,0,0,0,0,0,0,0,0,0,0,0,0,0,0,0,0,0,0,0,0,0,0,0,0,0,0,0,0,0,0,0,0,0,0,0,0,0,0,0,0,0,0,0,0,0,0,0,0,0,0,0,0,0,0,0,0,0,0,0,0,0,0,0,0,0,0,0,0,0,0,0,0,0,0,0,0,0,0,0,0,0,0,0,0,0,0,0,0,0,0,0,0,0,0,0,0,0,0,0,0,0,0,0,0,0,0,0,0,0,0,0,0,0,0,0,0,0,0,0,0,0,0,0,0,0,0,0,0,0,0,0,1,2] [] (by kernel_rfl) (by kernel_rfl) fun K hK => ?_
           try simp only [ltb]
           try simp only [ltb]
           simp only [hixt0,hixt1,hixs0,hwj1,hwjn,hixs1,hcm1,hcf1,hwf,sl,e4,hG,hw1,hw2,toVal,go_sem,reduceIte,reduceAdd,reduceLT,reduceLeDiff,reduceMul,reduceEqDiff,reduceSub,reduceCtorEq,List.take_length]
           refine hK _ _ (by kernel_rfl) ?_
           simp only [mkW,lkF,reduceAdd,reduceEqDiff,if_true,if_false,reduceIte]
           refine ex_if rfl (fun hc139 => ?_) (fun hc139 => ?_)
           ·skip
            refine ex_region_w tt_ok 143 [0,0,0,0,2] [] (by kernel_rfl) (by kernel_rfl) fun K hK => ?_
            try simp only [ltb]
            try simp only [ltb]
            simp only [hixt0,hixt1,hixs0,hwj1,hwjn,hixs1,hcm1,hcf1,hwf,sl,e4,hG,hw1,hw2,toVal,go_sem,reduceIte,reduceAdd,reduceLT,reduceLeDiff,reduceMul,reduceEqDiff,reduceSub,reduceCtorEq,List.take_length]
            refine hK _ _ (by kernel_rfl) ?_
            simp only [mkW,lkF,reduceAdd,reduceEqDiff,if_true,if_false,reduceIte]
            refine ex_ret ?_
            exact ⟨.inl rfl, _, ⟨_, rfl⟩, rfl⟩
           ·skip
            refine ex_skip ?_
            show Go.Eng.Ex _ _ _ _ _ _
            refine ex_region_w tt_ok 143 [0,0,0,0,2,0,0,0,0,0,0,0,0,0,0,0,0,0,0,0,0,0,0,0,0,0,0,0,0,0,0,0,0,0,0,0,0,0,0,0,0,0,0,0,0,0,0,0,0,0,0,0,0,0,0,0,0,0,0,0,0,0,0,0,0,0,0,0,0,0,0,0,0,0,0,0,0,0,0,0,0,0,0,0,0,0,0,0,0,0,0,0,0,0,0,0,0,0,0,0,0,0,0,0,0,0,0,0,0,0,0,0,0,0,0,0,0,0,0,0,0,0,0,0,0,0,0,0,0,0,0,0,0,0,0,0,0,0,0,0,1,1,1] [] (by kernel_rfl) (by kernel_rfl) fun K hK => ?_
            try simp only [ltb]
            try simp only [ltb]
            simp only [hixt0,hixt1,hixs0,hwj1,hwjn,hixs1,hcm1,hcf1,hwf,sl,e4,hG,hw1,hw2,toVal,go_sem,reduceIte,reduceAdd,reduceLT,reduceLeDiff,reduceMul,reduceEqDiff,reduceSub,reduceCtorEq,List.take_length]
            refine hK _ _ (by kernel_rfl) ?_
            simp only [mkW,lkF,reduceAdd,reduceEqDiff,if_true,if_false,reduceIte]
            refine ex_ret ?_
            exact ⟨.inl rfl, _, ⟨_, rfl⟩, rfl⟩
          ·skip
           refine ex_skip ?_
           refine ⟨[_, _], ?_, ?_, 0, [true,true,false,false,true,true,true,true,true,true,true,false,false,false,false,false,true,false,false,false,false,false,false,false,true,false,false,false,false,false,false,true,false,false,false,false,true], by omega, by simp only [maskFr,belowV,belowL,belowB,reduceLT,mkb], by simp only [maskFr,belowV,belowL,belowB,reduceLT,mkb], by simp only [maskFr,belowV,belowL,belowB,reduceLT,mkb,putAll,List.set_cons_zero,List.set_cons_succ]; rfl⟩
           ·exact ⟨j + 1, f + 1, rfl, by omega, by omega, by omega, by omega⟩
           ·simp only [intOf,List.headD_cons]; omega
  ·skip
   refine ex_exit ?_
   show Go.Eng.Ex _ _ _ _ _ _
   refine ex_region_w tt_ok 143 [0,0,0,0,2] [] (by kernel_rfl) (by kernel_rfl) fun K hK => ?_
   try simp only [ltb]
   try simp only [ltb]
   simp only [hixt0,hixt1,sl,e4,hG,hw1,hw2,toVal,go_sem,reduceIte,reduceAdd,reduceLT,reduceLeDiff,reduceMul,reduceEqDiff,reduceSub,reduceCtorEq,List.take_length]
   refine hK _ _ (by kernel_rfl) ?_
   simp only [mkW,lkF,reduceAdd,reduceEqDiff,if_true,if_false,reduceIte]
   refine ex_ret ?_
   exact ⟨.inl rfl, _, ⟨_, rfl⟩, rfl⟩
end Go.Proofs.YtpjdfcigadnhcaaGreatDoor
end

section
namespace Go.Proofs.YtpjdfcigadnhcaaGreatDoor
open Go.Eng
open Nat (reduceAdd reduceLT reduceLeDiff reduceMul reduceEqDiff reduceSub)
variable [Glob]
set_option maxHeartbeats 4000000
set_option maxRecDepth 100000
attribute [local irreducible] runM stepM valD stepOp stepD callF
theorem sindex_tot (hG : Glob.g = some 0) (s t : ByteArray) (hs : s.size ≤ 1048576) (ht : t.size ≤ 1048576) : ∃ r, isN r ∧ FnOk Tryz.prog 184 [str s, str t] r := by
 refine fn_ex tt_ok (fn := Tryz.f184) Tryz.func184 rfl Tryz.call184 ?_
 simp only [startSt,Tryz.ntmps184,List.length_cons,List.length_nil,reduceAdd,reduceSub,List.replicate_succ,List.replicate_zero,List.cons_append,List.nil_append]
 refine ex_region_w tt_ok 8 [0,0,0,0,2] [] (by kernel_rfl) (by kernel_rfl) fun K hK => ?_
 try simp only [ltb]
 try simp only [ltb]
 simp only [go_sem,reduceIte,reduceAdd,reduceLT,reduceLeDiff,reduceMul,reduceEqDiff,reduceSub,reduceCtorEq,List.take_length]
 refine hK _ _ (by kernel_rfl) ?_
 simp only [mkW,lkF,reduceAdd,reduceEqDiff,if_true,if_false,reduceIte]
 refine ex_region_w tt_ok 8 [0,0,0,0,2,1,1,1] [] (by kernel_rfl) (by kernel_rfl) fun K hK => ?_
 try simp only [ltb]
 refine runX_cut 3 fun K1 hK1 => ?_
 simp only [ltb]
 simp only [go_sem,reduceIte,reduceAdd,reduceLT,reduceLeDiff,reduceMul,reduceEqDiff,reduceSub,reduceCtorEq,List.take_length]
 refine callF_ex (index_tot hG _ _ hs ht) ?_
 rintro _ ⟨r1, rfl⟩
 try simp only [go_sem,reduceIte,reduceAdd,reduceLT,reduceLeDiff,reduceMul,reduceEqDiff,reduceSub,reduceCtorEq,List.take_length]
 refine hK1 _ ?_
 try simp only [ltb]
 simp only [go_sem,reduceIte,reduceAdd,reduceLT,reduceLeDiff,reduceMul,reduceEqDiff,reduceSub,reduceCtorEq,List.take_length]
 refine hK _ _ (by kernel_rfl) ?_
 simp only [mkW,lkF,reduceAdd,reduceEqDiff,if_true,if_false,reduceIte]
 refine ex_ret ?_
 exact ⟨.inl rfl, _, ⟨_, rfl⟩, rfl⟩
theorem contains_tot (hG : Glob.g = some 0) (s t : ByteArray) (hs : s.size ≤ 1048576) (ht : t.size ≤ 1048576) : ∃ r, isB r ∧ FnOk Tryz.prog 152 [str s, str t] r := by
 refine fn_ex tt_ok (fn := Tryz.f152) Tryz.func152 rfl Tryz.call152 ?_
 simp only [startSt,Tryz.ntmps152,List.length_cons,List.length_nil,reduceAdd,reduceSub,List.replicate_succ,List.replicate_zero,List.cons_append,List.nil_append]
 refine ex_region_w tt_ok 9 [0,0,0,0,2] [] (by kernel_rfl) (by kernel_rfl) fun K hK => ?_
 try simp only [ltb]
 try simp only [ltb]
 simp only [go_sem,reduceIte,reduceAdd,reduceLT,reduceLeDiff,reduceMul,reduceEqDiff,reduceSub,reduceCtorEq,List.take_length]
 refine hK _ _ (by kernel_rfl) ?_
 simp only [mkW,lkF,reduceAdd,reduceEqDiff,if_true,if_false,reduceIte]
 refine ex_region_w tt_ok 9 [0,0,0,0,2,1,1,1,1] [] (by kernel_rfl) (by kernel_rfl) fun K hK => ?_
 try simp only [ltb]
 refine runX_cut 3 fun K1 hK1 => ?_
 simp only [ltb]
 simp only [go_sem,reduceIte,reduceAdd,reduceLT,reduceLeDiff,reduceMul,reduceEqDiff,reduceSub,reduceCtorEq,List.take_length]
 refine callF_ex (sindex_tot hG _ _ hs ht) ?_
 rintro _ ⟨r1, rfl⟩
 try simp only [go_sem,reduceIte,reduceAdd,reduceLT,reduceLeDiff,reduceMul,reduceEqDiff,reduceSub,reduceCtorEq,List.take_length]
 refine hK1 _ ?_
 try simp only [ltb]
 simp only [go_sem,reduceIte,reduceAdd,reduceLT,reduceLeDiff,reduceMul,reduceEqDiff,reduceSub,reduceCtorEq,List.take_length]
 refine hK _ _ (by kernel_rfl) ?_
 simp only [mkW,lkF,reduceAdd,reduceEqDiff,if_true,if_false,reduceIte]
 refine ex_ret ?_
 exact ⟨.inl rfl, _, ⟨_, rfl⟩, rfl⟩
theorem keyword_tot (hG : Glob.g = some 0) (s : ByteArray) (hs : s.size ≤ 1000000) : ∃ r, isB r ∧ FnOk Tryz.prog 149 [str s] r := by
 refine fn_ex tt_ok (fn := Tryz.f149) Tryz.func149 rfl Tryz.call149 ?_
 simp only [startSt,Tryz.ntmps149,List.length_cons,List.length_nil,reduceAdd,reduceSub,List.replicate_succ,List.replicate_zero,List.cons_append,List.nil_append]
 have sa1 := fun x y => ev_sadd Tryz.prog 9 x y ⟨#[32]⟩ s (by rw [show (⟨#[32]⟩ : ByteArray).size = 1 from rfl, show IntKind.i64.max = 9223372036854775807 from rfl]; omega)
 have sa2 := fun x y => ev_sadd Tryz.prog 9 x y (⟨#[32]⟩ ++ s) ⟨#[32]⟩ (by rw [ByteArray.size_append, show (⟨#[32]⟩ : ByteArray).size = 1 from rfl, show IntKind.i64.max = 9223372036854775807 from rfl]; omega)
 refine ex_region_w tt_ok 7 [0,0,2] [] (by kernel_rfl) (by kernel_rfl) fun K hK => ?_
 try simp only [ltb]
 try simp only [ltb]
 simp only [sa1,sa2,go_sem,reduceIte,reduceAdd,reduceLT,reduceLeDiff,reduceMul,reduceEqDiff,reduceSub,reduceCtorEq,List.take_length]
 refine hK _ _ (by kernel_rfl) ?_
 simp only [mkW,lkF,reduceAdd,reduceEqDiff,if_true,if_false,reduceIte]
 refine ex_region_w tt_ok 7 [0,0,2,1,1,1,1] [] (by kernel_rfl) (by kernel_rfl) fun K hK => ?_
 try simp only [ltb]
 refine runX_cut 4 fun K1 hK1 => ?_
 simp only [ltb]
 simp only [sa1,sa2,go_sem,reduceIte,reduceAdd,reduceLT,reduceLeDiff,reduceMul,reduceEqDiff,reduceSub,reduceCtorEq,List.take_length]
 refine callF_ex (contains_tot hG _ _ (by decide) (by rw [ByteArray.size_append, ByteArray.size_append, show (⟨#[32]⟩ : ByteArray).size = 1 from rfl]; omega)) ?_
 rintro _ ⟨r1, rfl⟩
 try simp only [sa1,sa2,go_sem,reduceIte,reduceAdd,reduceLT,reduceLeDiff,reduceMul,reduceEqDiff,reduceSub,reduceCtorEq,List.take_length]
 refine hK1 _ ?_
 try simp only [ltb]
 simp only [sa1,sa2,go_sem,reduceIte,reduceAdd,reduceLT,reduceLeDiff,reduceMul,reduceEqDiff,reduceSub,reduceCtorEq,List.take_length]
 refine hK _ _ (by kernel_rfl) ?_
 simp only [mkW,lkF,reduceAdd,reduceEqDiff,if_true,if_false,reduceIte]
 refine ex_ret ?_
 exact ⟨.inl rfl, _, ⟨_, rfl⟩, rfl⟩
theorem isName_tot (hG : Glob.g = some 0) (s : ByteArray) : ∃ r, isB r ∧ FnOk Tryz.prog 99 [str s] r := by
 refine fn_ex tt_ok (fn := Tryz.f99) Tryz.func99 rfl Tryz.call99 ?_
 simp only [startSt,Tryz.ntmps99,List.length_cons,List.length_nil,reduceAdd,reduceSub,List.replicate_succ,List.replicate_zero,List.cons_append,List.nil_append]
 have hT9 : Tryz.prog.underlying 9 = some .string := by kernel_rfl
 have sl : ∀ (a : ByteArray) (ty : TypeId), liftL Tryz.prog (Builtin.len_ #[9] ty) [.sc (.string a)] = some (num a.size) := fun a ty => ev_slen (P := Tryz.prog) (tt := tt) (T := 9) a hT9 ty
 refine ex_region_w tt_ok 24 [0,0,2] [] (by kernel_rfl) (by kernel_rfl) fun K hK => ?_
 try simp only [ltb]
 try simp only [ltb]
 simp only [sl,go_sem,reduceIte,reduceAdd,reduceLT,reduceLeDiff,reduceMul,reduceEqDiff,reduceSub,reduceCtorEq,List.take_length]
 refine hK _ _ (by kernel_rfl) ?_
 simp only [mkW,lkF,reduceAdd,reduceEqDiff,if_true,if_false,reduceIte]
 refine ex_region_w tt_ok 24 [0,0,2,1,1,1,1,1,1,1,1,1,1,1,1,1,1,1,1,1,1,1,1,1] [(2, 5), (7, 10), (12, 15), (16, 19)] (by kernel_rfl) (by kernel_rfl) fun K hK => ?_
 try simp only [ltb]
 refine runX_cut 3 fun K1 hK1 => ?_
 simp only [ltb]
 simp only [sl,go_sem,reduceIte,reduceAdd,reduceLT,reduceLeDiff,reduceMul,reduceEqDiff,reduceSub,reduceCtorEq,List.take_length]
 refine hK1 _ ?_
 refine runX_case 5 (by rfl) fun b hb1_2 => ?_
 cases b
 ·skip
  refine runX_cut 8 fun K1 hK1 => ?_
  simp only [ltb]
  simp only [sl,go_sem,reduceIte,reduceAdd,reduceLT,reduceLeDiff,reduceMul,reduceEqDiff,reduceSub,reduceCtorEq,List.take_length]
  refine hK1 _ ?_
  refine runX_cut 8 fun K1 hK1 => ?_
  simp only [ltb]
  simp only [sl,go_sem,reduceIte,reduceAdd,reduceLT,reduceLeDiff,reduceMul,reduceEqDiff,reduceSub,reduceCtorEq,List.take_length]
  refine hK1 _ ?_
  try simp only [ltb]
  simp only [sl,go_sem,reduceIte,reduceAdd,reduceLT,reduceLeDiff,reduceMul,reduceEqDiff,reduceSub,reduceCtorEq,List.take_length]
  refine hK _ _ (by kernel_rfl) ?_
  simp only [mkW,lkF,reduceAdd,reduceEqDiff,if_true,if_false,reduceIte]
  refine ex_ret ?_
  exact ⟨.inl rfl, _, ⟨_, rfl⟩, rfl⟩
 ·skip
  refine runX_cut 5 fun K1 hK1 => ?_
  simp only [ltb]
  simp only [sl,go_sem,reduceIte,reduceAdd,reduceLT,reduceLeDiff,reduceMul,reduceEqDiff,reduceSub,reduceCtorEq,List.take_length]
  refine hK1 _ ?_
  refine runX_case 10 (by rfl) fun b hb1_7 => ?_
  cases b
  ·skip
   refine runX_cut 8 fun K1 hK1 => ?_
   simp only [ltb]
   simp only [sl,go_sem,reduceIte,reduceAdd,reduceLT,reduceLeDiff,reduceMul,reduceEqDiff,reduceSub,reduceCtorEq,List.take_length]
   refine hK1 _ ?_
   try simp only [ltb]
   simp only [sl,go_sem,reduceIte,reduceAdd,reduceLT,reduceLeDiff,reduceMul,reduceEqDiff,reduceSub,reduceCtorEq,List.take_length]
   refine hK _ _ (by kernel_rfl) ?_
   simp only [mkW,lkF,reduceAdd,reduceEqDiff,if_true,if_false,reduceIte]
   refine ex_ret ?_
   exact ⟨.inl rfl, _, ⟨_, rfl⟩, rfl⟩
  ·skip
   have hsz : s.size ≤ 1000000 := by have h1 := hb1_7; simp at h1; omega
   refine runX_cut 1 fun K1 hK1 => ?_
   simp only [ltb]
   simp only [sl,go_sem,reduceIte,reduceAdd,reduceLT,reduceLeDiff,reduceMul,reduceEqDiff,reduceSub,reduceCtorEq,List.take_length]
   refine hK1 _ ?_
   obtain ⟨c0, hcb0⟩ := ne_get rfl hb1_2
   have hix0 := ev_index (P := Tryz.prog) s hT9 .i64 0 (by omega) (c := c0) (show s[(0 : Int).toNat]? = some c0 from hcb0)
   refine runX_cut 2 fun K1 hK1 => ?_
   simp only [ltb]
   simp only [hix0,sl,go_sem,reduceIte,reduceAdd,reduceLT,reduceLeDiff,reduceMul,reduceEqDiff,reduceSub,reduceCtorEq,List.take_length]
   refine callF_ex (small_tot _) ?_
   rintro _ ⟨r1, rfl⟩
   try simp only [hix0,sl,go_sem,reduceIte,reduceAdd,reduceLT,reduceLeDiff,reduceMul,reduceEqDiff,reduceSub,reduceCtorEq,List.take_length]
   refine hK1 _ ?_
   refine runX_cut 2 fun K1 hK1 => ?_
   simp only [ltb]
   simp only [hix0,sl,go_sem,reduceIte,reduceAdd,reduceLT,reduceLeDiff,reduceMul,reduceEqDiff,reduceSub,reduceCtorEq,List.take_length]
   refine hK1 _ ?_
   refine runX_case 15 (by rfl) fun b hb1_12 => ?_
   cases b
   ·skip
    refine runX_cut 8 fun K1 hK1 => ?_
    simp only [ltb]
    simp only [hix0,sl,go_sem,reduceIte,reduceAdd,reduceLT,reduceLeDiff,reduceMul,reduceEqDiff,reduceSub,reduceCtorEq,List.take_length]
    refine hK1 _ ?_
    try simp only [ltb]
    simp only [hix0,sl,go_sem,reduceIte,reduceAdd,reduceLT,reduceLeDiff,reduceMul,reduceEqDiff,reduceSub,reduceCtorEq,List.take_length]
    refine hK _ _ (by kernel_rfl) ?_
    simp only [mkW,lkF,reduceAdd,reduceEqDiff,if_true,if_false,reduceIte]
    refine ex_ret ?_
    exact ⟨.inl rfl, _, ⟨_, rfl⟩, rfl⟩
   ·skip
    refine runX_cut 2 fun K1 hK1 => ?_
    simp only [ltb]
    simp only [hix0,sl,go_sem,reduceIte,reduceAdd,reduceLT,reduceLeDiff,reduceMul,reduceEqDiff,reduceSub,reduceCtorEq,List.take_length]
    refine callF_ex (all_tot 120 word_tot _ (by omega)) ?_
    rintro _ ⟨r2, rfl⟩
    try simp only [hix0,sl,go_sem,reduceIte,reduceAdd,reduceLT,reduceLeDiff,reduceMul,reduceEqDiff,reduceSub,reduceCtorEq,List.take_length]
    refine hK1 _ ?_
    refine runX_cut 2 fun K1 hK1 => ?_
    simp only [ltb]
    simp only [hix0,sl,go_sem,reduceIte,reduceAdd,reduceLT,reduceLeDiff,reduceMul,reduceEqDiff,reduceSub,reduceCtorEq,List.take_length]
    refine hK1 _ ?_
    refine runX_case 19 (by rfl) fun b hb1_16 => ?_
    cases b
    ·skip
     try simp only [ltb]
     simp only [hix0,sl,go_sem,reduceIte,reduceAdd,reduceLT,reduceLeDiff,reduceMul,reduceEqDiff,reduceSub,reduceCtorEq,List.take_length]
     refine hK _ _ (by kernel_rfl) ?_
     simp only [mkW,lkF,reduceAdd,reduceEqDiff,if_true,if_false,reduceIte]
     refine ex_ret ?_
     exact ⟨.inl rfl, _, ⟨_, rfl⟩, rfl⟩
    ·skip
     refine runX_cut 2 fun K1 hK1 => ?_
     simp only [ltb]
     simp only [hix0,sl,go_sem,reduceIte,reduceAdd,reduceLT,reduceLeDiff,reduceMul,reduceEqDiff,reduceSub,reduceCtorEq,List.take_length]
     refine callF_ex (keyword_tot hG _ (by omega)) ?_
     rintro _ ⟨r3, rfl⟩
     try simp only [hix0,sl,go_sem,reduceIte,reduceAdd,reduceLT,reduceLeDiff,reduceMul,reduceEqDiff,reduceSub,reduceCtorEq,List.take_length]
     refine hK1 _ ?_
     try simp only [ltb]
     simp only [hix0,sl,go_sem,reduceIte,reduceAdd,reduceLT,reduceLeDiff,reduceMul,reduceEqDiff,reduceSub,reduceCtorEq,List.take_length]
     refine hK _ _ (by kernel_rfl) ?_
     simp only [mkW,lkF,reduceAdd,reduceEqDiff,if_true,if_false,reduceIte]
     refine ex_ret ?_
     exact ⟨.inl rfl, _, ⟨_, rfl⟩, rfl⟩
theorem variable_tot (s : ByteArray) : ∃ r, isB r ∧ FnOk Tryz.prog 33 [str s] r := by
 refine fn_ex tt_ok (fn := Tryz.f33) Tryz.func33 rfl Tryz.call33 ?_
 simp only [startSt,Tryz.ntmps33,List.length_cons,List.length_nil,reduceAdd,reduceSub,List.replicate_succ,List.replicate_zero,List.cons_append,List.nil_append]
 have hT9 : Tryz.prog.underlying 9 = some .string := by kernel_rfl
 have sl : ∀ (a : ByteArray) (ty : TypeId), liftL Tryz.prog (Builtin.len_ #[9] ty) [.sc (.string a)] = some (num a.size) := fun a ty => ev_slen (P := Tryz.prog) (tt := tt) (T := 9) a hT9 ty
 refine ex_region_w tt_ok 25 [0,0,2] [] (by kernel_rfl) (by kernel_rfl) fun K hK => ?_
 try simp only [ltb]
 try simp only [ltb]
 simp only [sl,go_sem,reduceIte,reduceAdd,reduceLT,reduceLeDiff,reduceMul,reduceEqDiff,reduceSub,reduceCtorEq,List.take_length]
 refine hK _ _ (by kernel_rfl) ?_
 simp only [mkW,lkF,reduceAdd,reduceEqDiff,if_true,if_false,reduceIte]
 refine ex_region_w tt_ok 25 [0,0,2,1,1,1,1,1,1,1,1,1,1,1,1,1,1,1,1,1,1,1,1,1,1] [(2, 5), (6, 9), (11, 14), (16, 19)] (by kernel_rfl) (by kernel_rfl) fun K hK => ?_
 try simp only [ltb]
 refine runX_cut 2 fun K1 hK1 => ?_
 simp only [ltb]
 simp only [sl,go_sem,reduceIte,reduceAdd,reduceLT,reduceLeDiff,reduceMul,reduceEqDiff,reduceSub,reduceCtorEq,List.take_length]
 refine callF_ex (isType_tot _) ?_
 rintro _ ⟨r1, rfl⟩
 try simp only [sl,go_sem,reduceIte,reduceAdd,reduceLT,reduceLeDiff,reduceMul,reduceEqDiff,reduceSub,reduceCtorEq,List.take_length]
 refine hK1 _ ?_
 refine runX_cut 1 fun K1 hK1 => ?_
 simp only [ltb]
 simp only [sl,go_sem,reduceIte,reduceAdd,reduceLT,reduceLeDiff,reduceMul,reduceEqDiff,reduceSub,reduceCtorEq,List.take_length]
 refine hK1 _ ?_
 refine runX_case 5 (by rfl) fun b hb1_2 => ?_
 cases b
 ·skip
  refine runX_cut 4 fun K1 hK1 => ?_
  simp only [ltb]
  simp only [sl,go_sem,reduceIte,reduceAdd,reduceLT,reduceLeDiff,reduceMul,reduceEqDiff,reduceSub,reduceCtorEq,List.take_length]
  refine hK1 _ ?_
  refine runX_case 9 (by rfl) fun b hb1_6 => ?_
  cases b
  ·skip
   refine runX_cut 8 fun K1 hK1 => ?_
   simp only [ltb]
   simp only [sl,go_sem,reduceIte,reduceAdd,reduceLT,reduceLeDiff,reduceMul,reduceEqDiff,reduceSub,reduceCtorEq,List.take_length]
   refine hK1 _ ?_
   try simp only [ltb]
   simp only [sl,go_sem,reduceIte,reduceAdd,reduceLT,reduceLeDiff,reduceMul,reduceEqDiff,reduceSub,reduceCtorEq,List.take_length]
   refine hK _ _ (by kernel_rfl) ?_
   simp only [mkW,lkF,reduceAdd,reduceEqDiff,if_true,if_false,reduceIte]
   refine ex_ret ?_
   exact ⟨.inl rfl, _, ⟨_, rfl⟩, rfl⟩
  ·skip
   have hz2 : s.size = 2 := by have := of_decide_eq_true hb1_6; omega
   obtain ⟨cv0, hcbv0⟩ := get_byte (s := s) (i := (0 : Int).toNat) (by omega)
   have hixv0 := ev_index (P := Tryz.prog) s hT9 .i64 (0) (by omega) (c := cv0) hcbv0
   obtain ⟨cv1, hcbv1⟩ := get_byte (s := s) (i := (1 : Int).toNat) (by omega)
   have hixv1 := ev_index (P := Tryz.prog) s hT9 .i64 (1) (by omega) (c := cv1) hcbv1
   refine runX_cut 5 fun K1 hK1 => ?_
   simp only [ltb]
   simp only [hixv0,hixv1,sl,go_sem,reduceIte,reduceAdd,reduceLT,reduceLeDiff,reduceMul,reduceEqDiff,reduceSub,reduceCtorEq,List.take_length]
   refine hK1 _ ?_
   refine runX_case 14 (by rfl) fun b hb1_11 => ?_
   cases b
   ·skip
    refine runX_cut 8 fun K1 hK1 => ?_
    simp only [ltb]
    simp only [hixv0,hixv1,sl,go_sem,reduceIte,reduceAdd,reduceLT,reduceLeDiff,reduceMul,reduceEqDiff,reduceSub,reduceCtorEq,List.take_length]
    refine hK1 _ ?_
    try simp only [ltb]
    simp only [hixv0,hixv1,sl,go_sem,reduceIte,reduceAdd,reduceLT,reduceLeDiff,reduceMul,reduceEqDiff,reduceSub,reduceCtorEq,List.take_length]
    refine hK _ _ (by kernel_rfl) ?_
    simp only [mkW,lkF,reduceAdd,reduceEqDiff,if_true,if_false,reduceIte]
    refine ex_ret ?_
    exact ⟨.inl rfl, _, ⟨_, rfl⟩, rfl⟩
   ·skip
    refine runX_cut 5 fun K1 hK1 => ?_
    simp only [ltb]
    simp only [hixv0,hixv1,sl,go_sem,reduceIte,reduceAdd,reduceLT,reduceLeDiff,reduceMul,reduceEqDiff,reduceSub,reduceCtorEq,List.take_length]
    refine hK1 _ ?_
    refine runX_case 19 (by rfl) fun b hb1_16 => ?_
    cases b
    ·skip
     try simp only [ltb]
     simp only [hixv0,hixv1,sl,go_sem,reduceIte,reduceAdd,reduceLT,reduceLeDiff,reduceMul,reduceEqDiff,reduceSub,reduceCtorEq,List.take_length]
     refine hK _ _ (by kernel_rfl) ?_
     simp only [mkW,lkF,reduceAdd,reduceEqDiff,if_true,if_false,reduceIte]
     refine ex_ret ?_
     exact ⟨.inl rfl, _, ⟨_, rfl⟩, rfl⟩
    ·skip
     try simp only [ltb]
     simp only [hixv0,hixv1,sl,go_sem,reduceIte,reduceAdd,reduceLT,reduceLeDiff,reduceMul,reduceEqDiff,reduceSub,reduceCtorEq,List.take_length]
     refine hK _ _ (by kernel_rfl) ?_
     simp only [mkW,lkF,reduceAdd,reduceEqDiff,if_true,if_false,reduceIte]
     refine ex_ret ?_
     exact ⟨.inl rfl, _, ⟨_, rfl⟩, rfl⟩
 ·skip
  refine runX_cut 8 fun K1 hK1 => ?_
  simp only [ltb]
  simp only [sl,go_sem,reduceIte,reduceAdd,reduceLT,reduceLeDiff,reduceMul,reduceEqDiff,reduceSub,reduceCtorEq,List.take_length]
  refine hK1 _ ?_
  refine runX_cut 8 fun K1 hK1 => ?_
  simp only [ltb]
  simp only [sl,go_sem,reduceIte,reduceAdd,reduceLT,reduceLeDiff,reduceMul,reduceEqDiff,reduceSub,reduceCtorEq,List.take_length]
  refine hK1 _ ?_
  try simp only [ltb]
  simp only [sl,go_sem,reduceIte,reduceAdd,reduceLT,reduceLeDiff,reduceMul,reduceEqDiff,reduceSub,reduceCtorEq,List.take_length]
  refine hK _ _ (by kernel_rfl) ?_
  simp only [mkW,lkF,reduceAdd,reduceEqDiff,if_true,if_false,reduceIte]
  refine ex_ret ?_
  exact ⟨.inl rfl, _, ⟨_, rfl⟩, rfl⟩
end Go.Proofs.YtpjdfcigadnhcaaGreatDoor
end

section
namespace Go.Proofs.YtpjdfcigadnhcaaGreatDoor
open Go.Eng
open Nat (reduceAdd reduceLT reduceLeDiff reduceMul reduceEqDiff reduceSub)
variable [Glob]
set_option maxHeartbeats 4000000
set_option maxRecDepth 100000
attribute [local irreducible] runM stepM valD stepOp stepD callF
theorem tnode1_tot (hG : Glob.g = some 0) (f : Fd) : ∃ r, isB r ∧ FnOk Tryz.prog 98 [encFd f] r := by
 refine fn_ex tt_ok (fn := Tryz.f98) Tryz.func98 rfl Tryz.call98 ?_
 simp only [startSt,Tryz.ntmps98,List.length_cons,List.length_nil,reduceAdd,reduceSub,List.replicate_succ,List.replicate_zero,List.cons_append,List.nil_append]
 simp only [encFd_eq,tyCells,List.cons_append,List.nil_append]
 refine ex_region_w tt_ok 7 [0,2,2] [] (by kernel_rfl) (by kernel_rfl) fun K hK => ?_
 try simp only [ltb]
 try simp only [ltb]
 simp only [go_sem,reduceIte,reduceAdd,reduceLT,reduceLeDiff,reduceMul,reduceEqDiff,reduceSub,reduceCtorEq,List.take_length]
 refine hK _ _ (by kernel_rfl) ?_
 simp only [mkW,lkF,reduceAdd,reduceEqDiff,if_true,if_false,reduceIte]
 refine ex_region_w tt_ok 7 [0,0,2,1,1,1,1] [] (by kernel_rfl) (by kernel_rfl) fun K hK => ?_
 try simp only [ltb]
 refine runX_cut 3 fun K1 hK1 => ?_
 simp only [ltb]
 simp only [go_sem,reduceIte,reduceAdd,reduceLT,reduceLeDiff,reduceMul,reduceEqDiff,reduceSub,reduceCtorEq,List.take_length]
 refine callF_ex (isName_tot hG _) ?_
 rintro _ ⟨r1, rfl⟩
 try simp only [go_sem,reduceIte,reduceAdd,reduceLT,reduceLeDiff,reduceMul,reduceEqDiff,reduceSub,reduceCtorEq,List.take_length]
 refine hK1 _ ?_
 try simp only [ltb]
 simp only [go_sem,reduceIte,reduceAdd,reduceLT,reduceLeDiff,reduceMul,reduceEqDiff,reduceSub,reduceCtorEq,List.take_length]
 refine hK _ _ (by kernel_rfl) ?_
 simp only [mkW,lkF,reduceAdd,reduceEqDiff,if_true,if_false,reduceIte]
 refine ex_ret ?_
 exact ⟨.inl rfl, _, ⟨_, rfl⟩, rfl⟩
theorem shaped1_tot (f : Fd) : ∃ r, isB r ∧ FnOk Tryz.prog 146 [encFd f] r := by
 refine fn_ex tt_ok (fn := Tryz.f146) Tryz.func146 rfl Tryz.call146 ?_
 simp only [startSt,Tryz.ntmps146,List.length_cons,List.length_nil,reduceAdd,reduceSub,List.replicate_succ,List.replicate_zero,List.cons_append,List.nil_append]
 simp only [encFd_eq,tyCells,List.cons_append,List.nil_append]
 refine ex_region_w tt_ok 5 [0,2,2] [] (by kernel_rfl) (by kernel_rfl) fun K hK => ?_
 try simp only [ltb]
 try simp only [ltb]
 simp only [go_sem,reduceIte,reduceAdd,reduceLT,reduceLeDiff,reduceMul,reduceEqDiff,reduceSub,reduceCtorEq,List.take_length]
 refine hK _ _ (by kernel_rfl) ?_
 simp only [mkW,lkF,reduceAdd,reduceEqDiff,if_true,if_false,reduceIte]
 refine ex_region_w tt_ok 5 [0,0,2,1,1] [] (by kernel_rfl) (by kernel_rfl) fun K hK => ?_
 try simp only [ltb]
 try simp only [ltb]
 simp only [go_sem,reduceIte,reduceAdd,reduceLT,reduceLeDiff,reduceMul,reduceEqDiff,reduceSub,reduceCtorEq,List.take_length]
 refine hK _ _ (by kernel_rfl) ?_
 simp only [mkW,lkF,reduceAdd,reduceEqDiff,if_true,if_false,reduceIte]
 refine ex_ret ?_
 exact ⟨.inl rfl, _, ⟨_, rfl⟩, rfl⟩
theorem tnode2_tot (f : Fd) : ∃ r, (fun v => v = str f.name) r ∧ FnOk Tryz.prog 101 [encFd f] r := by
 refine fn_ex tt_ok (fn := Tryz.f101) Tryz.func101 rfl Tryz.call101 ?_
 simp only [startSt,Tryz.ntmps101,List.length_cons,List.length_nil,reduceAdd,reduceSub,List.replicate_succ,List.replicate_zero,List.cons_append,List.nil_append]
 simp only [encFd_eq,tyCells,List.cons_append,List.nil_append]
 refine ex_region_w tt_ok 5 [0,2,2] [] (by kernel_rfl) (by kernel_rfl) fun K hK => ?_
 try simp only [ltb]
 try simp only [ltb]
 simp only [go_sem,reduceIte,reduceAdd,reduceLT,reduceLeDiff,reduceMul,reduceEqDiff,reduceSub,reduceCtorEq,List.take_length]
 refine hK _ _ (by kernel_rfl) ?_
 simp only [mkW,lkF,reduceAdd,reduceEqDiff,if_true,if_false,reduceIte]
 refine ex_region_w tt_ok 5 [0,0,2,1,1] [] (by kernel_rfl) (by kernel_rfl) fun K hK => ?_
 try simp only [ltb]
 try simp only [ltb]
 simp only [go_sem,reduceIte,reduceAdd,reduceLT,reduceLeDiff,reduceMul,reduceEqDiff,reduceSub,reduceCtorEq,List.take_length]
 refine hK _ _ (by kernel_rfl) ?_
 simp only [mkW,lkF,reduceAdd,reduceEqDiff,if_true,if_false,reduceIte]
 refine ex_ret ?_
 exact ⟨.inl rfl, _, rfl, rfl⟩
theorem indexFd_tot (g : FuncId) (fs : List Fd) (hg : ∀ f : Fd, ∃ r, isB r ∧ FnOk Tryz.prog g [encFd f] r) (hl : fs.length ≤ 1048576) : ∃ r, isN r ∧ FnOk Tryz.prog 147 [.slice (encFds fs), .sc (.func (.func g) #[] #[])] r := by
 refine fn_ex tt_ok (fn := Tryz.f147) Tryz.func147 rfl Tryz.call147 ?_
 simp only [startSt,Tryz.ntmps147,List.length_cons,List.length_nil,reduceAdd,reduceSub,List.replicate_succ,List.replicate_zero,List.cons_append,List.nil_append]
 refine ex_region_w tt_ok 19 [0,0,0,0,2] [] (by kernel_rfl) (by kernel_rfl) fun K hK => ?_
 try simp only [ltb]
 try simp only [ltb]
 simp only [length_encFds,go_sem,reduceIte,reduceAdd,reduceLT,reduceLeDiff,reduceMul,reduceEqDiff,reduceSub,reduceCtorEq,List.take_length]
 refine hK _ _ (by kernel_rfl) ?_
 simp only [mkW,lkF,reduceAdd,reduceEqDiff,if_true,if_false,reduceIte]
 refine ex_seq ?_
 refine ex_region_w tt_ok 19 [0,0,0,0,0,0,1,2,2] [] (by kernel_rfl) (by kernel_rfl) fun K hK => ?_
 try simp only [ltb]
 try simp only [ltb]
 simp only [length_encFds,go_sem,reduceIte,reduceAdd,reduceLT,reduceLeDiff,reduceMul,reduceEqDiff,reduceSub,reduceCtorEq,List.take_length]
 refine hK _ _ (by kernel_rfl) ?_
 simp only [mkW,lkF,reduceAdd,reduceEqDiff,if_true,if_false,reduceIte]
 refine ex_block ?_
 refine ex_range 8 (fs.length) 0 [true,true,false,false,true,false,false,true,true] (by omega) (by simp only [maskFr,belowV,belowL,belowB,reduceLT,mkb]) (by simp only [maskFr,belowV,belowL,belowB,reduceLT,mkb]) (by rfl) fun i hii => ?_
 simp only [maskFr,belowV,belowL,belowB,reduceLT,mkb,List.set_cons_zero,List.set_cons_succ]
 refine ex_region_w tt_ok 19 [0,0,0,0,0,0,0,0,0,2] [] (by kernel_rfl) (by kernel_rfl) fun K hK => ?_
 try simp only [ltb]
 try simp only [ltb]
 simp only [length_encFds,go_sem,reduceIte,reduceAdd,reduceLT,reduceLeDiff,reduceMul,reduceEqDiff,reduceSub,reduceCtorEq,List.take_length]
 refine hK _ _ (by kernel_rfl) ?_
 simp only [mkW,lkF,reduceAdd,reduceEqDiff,if_true,if_false,reduceIte]
 refine ex_seq ?_
 refine ex_if rfl (fun hc9 => ?_) (fun hc9 => ?_)
 ·skip
  have hlti : i < (fs.length) := by simpa using hc9
  refine ex_skip ?_
  show Go.Eng.Ex _ _ _ _ _ _
  refine ex_seq ?_
  refine ex_block ?_
  refine ex_region_w tt_ok 19 [0,0,0,0,0,2,0,0,0,0,1] [] (by kernel_rfl) (by kernel_rfl) fun K hK => ?_
  try simp only [ltb]
  try simp only [ltb]
  simp only [hlti,length_encFds,go_sem,reduceIte,reduceAdd,reduceLT,reduceLeDiff,reduceMul,reduceEqDiff,reduceSub,reduceCtorEq,List.take_length]
  refine hK _ _ (by kernel_rfl) ?_
  simp only [mkW,lkF,reduceAdd,reduceEqDiff,if_true,if_false,reduceIte]
  refine ex_region_w tt_ok 19 [0,0,0,0,0,0,0,0,0,0,0,1,1,1,1,1,2] [] (by kernel_rfl) (by kernel_rfl) fun K hK => ?_
  try simp only [ltb]
  refine runX_cut 3 fun K1 hK1 => ?_
  simp only [ltb]
  simp only [hlti,length_encFds,go_sem,reduceIte,reduceAdd,reduceLT,reduceLeDiff,reduceMul,reduceEqDiff,reduceSub,reduceCtorEq,List.take_length]
  refine hK1 _ ?_
  obtain ⟨x, hx⟩ : ∃ x, fs[i]? = some x := ⟨_, List.getElem?_eq_getElem hlti⟩
  try simp only [ltb]
  simp only [hlti,get_encFds,hx,encFd_eq,tyCells,length_encFds,go_sem,reduceIte,reduceAdd,reduceLT,reduceLeDiff,reduceMul,reduceEqDiff,reduceSub,reduceCtorEq,List.take_length]
  refine callF_ex (by have h := hg x; rw [encFd_eq] at h; simpa only [tyCells, List.cons_append, List.nil_append] using h) ?_
  rintro _ ⟨r1, rfl⟩
  try simp only [hlti,get_encFds,hx,encFd_eq,tyCells,length_encFds,go_sem,reduceIte,reduceAdd,reduceLT,reduceLeDiff,reduceMul,reduceEqDiff,reduceSub,reduceCtorEq,List.take_length]
  refine hK _ _ (by kernel_rfl) ?_
  simp only [mkW,lkF,reduceAdd,reduceEqDiff,if_true,if_false,reduceIte]
  refine ex_if rfl (fun hc16 => ?_) (fun hc16 => ?_)
  ·skip
   refine ex_region_w tt_ok 19 [0,0,0,0,2,0,0,0,0,0,0,0,0,0,0,0,0,1] [] (by kernel_rfl) (by kernel_rfl) fun K hK => ?_
   try simp only [ltb]
   try simp only [ltb]
   simp only [hlti,get_encFds,hx,encFd_eq,tyCells,length_encFds,go_sem,reduceIte,reduceAdd,reduceLT,reduceLeDiff,reduceMul,reduceEqDiff,reduceSub,reduceCtorEq,List.take_length]
   refine hK _ _ (by kernel_rfl) ?_
   simp only [mkW,lkF,reduceAdd,reduceEqDiff,if_true,if_false,reduceIte]
   refine ex_ret ?_
   exact ⟨.inl rfl, _, ⟨_, rfl⟩, rfl⟩
  ·skip
   refine ex_skip ?_
   show Go.Eng.Ex _ _ _ _ _ _
   refine ex_last_region_w tt_ok 19 [0,0,0,0,0,0,0,0,2,0,0,0,0,0,0,0,0,0,2] [] (by kernel_rfl) (by kernel_rfl) (by kernel_rfl) fun K hK => ?_
   try simp only [ltb]
   try simp only [ltb]
   simp only [hlti,get_encFds,hx,encFd_eq,tyCells,length_encFds,go_sem,reduceIte,reduceAdd,reduceLT,reduceLeDiff,reduceMul,reduceEqDiff,reduceSub,reduceCtorEq,List.take_length]
   refine hK _ _ (by kernel_rfl) ?_
   simp only [mkW,lkF,reduceAdd,reduceEqDiff,if_true,if_false,reduceIte]
   have hwi := i64_succ i (by omega)
   refine ⟨hlti, 0, [true,true,false,false,true,false,false,true,true], by omega, by simp only [maskFr,belowV,belowL,belowB,reduceLT,mkb], by simp only [maskFr,belowV,belowL,belowB,reduceLT,mkb], ?_⟩
   simp only [hwi,maskFr,belowV,belowL,belowB,reduceLT,mkb,List.set_cons_zero,List.set_cons_succ]
 ·skip
  have hgei : ¬ i < (fs.length) := by simpa using hc9
  refine ex_exit ?_
  show Go.Eng.Ex _ _ _ _ _ _
  refine ex_region_w tt_ok 19 [0,0,0,0,2] [] (by kernel_rfl) (by kernel_rfl) fun K hK => ?_
  try simp only [ltb]
  try simp only [ltb]
  simp only [length_encFds,go_sem,reduceIte,reduceAdd,reduceLT,reduceLeDiff,reduceMul,reduceEqDiff,reduceSub,reduceCtorEq,List.take_length]
  refine hK _ _ (by kernel_rfl) ?_
  simp only [mkW,lkF,reduceAdd,reduceEqDiff,if_true,if_false,reduceIte]
  refine ex_ret ?_
  exact ⟨.inl rfl, _, ⟨_, rfl⟩, rfl⟩
theorem containsFd_tot (g : FuncId) (fs : List Fd) (hg : ∀ f : Fd, ∃ r, isB r ∧ FnOk Tryz.prog g [encFd f] r) (hl : fs.length ≤ 1048576) : ∃ r, isB r ∧ FnOk Tryz.prog 97 [.slice (encFds fs), .sc (.func (.func g) #[] #[])] r := by
 refine fn_ex tt_ok (fn := Tryz.f97) Tryz.func97 rfl Tryz.call97 ?_
 simp only [startSt,Tryz.ntmps97,List.length_cons,List.length_nil,reduceAdd,reduceSub,List.replicate_succ,List.replicate_zero,List.cons_append,List.nil_append]
 refine ex_region_w tt_ok 9 [0,0,0,0,2] [] (by kernel_rfl) (by kernel_rfl) fun K hK => ?_
 try simp only [ltb]
 try simp only [ltb]
 simp only [go_sem,reduceIte,reduceAdd,reduceLT,reduceLeDiff,reduceMul,reduceEqDiff,reduceSub,reduceCtorEq,List.take_length]
 refine hK _ _ (by kernel_rfl) ?_
 simp only [mkW,lkF,reduceAdd,reduceEqDiff,if_true,if_false,reduceIte]
 refine ex_region_w tt_ok 9 [0,0,0,0,2,1,1,1,1] [] (by kernel_rfl) (by kernel_rfl) fun K hK => ?_
 try simp only [ltb]
 refine runX_cut 3 fun K1 hK1 => ?_
 simp only [ltb]
 simp only [go_sem,reduceIte,reduceAdd,reduceLT,reduceLeDiff,reduceMul,reduceEqDiff,reduceSub,reduceCtorEq,List.take_length]
 refine callF_ex (indexFd_tot g fs hg hl) ?_
 rintro _ ⟨r1, rfl⟩
 try simp only [go_sem,reduceIte,reduceAdd,reduceLT,reduceLeDiff,reduceMul,reduceEqDiff,reduceSub,reduceCtorEq,List.take_length]
 refine hK1 _ ?_
 try simp only [ltb]
 simp only [go_sem,reduceIte,reduceAdd,reduceLT,reduceLeDiff,reduceMul,reduceEqDiff,reduceSub,reduceCtorEq,List.take_length]
 refine hK _ _ (by kernel_rfl) ?_
 simp only [mkW,lkF,reduceAdd,reduceEqDiff,if_true,if_false,reduceIte]
 refine ex_ret ?_
 exact ⟨.inl rfl, _, ⟨_, rfl⟩, rfl⟩
end Go.Proofs.YtpjdfcigadnhcaaGreatDoor
end
