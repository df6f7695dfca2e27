/-
  CLOSED CALLS: the example of the chapter: what its names come to, whatever MaxLen is.
  CLOSED CALLS: names, by computing.
  CLOSED CALLS: names, by computing.
  CLOSED CALLS: names, by computing.
  CLOSED CALLS: names, by computing.
  CLOSED CALLS: names, by computing.
  CLOSED CALLS: names, by computing.
  CLOSED CALLS: names, by computing.
  CLOSED CALLS: names, by computing.
  CLOSED CALLS: names, by computing.
  CLOSED CALLS: the example of the chapter, by computing.
  CLOSING: what is common to the laws over trees.
  CONTRACTS: bytes of names.
  SUBSTITUTION: the plain law.
  CONTRACTS: slices.Index, Contains, Clone.
  CONTRACTS: Substitute.
-/
import Derived.Test.YtpjdfcigadnhcaaGreatDoorS3
import Derived.WalkKit
import Derived.ProofKit
import Derived.OpenShut
import Derived.WideKeyArgs
import Derived.Deep.DeepHandedRow
set_option linter.all false
section
namespace Go.Proofs.YtpjdfcigadnhcaaGreatDoor
open Go.Eng
@[reducible] def gGe (n : Int) (h : 4 ≤ n) : Glob := { n := n, κ := fun j => if j ≤ 4 then some true else none, ok := fun j b hb => by split at hb <;> simp at hb; subst hb; simp; omega, g := some 0, tabs := fun _ => none }
@[reducible] def gEq : Glob := { n := 3, κ := fun j => some (decide (j ≤ 3)), ok := fun j b hb => by simpa using hb, g := some 0, tabs := fun _ => none }
@[reducible] def gLt (n : Int) (h : n < 3) : Glob := { n := n, κ := fun j => if 3 ≤ j then some false else none, ok := fun j b hb => by split at hb <;> simp at hb; subst hb; simp; omega, g := some 0, tabs := fun _ => none }
def noOrc : FuncId → List V → Option V := fun _ _ => none
theorem noOrc_ok [Glob] : OrcOk Tryz.prog noOrc := fun f vs r h => by cases h
abbrev sA : V := .sc (.string ⟨#[97]⟩)
abbrev sB : V := .sc (.string ⟨#[98]⟩)
abbrev sV1 : V := .sc (.string ⟨#[118,49]⟩)
abbrev tru : V := .sc (.bool true)
abbrev sP : V := .sc (.string ⟨#[97,47,118,49]⟩)
def kw : ByteArray := ⟨#[32,97,110,100,32,97,110,121,32,97,115,32,98,111,111,108,32,100,101,112,114,101,99,97,116,101,100,32,101,108,115,101,32,101,120,112,111,114,116,32,102,97,108,115,101,32,102,110,32,102,111,108,100,32,102,114,111,109,32,105,102,32,105,109,112,111,114,116,32,105,110,32,105,110,116,32,108,101,110,103,116,104,32,108,101,116,32,108,105,115,116,32,109,97,116,99,104,32,109,111,100,117,108,101,32,110,111,110,101,32,110,111,116,32,111,114,32,116,101,120,116,32,116,104,101,110,32,116,114,117,101,32,116,121,112,101,32,117,115,101,32]⟩
abbrev tA : ByteArray := ⟨#[32,97,32]⟩
abbrev tB : ByteArray := ⟨#[32,98,32]⟩
abbrev tV : ByteArray := ⟨#[32,118,49,32]⟩
def isStr (v : V) (l : ByteArray) : Bool := match v with | .sc (.string s) => s.data.toList == l.data.toList | _ => false
theorem isStr_eq {v : V} {l : ByteArray} (h : isStr v l = true) : v = .sc (.string l) := by
 unfold isStr at h
 split at h
 ·rename_i s
  have h1 : s.data.toList = l.data.toList := by simpa using h
  have h2 : s = l := ByteArray.ext (Array.toList_inj.1 h1)
  rw [h2]
 ·cases h
def orcRK : FuncId → List V → Option V := fun f vs =>
 if f = 206 then (match vs with
  | [.sc (.string s), b] => if decide (s.size ≤ 1152921504606846975) then
    (if isStr b tA && decide (3 ≤ s.size) then some (num (rkRun s tA 558884339 1055306571))
    else if isStr b tB && decide (3 ≤ s.size) then some (num (rkRun s tB 575661958 1055306571))
    else if isStr b tV && decide (4 ≤ s.size) then some (num (rkRun s tV 2465932041 1345077009)) else none) else none
  | _ => none) else none
section
variable [Glob] (hG : Glob.g = some 0)
include hG
theorem h214A : FnOk Tryz.prog 214 [str tA] (.tup [u32 558884339, u32 1055306571]) := ev_call noOrc_ok (natS_ok hG) 2000 (by kernel_rfl)
theorem h214B : FnOk Tryz.prog 214 [str tB] (.tup [u32 575661958, u32 1055306571]) := ev_call noOrc_ok (natS_ok hG) 2000 (by kernel_rfl)
theorem h214V : FnOk Tryz.prog 214 [str tV] (.tup [u32 2465932041, u32 1345077009]) := ev_call noOrc_ok (natS_ok hG) 2000 (by kernel_rfl)
theorem orcRK_ok : OrcOk Tryz.prog orcRK := fun f vs r h => by
 unfold orcRK at h
 split at h
 ·rename_i hf
  subst hf
  split at h
  ·rename_i s b
   split at h
   ·rename_i hs
    have hs := of_decide_eq_true hs
    split at h
    ·rename_i hc
     simp only [Bool.and_eq_true,decide_eq_true_eq] at hc
     cases h
     rw [isStr_eq hc.1]
     exact rk_ok s tA _ _ (h214A hG) hc.2 hs
    ·split at h
     ·rename_i hc
      simp only [Bool.and_eq_true,decide_eq_true_eq] at hc
      cases h
      rw [isStr_eq hc.1]
      exact rk_ok s tB _ _ (h214B hG) hc.2 hs
     ·split at h
      ·rename_i hc
       simp only [Bool.and_eq_true,decide_eq_true_eq] at hc
       cases h
       rw [isStr_eq hc.1]
       exact rk_ok s tV _ _ (h214V hG) hc.2 hs
      ·cases h
   ·cases h
  ·cases h
 ·cases h
end
end Go.Proofs.YtpjdfcigadnhcaaGreatDoor
end

section
namespace Go.Proofs.YtpjdfcigadnhcaaGreatDoor
open Go.Eng
theorem a_ge (n : Int) (h : 4 ≤ n) : @FnOk (gGe n h) Tryz.prog 99 [sA] tru := @ev_call (gGe n h) _ _ (@orcRK_ok (gGe n h) rfl) (@natS_ok (gGe n h) rfl) 3000 _ _ _ (by kernel_rfl)
end Go.Proofs.YtpjdfcigadnhcaaGreatDoor
end

section
namespace Go.Proofs.YtpjdfcigadnhcaaGreatDoor
open Go.Eng
theorem b_ge (n : Int) (h : 4 ≤ n) : @FnOk (gGe n h) Tryz.prog 99 [sB] tru := @ev_call (gGe n h) _ _ (@orcRK_ok (gGe n h) rfl) (@natS_ok (gGe n h) rfl) 3000 _ _ _ (by kernel_rfl)
end Go.Proofs.YtpjdfcigadnhcaaGreatDoor
end

section
namespace Go.Proofs.YtpjdfcigadnhcaaGreatDoor
open Go.Eng
theorem v_ge (n : Int) (h : 4 ≤ n) : @FnOk (gGe n h) Tryz.prog 99 [sV1] tru := @ev_call (gGe n h) _ _ (@orcRK_ok (gGe n h) rfl) (@natS_ok (gGe n h) rfl) 3000 _ _ _ (by kernel_rfl)
end Go.Proofs.YtpjdfcigadnhcaaGreatDoor
end

section
namespace Go.Proofs.YtpjdfcigadnhcaaGreatDoor
open Go.Eng
theorem a_eq : @FnOk gEq Tryz.prog 99 [sA] tru := @ev_call gEq _ _ (@orcRK_ok gEq rfl) (@natS_ok gEq rfl) 3000 _ _ _ (by kernel_rfl)
end Go.Proofs.YtpjdfcigadnhcaaGreatDoor
end

section
namespace Go.Proofs.YtpjdfcigadnhcaaGreatDoor
open Go.Eng
theorem b_eq : @FnOk gEq Tryz.prog 99 [sB] tru := @ev_call gEq _ _ (@orcRK_ok gEq rfl) (@natS_ok gEq rfl) 3000 _ _ _ (by kernel_rfl)
end Go.Proofs.YtpjdfcigadnhcaaGreatDoor
end

section
namespace Go.Proofs.YtpjdfcigadnhcaaGreatDoor
open Go.Eng
theorem v_eq : @FnOk gEq Tryz.prog 99 [sV1] tru := @ev_call gEq _ _ (@orcRK_ok gEq rfl) (@natS_ok gEq rfl) 3000 _ _ _ (by kernel_rfl)
end Go.Proofs.YtpjdfcigadnhcaaGreatDoor
end

section
namespace Go.Proofs.YtpjdfcigadnhcaaGreatDoor
open Go.Eng
theorem a_lt (n : Int) (h : n < 3) : @FnOk (gLt n h) Tryz.prog 99 [sA] tru := @ev_call (gLt n h) _ _ (@orcRK_ok (gLt n h) rfl) (@natS_ok (gLt n h) rfl) 3000 _ _ _ (by kernel_rfl)
end Go.Proofs.YtpjdfcigadnhcaaGreatDoor
end

section
namespace Go.Proofs.YtpjdfcigadnhcaaGreatDoor
open Go.Eng
theorem b_lt (n : Int) (h : n < 3) : @FnOk (gLt n h) Tryz.prog 99 [sB] tru := @ev_call (gLt n h) _ _ (@orcRK_ok (gLt n h) rfl) (@natS_ok (gLt n h) rfl) 3000 _ _ _ (by kernel_rfl)
end Go.Proofs.YtpjdfcigadnhcaaGreatDoor
end

section
namespace Go.Proofs.YtpjdfcigadnhcaaGreatDoor
open Go.Eng
theorem v_lt (n : Int) (h : n < 3) : @FnOk (gLt n h) Tryz.prog 99 [sV1] tru := @ev_call (gLt n h) _ _ (@orcRK_ok (gLt n h) rfl) (@natS_ok (gLt n h) rfl) 3000 _ _ _ (by kernel_rfl)
end Go.Proofs.YtpjdfcigadnhcaaGreatDoor
end

section
namespace Go.Proofs.YtpjdfcigadnhcaaGreatDoor
open Go.Eng
def orcN : FuncId → List V → Option V := fun f vs =>
 if f = 99 then (match vs with
  | [a] => if isStr a ⟨#[97]⟩ || isStr a ⟨#[98]⟩ || isStr a ⟨#[118,49]⟩ then some tru else none
  | _ => none) else none
theorem orcN_ok [Glob] (ha : FnOk Tryz.prog 99 [sA] tru) (hb : FnOk Tryz.prog 99 [sB] tru) (hv : FnOk Tryz.prog 99 [sV1] tru) : OrcOk Tryz.prog orcN := fun f vs r h => by
 unfold orcN at h
 split at h
 ·rename_i hf
  subst hf
  split at h
  ·split at h
   ·rename_i hc
    cases h
    simp only [Bool.or_eq_true] at hc
    rcases hc with (h2 | h2) | h2
    ·rw [isStr_eq h2]; exact ha
    ·rw [isStr_eq h2]; exact hb
    ·rw [isStr_eq h2]; exact hv
   ·cases h
  ·cases h
 ·cases h
theorem awake_ge (n : Int) (h : 4 ≤ n) : @FnOk (gGe n h) Tryz.prog 10 [] tru := @ev_call (gGe n h) _ _ (@orcN_ok (gGe n h) (a_ge n h) (b_ge n h) (v_ge n h)) (@natS_ok (gGe n h) rfl) 3000 _ _ _ (by kernel_rfl)
theorem awake_eq : @FnOk gEq Tryz.prog 10 [] tru := @ev_call gEq _ _ (@orcN_ok gEq (a_eq ) (b_eq ) (v_eq )) (@natS_ok gEq rfl) 3000 _ _ _ (by kernel_rfl)
theorem awake_lt (n : Int) (h : n < 3) : @FnOk (gLt n h) Tryz.prog 10 [] tru := @ev_call (gLt n h) _ _ (@orcN_ok (gLt n h) (a_lt n h) (b_lt n h) (v_lt n h)) (@natS_ok (gLt n h) rfl) 3000 _ _ _ (by kernel_rfl)
end Go.Proofs.YtpjdfcigadnhcaaGreatDoor
end

section
namespace Go.Proofs.YtpjdfcigadnhcaaGreatDoor
open Go.Eng
set_option maxRecDepth 100000
open Go.ChangeShapes Go.WideShapes Go.ChangeAt Go.RowKit
theorem cell_int {W : World} {v : Value} (hok : Cell.ok Tryz.prog W .any 0 3 v) : ∃ n : Int, v = .int .i64 n := by
 unfold Cell.ok at hok
 rw [Tryz.underlying3] at hok
 cases v with
 | int k n => exact ⟨n, by rw [show k = .i64 from hok.1]⟩
 | _ => exact hok.elim
theorem maxLen_at {W : World} (hS : W.ShapedOpen Tryz.prog) : ∃ n : Int, W.cell? ⟨0, 0, none⟩ = some (.int .i64 n) := by
 have h0 : (((begin Tryz.prog (fun _ _ => 0) default).world.heap[0]?).bind Obj.row?) = some (#[.int .i64 0], 3) := by kernel_rfl
 obtain ⟨cs, hc, hz, hr⟩ := hS.1 0 _ _ (of_decide_eq_true (by kernel_rfl)) h0
 obtain ⟨ts, h1, -, h3⟩ := hr (by kernel_rfl)
 obtain rfl : [3] = ts := Option.some.inj ((show Tryz.prog.cellTypes Tryz.prog.depth 3 = some [3] by kernel_rfl).symm.trans h1)
 have hz' : cs.size = 1 := hz
 obtain ⟨v, hv⟩ : ∃ v, cs[0]? = some v := ⟨cs[0], Array.getElem?_eq_getElem (by omega)⟩
 obtain ⟨u, hu, hok⟩ := h3 0 v hv
 obtain rfl : 3 = u := by simpa using hu
 obtain ⟨n, rfl⟩ := cell_int hok
 exact ⟨n, by simp [World.cell?, hc, hv]⟩
theorem rep_one {F : Addr → Option Value} [Glob] {hg : Gl F} {cs : List V} {v : Value} (hne : cs.length ≠ 1) (h : Rd F hg cs v.cells.toList) : Rep ⟨F, fun _ _ => none, hg⟩ (.agg cs) v := by
 cases v with
 | agg xs => exact .agg _ _ _ (by simpa [Value.cells] using h.1.1) fun i c x hc hx => h.1.2 i c x hc (by simpa [Value.cells] using hx)
 | _ => exact absurd h.1.1 (by simpa [Value.cells] using hne)
theorem post_kept {H : Type} {enc : TypeId × Value → H} {P : Program} {f : Func} {s : ChangeSpec} {apart fresh handsOn again : Bool} {W W' : World} {args : Array Value} {v : Value} {ds gs : List (DataW H)} {before pa pv : List MemPlace}
  (hW : DataW.Whole enc P f.params.toList s.vars apart W args.toList ds gs before)
  (hres : ∀ (b : Nat) (sp : Nat → Bool) (hd : Bool), DataW.TrodAll enc P W' b sp hd f.resultTypes.toList (v.resultList f.resultTypes.size) (s.fn H (ds ++ gs)).results [])
  (hargs : ∀ sp : Nat → Bool, (∀ p ∈ before, sp p.block = true) → DataW.TrodAll enc P W' 0 sp true f.params.toList args.toList (s.fn H (ds ++ gs)).args pa)
  (hvars : ∀ sp : Nat → Bool, (∀ p ∈ before, sp p.block = true) → DataW.TrodVars enc P W' sp s.vars (s.fn H (ds ++ gs)).vars pv)
  (hps : before = pa ++ pv) (hb : Below W.heap.size W W')
  (hok : ∀ (j : Nat) (t : TypeId) (r : Value), f.resultTypes[j]? = some t → (v.resultList f.resultTypes.size)[j]? = some r → Value.okWide P W' .any 0 t r) :
  s.post enc P f apart fresh handsOn again W args v W' := by
 have hlt := hW.lt
 refine ⟨ds, gs, before, [], pa, pv, hW, hres _ _ _, hargs _ (fun p hp => by simpa using hlt p hp), hvars _ (fun p hp => by simpa using hlt p hp), hb.frame _, fun _ => ?_⟩
 obtain ⟨_, _, _, _, _, hz, hn⟩ := hW
 refine ⟨hok, _, _, ([] ++ pa) ++ pv, ⟨[] ++ pa, pv, trodAll_append (hargs _ (fun _ _ => rfl)) (hres _ _ _), hvars _ (fun _ _ => rfl), rfl, fun b off hp => ?_, fun ha => ?_⟩, fun p hp _ => ?_⟩
 ·have hp' : MemPlace.cell b off ∈ before := by rw [hps]; simpa using hp
  rw [hb.frozen (show (⟨b, off, none⟩ : Addr).block < W.heap.size from hlt _ hp')]
  exact hz b off hp'
 ·have := hn ha
  rw [hps] at this
  simpa using this
 ·rw [hps]
  simpa using hp
end Go.Proofs.YtpjdfcigadnhcaaGreatDoor
end

section
namespace Go.Proofs.YtpjdfcigadnhcaaGreatDoor
open Go.Eng
open Nat (reduceAdd reduceLT reduceLeDiff reduceMul reduceEqDiff reduceSub)
variable [Glob]
set_option maxHeartbeats 4000000
set_option maxRecDepth 100000
attribute [local irreducible] runM stepM valD stepOp stepD callF
def isB (v : V) : Prop := ∃ b : Bool, v = bl b
def isN (v : V) : Prop := ∃ n : Int, v = num n
theorem small_tot (c : Int) : ∃ r, isB r ∧ FnOk Tryz.prog 148 [.sc (.int .u8 c)] r := by
 refine fn_ex tt_ok (fn := Tryz.f148) Tryz.func148 rfl Tryz.call148 ?_
 simp only [startSt,Tryz.ntmps148,List.length_cons,List.length_nil,reduceAdd,reduceSub,List.replicate_succ,List.replicate_zero,List.cons_append,List.nil_append]
 refine ex_region_w tt_ok 9 [0,0,2] [] (by kernel_rfl) (by kernel_rfl) fun K hK => ?_
 try simp only [ltb]
 try simp only [ltb]
 simp only [go_sem,reduceIte,reduceAdd,reduceLT,reduceLeDiff,reduceMul,reduceEqDiff,reduceSub,reduceCtorEq,List.take_length]
 refine hK _ _ (by kernel_rfl) ?_
 simp only [mkW,lkF,reduceAdd,reduceEqDiff,if_true,if_false,reduceIte]
 refine ex_region_w tt_ok 9 [0,0,2,1,1,1,1,1,1] [(2, 5)] (by kernel_rfl) (by kernel_rfl) fun K hK => ?_
 try simp only [ltb]
 refine runX_cut 3 fun K1 hK1 => ?_
 simp only [ltb]
 simp only [go_sem,reduceIte,reduceAdd,reduceLT,reduceLeDiff,reduceMul,reduceEqDiff,reduceSub,reduceCtorEq,List.take_length]
 refine hK1 _ ?_
 refine runX_case 5 (by rfl) fun b hb1_2 => ?_
 cases b
 ·try simp only [ltb]
  simp only [go_sem,reduceIte,reduceAdd,reduceLT,reduceLeDiff,reduceMul,reduceEqDiff,reduceSub,reduceCtorEq,List.take_length]
  refine hK _ _ (by kernel_rfl) ?_
  simp only [mkW,lkF,reduceAdd,reduceEqDiff,if_true,if_false,reduceIte]
  refine ex_ret ?_
  exact ⟨.inl rfl, _, ⟨_, rfl⟩, rfl⟩
 ·try simp only [ltb]
  simp only [go_sem,reduceIte,reduceAdd,reduceLT,reduceLeDiff,reduceMul,reduceEqDiff,reduceSub,reduceCtorEq,List.take_length]
  refine hK _ _ (by kernel_rfl) ?_
  simp only [mkW,lkF,reduceAdd,reduceEqDiff,if_true,if_false,reduceIte]
  refine ex_ret ?_
  exact ⟨.inl rfl, _, ⟨_, rfl⟩, rfl⟩
theorem capital_tot (c : Int) : ∃ r, isB r ∧ FnOk Tryz.prog 118 [.sc (.int .u8 c)] r := by
 refine fn_ex tt_ok (fn := Tryz.f118) Tryz.func118 rfl Tryz.call118 ?_
 simp only [startSt,Tryz.ntmps118,List.length_cons,List.length_nil,reduceAdd,reduceSub,List.replicate_succ,List.replicate_zero,List.cons_append,List.nil_append]
 refine ex_region_w tt_ok 9 [0,0,2] [] (by kernel_rfl) (by kernel_rfl) fun K hK => ?_
 try simp only [ltb]
 try simp only [ltb]
 simp only [go_sem,reduceIte,reduceAdd,reduceLT,reduceLeDiff,reduceMul,reduceEqDiff,reduceSub,reduceCtorEq,List.take_length]
 refine hK _ _ (by kernel_rfl) ?_
 simp only [mkW,lkF,reduceAdd,reduceEqDiff,if_true,if_false,reduceIte]
 refine ex_region_w tt_ok 9 [0,0,2,1,1,1,1,1,1] [(2, 5)] (by kernel_rfl) (by kernel_rfl) fun K hK => ?_
 try simp only [ltb]
 refine runX_cut 3 fun K1 hK1 => ?_
 simp only [ltb]
 simp only [go_sem,reduceIte,reduceAdd,reduceLT,reduceLeDiff,reduceMul,reduceEqDiff,reduceSub,reduceCtorEq,List.take_length]
 refine hK1 _ ?_
 refine runX_case 5 (by rfl) fun b hb1_2 => ?_
 cases b
 ·try simp only [ltb]
  simp only [go_sem,reduceIte,reduceAdd,reduceLT,reduceLeDiff,reduceMul,reduceEqDiff,reduceSub,reduceCtorEq,List.take_length]
  refine hK _ _ (by kernel_rfl) ?_
  simp only [mkW,lkF,reduceAdd,reduceEqDiff,if_true,if_false,reduceIte]
  refine ex_ret ?_
  exact ⟨.inl rfl, _, ⟨_, rfl⟩, rfl⟩
 ·try simp only [ltb]
  simp only [go_sem,reduceIte,reduceAdd,reduceLT,reduceLeDiff,reduceMul,reduceEqDiff,reduceSub,reduceCtorEq,List.take_length]
  refine hK _ _ (by kernel_rfl) ?_
  simp only [mkW,lkF,reduceAdd,reduceEqDiff,if_true,if_false,reduceIte]
  refine ex_ret ?_
  exact ⟨.inl rfl, _, ⟨_, rfl⟩, rfl⟩
theorem digit_tot (c : Int) : ∃ r, isB r ∧ FnOk Tryz.prog 169 [.sc (.int .u8 c)] r := by
 refine fn_ex tt_ok (fn := Tryz.f169) Tryz.func169 rfl Tryz.call169 ?_
 simp only [startSt,Tryz.ntmps169,List.length_cons,List.length_nil,reduceAdd,reduceSub,List.replicate_succ,List.replicate_zero,List.cons_append,List.nil_append]
 refine ex_region_w tt_ok 9 [0,0,2] [] (by kernel_rfl) (by kernel_rfl) fun K hK => ?_
 try simp only [ltb]
 try simp only [ltb]
 simp only [go_sem,reduceIte,reduceAdd,reduceLT,reduceLeDiff,reduceMul,reduceEqDiff,reduceSub,reduceCtorEq,List.take_length]
 refine hK _ _ (by kernel_rfl) ?_
 simp only [mkW,lkF,reduceAdd,reduceEqDiff,if_true,if_false,reduceIte]
 refine ex_region_w tt_ok 9 [0,0,2,1,1,1,1,1,1] [(2, 5)] (by kernel_rfl) (by kernel_rfl) fun K hK => ?_
 try simp only [ltb]
 refine runX_cut 3 fun K1 hK1 => ?_
 simp only [ltb]
 simp only [go_sem,reduceIte,reduceAdd,reduceLT,reduceLeDiff,reduceMul,reduceEqDiff,reduceSub,reduceCtorEq,List.take_length]
 refine hK1 _ ?_
 refine runX_case 5 (by rfl) fun b hb1_2 => ?_
 cases b
 ·try simp only [ltb]
  simp only [go_sem,reduceIte,reduceAdd,reduceLT,reduceLeDiff,reduceMul,reduceEqDiff,reduceSub,reduceCtorEq,List.take_length]
  refine hK _ _ (by kernel_rfl) ?_
  simp only [mkW,lkF,reduceAdd,reduceEqDiff,if_true,if_false,reduceIte]
  refine ex_ret ?_
  exact ⟨.inl rfl, _, ⟨_, rfl⟩, rfl⟩
 ·try simp only [ltb]
  simp only [go_sem,reduceIte,reduceAdd,reduceLT,reduceLeDiff,reduceMul,reduceEqDiff,reduceSub,reduceCtorEq,List.take_length]
  refine hK _ _ (by kernel_rfl) ?_
  simp only [mkW,lkF,reduceAdd,reduceEqDiff,if_true,if_false,reduceIte]
  refine ex_ret ?_
  exact ⟨.inl rfl, _, ⟨_, rfl⟩, rfl⟩
theorem word_tot (c : Int) : ∃ r, isB r ∧ FnOk Tryz.prog 120 [.sc (.int .u8 c)] r := by
 refine fn_ex tt_ok (fn := Tryz.f120) Tryz.func120 rfl Tryz.call120 ?_
 simp only [startSt,Tryz.ntmps120,List.length_cons,List.length_nil,reduceAdd,reduceSub,List.replicate_succ,List.replicate_zero,List.cons_append,List.nil_append]
 refine ex_region_w tt_ok 17 [0,0,2] [] (by kernel_rfl) (by kernel_rfl) fun K hK => ?_
 try simp only [ltb]
 try simp only [ltb]
 simp only [go_sem,reduceIte,reduceAdd,reduceLT,reduceLeDiff,reduceMul,reduceEqDiff,reduceSub,reduceCtorEq,List.take_length]
 refine hK _ _ (by kernel_rfl) ?_
 simp only [mkW,lkF,reduceAdd,reduceEqDiff,if_true,if_false,reduceIte]
 refine ex_region_w tt_ok 17 [0,0,2,1,1,1,1,1,1,1,1,1,1,1,1,1,1] [(2, 5), (6, 9), (10, 13)] (by kernel_rfl) (by kernel_rfl) fun K hK => ?_
 try simp only [ltb]
 refine runX_cut 2 fun K1 hK1 => ?_
 simp only [ltb]
 simp only [go_sem,reduceIte,reduceAdd,reduceLT,reduceLeDiff,reduceMul,reduceEqDiff,reduceSub,reduceCtorEq,List.take_length]
 refine callF_ex (small_tot _) ?_
 rintro _ ⟨r1, rfl⟩
 try simp only [go_sem,reduceIte,reduceAdd,reduceLT,reduceLeDiff,reduceMul,reduceEqDiff,reduceSub,reduceCtorEq,List.take_length]
 refine hK1 _ ?_
 refine runX_cut 1 fun K1 hK1 => ?_
 simp only [ltb]
 simp only [go_sem,reduceIte,reduceAdd,reduceLT,reduceLeDiff,reduceMul,reduceEqDiff,reduceSub,reduceCtorEq,List.take_length]
 refine hK1 _ ?_
 refine runX_case 5 (by rfl) fun b hb1_2 => ?_
 cases b
 ·refine runX_cut 2 fun K1 hK1 => ?_
  simp only [ltb]
  simp only [go_sem,reduceIte,reduceAdd,reduceLT,reduceLeDiff,reduceMul,reduceEqDiff,reduceSub,reduceCtorEq,List.take_length]
  refine callF_ex (capital_tot _) ?_
  rintro _ ⟨r2, rfl⟩
  try simp only [go_sem,reduceIte,reduceAdd,reduceLT,reduceLeDiff,reduceMul,reduceEqDiff,reduceSub,reduceCtorEq,List.take_length]
  refine hK1 _ ?_
  refine runX_cut 2 fun K1 hK1 => ?_
  simp only [ltb]
  simp only [go_sem,reduceIte,reduceAdd,reduceLT,reduceLeDiff,reduceMul,reduceEqDiff,reduceSub,reduceCtorEq,List.take_length]
  refine hK1 _ ?_
  refine runX_case 9 (by rfl) fun b hb1_6 => ?_
  cases b
  ·refine runX_cut 2 fun K1 hK1 => ?_
   simp only [ltb]
   simp only [go_sem,reduceIte,reduceAdd,reduceLT,reduceLeDiff,reduceMul,reduceEqDiff,reduceSub,reduceCtorEq,List.take_length]
   refine callF_ex (digit_tot _) ?_
   rintro _ ⟨r3, rfl⟩
   try simp only [go_sem,reduceIte,reduceAdd,reduceLT,reduceLeDiff,reduceMul,reduceEqDiff,reduceSub,reduceCtorEq,List.take_length]
   refine hK1 _ ?_
   refine runX_cut 2 fun K1 hK1 => ?_
   simp only [ltb]
   simp only [go_sem,reduceIte,reduceAdd,reduceLT,reduceLeDiff,reduceMul,reduceEqDiff,reduceSub,reduceCtorEq,List.take_length]
   refine hK1 _ ?_
   refine runX_case 13 (by rfl) fun b hb1_10 => ?_
   cases b
   ·try simp only [ltb]
    simp only [go_sem,reduceIte,reduceAdd,reduceLT,reduceLeDiff,reduceMul,reduceEqDiff,reduceSub,reduceCtorEq,List.take_length]
    refine hK _ _ (by kernel_rfl) ?_
    simp only [mkW,lkF,reduceAdd,reduceEqDiff,if_true,if_false,reduceIte]
    refine ex_ret ?_
    exact ⟨.inl rfl, _, ⟨_, rfl⟩, rfl⟩
   ·try simp only [ltb]
    simp only [go_sem,reduceIte,reduceAdd,reduceLT,reduceLeDiff,reduceMul,reduceEqDiff,reduceSub,reduceCtorEq,List.take_length]
    refine hK _ _ (by kernel_rfl) ?_
    simp only [mkW,lkF,reduceAdd,reduceEqDiff,if_true,if_false,reduceIte]
    refine ex_ret ?_
    exact ⟨.inl rfl, _, ⟨_, rfl⟩, rfl⟩
  ·try simp only [ltb]
   simp only [go_sem,reduceIte,reduceAdd,reduceLT,reduceLeDiff,reduceMul,reduceEqDiff,reduceSub,reduceCtorEq,List.take_length]
   refine hK _ _ (by kernel_rfl) ?_
   simp only [mkW,lkF,reduceAdd,reduceEqDiff,if_true,if_false,reduceIte]
   refine ex_ret ?_
   exact ⟨.inl rfl, _, ⟨_, rfl⟩, rfl⟩
 ·refine runX_cut 8 fun K1 hK1 => ?_
  simp only [ltb]
  simp only [go_sem,reduceIte,reduceAdd,reduceLT,reduceLeDiff,reduceMul,reduceEqDiff,reduceSub,reduceCtorEq,List.take_length]
  refine hK1 _ ?_
  try simp only [ltb]
  simp only [go_sem,reduceIte,reduceAdd,reduceLT,reduceLeDiff,reduceMul,reduceEqDiff,reduceSub,reduceCtorEq,List.take_length]
  refine hK _ _ (by kernel_rfl) ?_
  simp only [mkW,lkF,reduceAdd,reduceEqDiff,if_true,if_false,reduceIte]
  refine ex_ret ?_
  exact ⟨.inl rfl, _, ⟨_, rfl⟩, rfl⟩
end Go.Proofs.YtpjdfcigadnhcaaGreatDoor
end

section
namespace Go.Proofs.YtpjdfcigadnhcaaGreatDoor
open Go.Eng
variable [Glob]
def pickT (ns : List ByteArray) (us : List Ty) (n : ByteArray) : Option Ty := match ns.findIdx? (fun m => n.toList == m.toList) with
 | some i => us[i]?
 | none => none
mutual
def Ty.subst (ns : List ByteArray) (us : List Ty) : Ty → Ty
 | .mk k m n ts fs => match (if k = 9 then pickT ns us n else none) with
  | some u => u
  | none => .mk k m n (substTys ns us ts) (substFds ns us fs)
def substTys (ns : List ByteArray) (us : List Ty) : List Ty → List Ty
 | [] => []
 | t :: r => t.subst ns us :: substTys ns us r
def Fd.subst (ns : List ByteArray) (us : List Ty) : Fd → Fd
 | .mk n t o => .mk n (t.subst ns us) o
def substFds (ns : List ByteArray) (us : List Ty) : List Fd → List Fd
 | [] => []
 | f :: r => f.subst ns us :: substFds ns us r
end
theorem substTys_map (ns : List ByteArray) (us : List Ty) (ts : List Ty) : substTys ns us ts = ts.map (Ty.subst ns us) := by induction ts with | nil => rfl | cons t r ih => simp [substTys, ih]
theorem substFds_map (ns : List ByteArray) (us : List Ty) (fs : List Fd) : substFds ns us fs = fs.map (Fd.subst ns us) := by induction fs with | nil => rfl | cons t r ih => simp [substFds, ih]
theorem Ty.subst_mk (ns : List ByteArray) (us : List Ty) (k : Int) (m n : ByteArray) (ts : List Ty) (fs : List Fd) : (Ty.mk k m n ts fs).subst ns us = match (if k = 9 then pickT ns us n else none) with
  | some u => u
  | none => .mk k m n (ts.map (Ty.subst ns us)) (fs.map (Fd.subst ns us)) := by rw [Ty.subst, substTys_map, substFds_map]
theorem Ty.subst_eq (ns : List ByteArray) (us : List Ty) (t : Ty) : t.subst ns us = match (if t.kind = 9 then pickT ns us t.name else none) with
  | some u => u
  | none => .mk t.kind t.mod t.name (t.args.map (Ty.subst ns us)) (t.flds.map (Fd.subst ns us)) := by
 obtain ⟨k, m, n, ts, fs⟩ := t
 rw [Ty.subst, substTys_map, substFds_map]
 rfl
theorem Fd.subst_eq (ns : List ByteArray) (us : List Ty) (f : Fd) : f.subst ns us = .mk f.name (f.ty.subst ns us) f.opt := by
 obtain ⟨n, t, o⟩ := f
 rw [Fd.subst]; rfl
theorem Ty.eta (t : Ty) : Ty.mk t.kind t.mod t.name t.args t.flds = t := by obtain ⟨k, m, n, ts, fs⟩ := t; rfl
theorem Fd.eta (f : Fd) : Fd.mk f.name f.ty f.opt = f := by obtain ⟨n, t, o⟩ := f; rfl
theorem Ty.induct {p : Ty → Prop} (h : ∀ t : Ty, (∀ u ∈ t.parts, p u) → p t) : ∀ t, p t := by
 have key : ∀ (N : Nat) (t : Ty), t.size ≤ N → p t := by
  intro N
  induction N with
  | zero => intro t ht; have := t.size_pos; omega
  | succ N ih =>
   intro t ht
   refine h t fun u hu => ih u ?_
   obtain ⟨i, hi⟩ := List.mem_iff_getElem?.1 hu
   have e1 := sumBy_mem Ty.size hi
   have e2 := t.size_parts
   omega
 exact fun t => key t.size t (Nat.le_refl _)
theorem Ty.arg_part {t u : Ty} (h : u ∈ t.args) : u ∈ t.parts := List.mem_append_left _ h
theorem Ty.fld_part {t : Ty} {f : Fd} (h : f ∈ t.flds) : f.ty ∈ t.parts := List.mem_append_right _ (List.mem_map.2 ⟨f, h, rfl⟩)
def Ty.vars (t : Ty) : List ByteArray := (t.nodes.filter fun u => decide (u.kind = 9)).map Ty.name
theorem Ty.vars_eq (t : Ty) : t.vars = (if t.kind = 9 then [t.name] else []) ++ t.parts.flatMap Ty.vars := by
 unfold Ty.vars
 rw [t.nodes_eq, List.filter_cons]
 have h : (List.filter (fun u => decide (u.kind = 9)) (t.parts.flatMap Ty.nodes)).map Ty.name = t.parts.flatMap fun t => (t.nodes.filter fun u => decide (u.kind = 9)).map Ty.name := by
  induction t.parts with
  | nil => rfl
  | cons a r ih => simp only [List.flatMap_cons,List.filter_append,List.map_append,ih]
 split
 ·rename_i hk
  have hk := of_decide_eq_true hk
  rw [if_pos hk, List.map_cons, h]; rfl
 ·rename_i hk
  have hk : ¬ t.kind = 9 := fun e => hk (by rw [e]; rfl)
  rw [if_neg hk, h]; rfl
theorem tl_eq {a b : ByteArray} (h : a.toList = b.toList) : a = b := by
 rw [ByteArray.toList_eq, ByteArray.toList_eq] at h
 exact ByteArray.ext (Array.toList_inj.1 h)
theorem Ty.subst_id (ns : List ByteArray) (us : List Ty) : ∀ t : Ty, (∀ v ∈ t.vars, pickT ns us v = none) → t.subst ns us = t := by
 refine Ty.induct fun t ih h => ?_
 rw [t.vars_eq] at h
 have e0 : (if t.kind = 9 then pickT ns us t.name else none) = none := by
  split
  ·rename_i hk; exact h _ (by rw [if_pos hk]; simp)
  ·rfl
 have hp : ∀ u ∈ t.parts, u.subst ns us = u := fun u hu => ih u hu fun v hv => h v (List.mem_append_right _ (List.mem_flatMap.2 ⟨u, hu, hv⟩))
 rw [t.subst_eq, e0]
 dsimp only
 have e1 : t.args.map (Ty.subst ns us) = t.args := by
  conv => rhs; rw [← List.map_id t.args]
  exact List.map_congr_left fun u hu => hp u (Ty.arg_part hu)
 have e2 : t.flds.map (Fd.subst ns us) = t.flds := by
  conv => rhs; rw [← List.map_id t.flds]
  exact List.map_congr_left fun f hf => by rw [Fd.subst_eq, hp _ (Ty.fld_part hf), Fd.eta]; rfl
 rw [e1, e2, Ty.eta]
theorem pickT_nil (us : List Ty) (n : ByteArray) : pickT [] us n = none := rfl
theorem Ty.subst_nil (t : Ty) (us : List Ty) : t.subst [] us = t := Ty.subst_id _ _ t fun v _ => rfl
theorem pickT_one (x n : ByteArray) (u : Ty) : pickT [x] [u] n = if (n.toList == x.toList) = true then some u else none := by
 unfold pickT
 by_cases h : (n.toList == x.toList) = true
 ·simp [h]
 ·simp [h]
theorem pickT_two (x y n : ByteArray) (u w : Ty) : pickT [x, y] [u, w] n = if (n.toList == x.toList) = true then some u else if (n.toList == y.toList) = true then some w else none := by
 unfold pickT
 by_cases h : (n.toList == x.toList) = true
 ·simp [List.findIdx?_cons, h]
 ·by_cases h2 : (n.toList == y.toList) = true
  ·simp [List.findIdx?_cons, h, h2]
  ·simp [List.findIdx?_cons, h, h2]
theorem Ty.subst_two {x y : ByteArray} (hxy : x ≠ y) (u w : Ty) : ∀ t : Ty, (t.subst [x] [u]).subst [y] [w] = t.subst [x, y] [u.subst [y] [w], w] := by
 refine Ty.induct fun t ih => ?_
 have parts : ∀ k, (∀ n u', k = 9 → n = t.name → pickT [y] [w] n = some u' → False) → (Ty.mk k t.mod t.name (t.args.map (Ty.subst [x] [u])) (t.flds.map (Fd.subst [x] [u]))).subst [y] [w] = .mk k t.mod t.name (t.args.map (Ty.subst [x, y] [u.subst [y] [w], w])) (t.flds.map (Fd.subst [x, y] [u.subst [y] [w], w])) := fun k hk => by
  have e0 : (if k = 9 then pickT [y] [w] t.name else none) = none := by
   split
   ·rename_i h9
    cases hp : pickT [y] [w] t.name with
    | none => rfl
    | some u' => exact (hk _ _ h9 rfl hp).elim
   ·rfl
  rw [Ty.subst_mk, e0]
  dsimp only
  congr 1
  ·rw [List.map_map]
   exact List.map_congr_left fun a ha => ih a (Ty.arg_part ha)
  ·rw [List.map_map]
   refine List.map_congr_left fun f hf => ?_
   have hi := ih _ (Ty.fld_part hf)
   obtain ⟨fn, ft, fo⟩ := f
   simp only [Function.comp,Fd.subst]
   rw [show ((Fd.mk fn ft fo).ty : Ty) = ft from rfl] at hi
   rw [hi]
 rw [t.subst_eq [x] [u], t.subst_eq [x, y]]
 by_cases h9 : t.kind = 9
 ·rw [if_pos h9, if_pos h9, pickT_one, pickT_two]
  by_cases hx : (t.name.toList == x.toList) = true
  ·rw [if_pos hx, if_pos hx]
  ·rw [if_neg hx, if_neg hx]
   by_cases hy : (t.name.toList == y.toList) = true
   ·rw [if_pos hy]
    dsimp only
    rw [Ty.subst_mk, if_pos h9, pickT_one, if_pos hy]
   ·rw [if_neg hy]
    dsimp only
    exact parts _ fun n u' _ hn hp => by rw [hn, pickT_one, if_neg hy] at hp; cases hp
 ·rw [if_neg h9, if_neg h9]
  dsimp only
  exact parts _ fun n u' h _ _ => h9 h
end Go.Proofs.YtpjdfcigadnhcaaGreatDoor
end

section
namespace Go.Proofs.YtpjdfcigadnhcaaGreatDoor
open Go.Eng
open Nat (reduceAdd reduceLT reduceLeDiff reduceMul reduceEqDiff reduceSub)
variable [Glob]
set_option maxHeartbeats 4000000
set_option maxRecDepth 100000
attribute [local irreducible] runM stepM valD stepOp stepD callF callS
def idxN (ns : List ByteArray) (s : ByteArray) : Int := match ns.findIdx? (fun m => s.toList == m.toList) with
 | some i => i
 | none => -1
theorem findIdx_some {α : Type} {p : α → Bool} : ∀ {l : List α} {i : Nat} {a : α}, l[i]? = some a → p a = true → (∀ j < i, ∀ b, l[j]? = some b → p b = false) → l.findIdx? p = some i
 | [], i, a, h, _, _ => by simp at h
 | b :: r, 0, a, h, hp, _ => by
  simp at h; subst h
  simp [List.findIdx?_cons, hp]
 | b :: r, i + 1, a, h, hp, hn => by
  have h0 := hn 0 (by omega) b rfl
  have ih := findIdx_some (l := r) (i := i) (a := a) (p := p) (by simpa using h) hp fun j hj c hc => hn (j + 1) (by omega) c (by simpa using hc)
  simp [List.findIdx?_cons, h0, ih]
theorem findIdx_none {α : Type} {p : α → Bool} : ∀ {l : List α}, (∀ (j : Nat) (b : α), l[j]? = some b → p b = false) → l.findIdx? p = none
 | [], _ => rfl
 | b :: r, hn => by
  have h0 := hn 0 b rfl
  have ih := findIdx_none (l := r) (p := p) fun j c hc => hn (j + 1) c (by simpa using hc)
  simp [List.findIdx?_cons, h0, ih]
theorem idxN_some {ns : List ByteArray} {s m : ByteArray} {i : Nat} (h : ns[i]? = some m) (hp : (s.toList == m.toList) = true) (hn : ∀ j < i, ∀ b, ns[j]? = some b → (s.toList == b.toList) = false) : idxN ns s = i := by
 unfold idxN; rw [findIdx_some h hp hn]
theorem idxN_none {ns : List ByteArray} {s : ByteArray} (hn : ∀ (j : Nat) (b : ByteArray), ns[j]? = some b → (s.toList == b.toList) = false) : idxN ns s = -1 := by
 unfold idxN; rw [findIdx_none hn]
theorem idxN_get {ns : List ByteArray} {s : ByteArray} : (idxN ns s = -1 ∧ ns.findIdx? (fun m => s.toList == m.toList) = none) ∨ ∃ i : Nat, idxN ns s = i ∧ i < ns.length ∧ ns.findIdx? (fun m => s.toList == m.toList) = some i := by
 unfold idxN
 cases h : ns.findIdx? (fun m => s.toList == m.toList) with
 | none => exact .inl ⟨rfl, rfl⟩
 | some i => exact .inr ⟨i, rfl, (List.findIdx?_eq_some_iff_findIdx_eq.1 h).1, rfl⟩
theorem first_fd (fs : List Fd) (n : Nat) : firstOk (encFds fs) n 7 = true := by
 rw [encFds_map]; unfold firstOk; split
 ·rename_i h; simp at h; obtain ⟨t, -, rfl⟩ := h; simp [len_encFd]
 ·rfl
theorem sidx_tot (ns : List ByteArray) (s : ByteArray) (hl : ns.length ≤ 1048576) : ∃ r, (fun v => v = num (idxN ns s)) r ∧ FnOk Tryz.prog 60 [.slice (ns.map str), str s] r := by
 refine fn_ex tt_ok (fn := Tryz.f60) Tryz.func60 rfl Tryz.call60 ?_
 simp only [startSt,Tryz.ntmps60,List.length_cons,List.length_nil,reduceAdd,reduceSub,List.replicate_succ,List.replicate_zero,List.cons_append,List.nil_append]
 refine ex_region_w tt_ok 19 [0,0,0,0,2] [] (by kernel_rfl) (by kernel_rfl) fun K hK => ?_
 try simp only [ltb]
 try simp only [ltb]
 simp only [List.length_map,go_sem,reduceIte,reduceAdd,reduceLT,reduceLeDiff,reduceMul,reduceEqDiff,reduceSub,reduceCtorEq,List.take_length]
 refine hK _ _ (by kernel_rfl) ?_
 simp only [mkW,lkF,reduceAdd,reduceEqDiff,if_true,if_false,reduceIte]
 refine ex_seq ?_
 refine ex_region_w tt_ok 19 [0,0,0,0,0,0,1,2,2] [] (by kernel_rfl) (by kernel_rfl) fun K hK => ?_
 try simp only [ltb]
 try simp only [ltb]
 simp only [List.length_map,go_sem,reduceIte,reduceAdd,reduceLT,reduceLeDiff,reduceMul,reduceEqDiff,reduceSub,reduceCtorEq,List.take_length]
 refine hK _ _ (by kernel_rfl) ?_
 simp only [mkW,lkF,reduceAdd,reduceEqDiff,if_true,if_false,reduceIte]
 refine ex_block ?_
 refine ex_loopK [8] [num 0] 0 [true,true,false,false,true,false,false,true,true] (fun vs => ((ns.length : Int) - intOf (vs.headD .undef)).toNat) (fun vs => ∃ i : Nat, vs = [num i] ∧ i ≤ ns.length ∧ ∀ j < i, ∀ b, ns[j]? = some b → (s.toList == b.toList) = false) (by omega) (by simp only [maskFr,belowV,belowL,belowB,reduceLT,mkb]) (by simp only [maskFr,belowV,belowL,belowB,reduceLT,mkb]) (by rfl) (⟨0, rfl, Nat.zero_le _, fun j hj => absurd hj (Nat.not_lt_zero j)⟩) fun vs hI => ?_
 obtain ⟨i, rfl, hi, hno⟩ := hI
 simp only [maskFr,belowV,belowL,belowB,reduceLT,mkb,putAll,List.set_cons_zero,List.set_cons_succ]
 refine ex_region_w tt_ok 19 [0,0,0,0,0,0,0,0,0,2] [] (by kernel_rfl) (by kernel_rfl) fun K hK => ?_
 try simp only [ltb]
 try simp only [ltb]
 simp only [List.length_map,go_sem,reduceIte,reduceAdd,reduceLT,reduceLeDiff,reduceMul,reduceEqDiff,reduceSub,reduceCtorEq,List.take_length]
 refine hK _ _ (by kernel_rfl) ?_
 simp only [mkW,lkF,reduceAdd,reduceEqDiff,if_true,if_false,reduceIte]
 refine ex_seq ?_
 refine ex_if rfl (fun hc9 => ?_) (fun hc9 => ?_)
 ·have hlt : i < ns.length := by simpa using hc9
  obtain ⟨m, hx⟩ : ∃ m, ns[i]? = some m := ⟨_, List.getElem?_eq_getElem hlt⟩
  have hw := i64_succ i (by omega)
  refine ex_skip ?_
  show Go.Eng.Ex _ _ _ _ _ _
  refine ex_seq ?_
  refine ex_block ?_
  refine ex_region_w tt_ok 19 [0,0,0,0,0,2,0,0,0,0,1] [] (by kernel_rfl) (by kernel_rfl) fun K hK => ?_
  try simp only [ltb]
  try simp only [ltb]
  simp only [List.getElem?_map,hx,hw,List.length_map,go_sem,reduceIte,reduceAdd,reduceLT,reduceLeDiff,reduceMul,reduceEqDiff,reduceSub,reduceCtorEq,List.take_length]
  refine hK _ _ (by kernel_rfl) ?_
  simp only [mkW,lkF,reduceAdd,reduceEqDiff,if_true,if_false,reduceIte]
  refine ex_region_w tt_ok 19 [0,0,0,0,0,0,0,0,0,0,0,1,1,1,1,1,2] [] (by kernel_rfl) (by kernel_rfl) fun K hK => ?_
  try simp only [ltb]
  try simp only [ltb]
  simp only [List.getElem?_map,hx,hw,List.length_map,go_sem,reduceIte,reduceAdd,reduceLT,reduceLeDiff,reduceMul,reduceEqDiff,reduceSub,reduceCtorEq,List.take_length]
  refine hK _ _ (by kernel_rfl) ?_
  simp only [mkW,lkF,reduceAdd,reduceEqDiff,if_true,if_false,reduceIte]
  refine ex_if rfl (fun hc16 => ?_) (fun hc16 => ?_)
  ·have hres : (num (i : Int) : V) = num (idxN ns s) := by rw [idxN_some hx hc16 hno]
   refine ex_region_w tt_ok 19 [0,0,0,0,2,0,0,0,0,0,0,0,0,0,0,0,0,1] [] (by kernel_rfl) (by kernel_rfl) fun K hK => ?_
   try simp only [ltb]
   try simp only [ltb]
   simp only [List.getElem?_map,hx,hw,List.length_map,go_sem,reduceIte,reduceAdd,reduceLT,reduceLeDiff,reduceMul,reduceEqDiff,reduceSub,reduceCtorEq,List.take_length]
   refine hK _ _ (by kernel_rfl) ?_
   simp only [mkW,lkF,reduceAdd,reduceEqDiff,if_true,if_false,reduceIte]
   refine ex_ret ?_
   exact ⟨.inl rfl, _, hres, rfl⟩
  ·refine ex_skip ?_
   show Go.Eng.Ex _ _ _ _ _ _
   refine ex_last_region_w tt_ok 19 [0,0,0,0,0,0,0,0,2,0,0,0,0,0,0,0,0,0,2] [] (by kernel_rfl) (by kernel_rfl) (by kernel_rfl) fun K hK => ?_
   try simp only [ltb]
   try simp only [ltb]
   simp only [List.getElem?_map,hx,hw,List.length_map,go_sem,reduceIte,reduceAdd,reduceLT,reduceLeDiff,reduceMul,reduceEqDiff,reduceSub,reduceCtorEq,List.take_length]
   refine hK _ _ (by kernel_rfl) ?_
   simp only [mkW,lkF,reduceAdd,reduceEqDiff,if_true,if_false,reduceIte]
   refine ⟨[_], ?_, ?_, 0, [true,true,false,false,true,false,false,true,true], by omega, by simp only [maskFr,belowV,belowL,belowB,reduceLT,mkb], by simp only [maskFr,belowV,belowL,belowB,reduceLT,mkb], by simp only [maskFr,belowV,belowL,belowB,reduceLT,mkb,putAll,List.set_cons_zero,List.set_cons_succ]; rfl⟩
   ·refine ⟨i + 1, rfl, hlt, fun j hj b hb => ?_⟩
    rcases Nat.lt_or_ge j i with h | h
    ·exact hno j h b hb
    ·obtain rfl : j = i := by omega
     rw [hx] at hb; cases hb; exact hc16
   ·simp only [intOf,List.headD_cons]; omega
 ·have hge : ¬ i < ns.length := by simpa using hc9
  have hres : (num (-1) : V) = num (idxN ns s) := by rw [idxN_none fun j b hb => hno j (by have := (List.getElem?_eq_some_iff.1 hb).1; omega) b hb]
  refine ex_exit ?_
  show Go.Eng.Ex _ _ _ _ _ _
  refine ex_region_w tt_ok 19 [0,0,0,0,2] [] (by kernel_rfl) (by kernel_rfl) fun K hK => ?_
  try simp only [ltb]
  try simp only [ltb]
  simp only [List.length_map,go_sem,reduceIte,reduceAdd,reduceLT,reduceLeDiff,reduceMul,reduceEqDiff,reduceSub,reduceCtorEq,List.take_length]
  refine hK _ _ (by kernel_rfl) ?_
  simp only [mkW,lkF,reduceAdd,reduceEqDiff,if_true,if_false,reduceIte]
  refine ex_ret ?_
  exact ⟨.inl rfl, _, hres, rfl⟩
theorem scontains_tot (ns : List ByteArray) (s : ByteArray) (hl : ns.length ≤ 1048576) : ∃ r, (fun v => v = bl (decide (0 ≤ idxN ns s))) r ∧ FnOk Tryz.prog 25 [.slice (ns.map str), str s] r := by
 refine fn_ex tt_ok (fn := Tryz.f25) Tryz.func25 rfl Tryz.call25 ?_
 simp only [startSt,Tryz.ntmps25,List.length_cons,List.length_nil,reduceAdd,reduceSub,List.replicate_succ,List.replicate_zero,List.cons_append,List.nil_append]
 refine ex_region_w tt_ok 9 [0,0,0,0,2] [] (by kernel_rfl) (by kernel_rfl) fun K hK => ?_
 try simp only [ltb]
 try simp only [ltb]
 simp only [go_sem,reduceIte,reduceAdd,reduceLT,reduceLeDiff,reduceMul,reduceEqDiff,reduceSub,reduceCtorEq,List.take_length]
 refine hK _ _ (by kernel_rfl) ?_
 simp only [mkW,lkF,reduceAdd,reduceEqDiff,if_true,if_false,reduceIte]
 refine ex_region_w tt_ok 9 [0,0,0,0,2,1,1,1,1] [] (by kernel_rfl) (by kernel_rfl) fun K hK => ?_
 try simp only [ltb]
 refine runX_cut 3 fun K1 hK1 => ?_
 simp only [ltb]
 simp only [go_sem,reduceIte,reduceAdd,reduceLT,reduceLeDiff,reduceMul,reduceEqDiff,reduceSub,reduceCtorEq,List.take_length]
 refine callF_ex (sidx_tot ns s hl) ?_
 rintro _ rfl
 try simp only [go_sem,reduceIte,reduceAdd,reduceLT,reduceLeDiff,reduceMul,reduceEqDiff,reduceSub,reduceCtorEq,List.take_length]
 refine hK1 _ ?_
 try simp only [ltb]
 simp only [go_sem,reduceIte,reduceAdd,reduceLT,reduceLeDiff,reduceMul,reduceEqDiff,reduceSub,reduceCtorEq,List.take_length]
 refine hK _ _ (by kernel_rfl) ?_
 simp only [mkW,lkF,reduceAdd,reduceEqDiff,if_true,if_false,reduceIte]
 refine ex_ret ?_
 exact ⟨.inl rfl, _, rfl, rfl⟩
theorem cloneFd_ok (rows : List V) (h1 : firstOk rows 0 7 = true) (hl : rows.length ≤ 34359738368) : FnOkS Tryz.prog 62 [.slice rows] [] (.ms 0 1 0 rows.length) [.rows 1 7 rows] := by
 refine fns_ok tt_ok (fn := Tryz.f62) 1 (by simp) Tryz.func62 rfl Tryz.call62 ?_
 simp only [startSt,Tryz.ntmps62,List.length_cons,List.length_nil,reduceAdd,reduceSub,List.replicate_succ,List.replicate_zero,List.cons_append,List.nil_append]
 refine tri_seq_region tt_ok fun K hK => ?_
 simp only [go_sem,reduceIte,reduceAdd,reduceLT,reduceLeDiff,reduceMul,reduceEqDiff,reduceSub,reduceCtorEq]
 refine hK _ ?_
 clear hK K
 refine tri_seq ?_
 refine tri_seq_region tt_ok fun K hK => ?_
 simp only [go_sem,reduceIte,reduceAdd,reduceLT,reduceLeDiff,reduceMul,reduceEqDiff,reduceSub,reduceCtorEq]
 intro b hb
 refine hK _ ?_
 clear hK K
 cases b with
 | true =>
  have h0 : rows = [] := by
   cases rows with
   | nil => rfl
   | cons a r => have := hb (by simp); cases this
  subst h0
  refine tri_cond rfl ?_
  refine tri_seq_region tt_ok fun K hK => ?_
  simp only [go_sem,reduceIte,reduceAdd,reduceLT,reduceLeDiff,reduceMul,reduceEqDiff,reduceSub,reduceCtorEq]
  refine hK _ ?_
  clear hK K
  refine tri_nilMs 2 1 7 rfl ?_
  exact tri_ret ⟨.inl rfl, rfl, rfl, rfl, rfl⟩
 | false =>
  refine tri_cond rfl (tri_skip ?_)
  show Tri _ _ _ _ _ _
  refine tri_seq_region tt_ok fun K hK => ?_
  simp only [h1,hl,go_sem,reduceIte,reduceAdd,reduceLT,reduceLeDiff,reduceMul,reduceEqDiff,reduceSub,reduceCtorEq]
  refine hK _ ?_
  clear hK K
  refine tri_ret ⟨.inl rfl, ?_⟩
  simp [resOne, resL, resV, Tryz.f62, belowV, belowB, belowL]
end Go.Proofs.YtpjdfcigadnhcaaGreatDoor
end

section
namespace Go.Proofs.YtpjdfcigadnhcaaGreatDoor
open Go.Eng
open Nat (reduceAdd reduceLT reduceLeDiff reduceMul reduceEqDiff reduceSub)
variable [Glob]
set_option maxHeartbeats 4000000
set_option maxRecDepth 100000
attribute [local irreducible] runM stepM valD stepOp stepD callF callS
theorem pick_true {ns : List ByteArray} {us : List Ty} {t : Ty} (h1 : decide (t.kind = 9) = true) (h2 : decide (0 ≤ idxN ns t.name) = true) (h3 : decide (idxN ns t.name < (us.length : Int)) = true) : ∃ (i : Nat) (u : Ty), idxN ns t.name = i ∧ us[i]? = some u ∧ t.subst ns us = u := by
 have h1 := of_decide_eq_true h1
 have h2 := of_decide_eq_true h2
 have h3 := of_decide_eq_true h3
 rcases idxN_get (ns := ns) (s := t.name) with ⟨e, -⟩ | ⟨i, e, hi, hf⟩
 ·omega
 ·rw [e] at h3
  obtain ⟨u, hu⟩ : ∃ u, us[i]? = some u := ⟨_, List.getElem?_eq_getElem (by omega)⟩
  refine ⟨i, u, e, hu, ?_⟩
  rw [t.subst_eq, if_pos h1]
  unfold pickT
  rw [hf]
  dsimp only
  rw [hu]
theorem pick_false {ns : List ByteArray} {us : List Ty} {t : Ty} (h : decide (t.kind = 9) = false ∨ decide (0 ≤ idxN ns t.name) = false ∨ decide (idxN ns t.name < (us.length : Int)) = false) : t.subst ns us = .mk t.kind t.mod t.name (t.args.map (Ty.subst ns us)) (t.flds.map (Fd.subst ns us)) := by
 rw [t.subst_eq]
 by_cases h9 : t.kind = 9
 ·rw [if_pos h9]
  have : pickT ns us t.name = none := by
   unfold pickT
   rcases idxN_get (ns := ns) (s := t.name) with ⟨e, hf⟩ | ⟨i, e, hi, hf⟩
   ·rw [hf]
   ·rw [hf]
    dsimp only
    rw [List.getElem?_eq_none]
    rcases h with h | h | h
    ·exact absurd h9 (of_decide_eq_false h)
    ·have := of_decide_eq_false h; omega
    ·have := of_decide_eq_false h; omega
  rw [this]
 ·rw [if_neg h9]
theorem step_list {α : Type} {g : α → α} {l al : List α} {i : Nat} {x : α} (has : al = (l.take i).map g ++ l.drop i) (hx : l[i]? = some x) : al.set i (g x) = (l.take (i + 1)).map g ++ l.drop (i + 1) := by
 have hlt := (List.getElem?_eq_some_iff.1 hx).1
 have hg := (List.getElem?_eq_some_iff.1 hx).2
 have hl : ((l.take i).map g).length = i := by simp; omega
 rw [has, List.set_append_right _ _ (by omega), hl, Nat.sub_self, List.drop_eq_getElem_cons hlt, List.set_cons_zero, List.take_add_one, hx]
 simp
theorem get_list {α : Type} {g : α → α} {l al : List α} {i : Nat} {x : α} (has : al = (l.take i).map g ++ l.drop i) (hx : l[i]? = some x) : al[i]? = some x ∧ al.length = l.length := by
 have hlt := (List.getElem?_eq_some_iff.1 hx).1
 have hl : ((l.take i).map g).length = i := by simp; omega
 constructor
 ·rw [has, List.getElem?_append_right (by omega), hl, Nat.sub_self, List.getElem?_drop]; simpa using hx
 ·rw [has]; simp; omega
theorem take_len_map {α β : Type} (f : α → β) (l : List α) : (l.map f).take l.length = l.map f := List.take_of_length_le (by simp)
theorem Fd.subst_name (ns : List ByteArray) (us : List Ty) (f : Fd) : (f.subst ns us).name = f.name := by rw [Fd.subst_eq]; rfl
theorem Fd.subst_ty (ns : List ByteArray) (us : List Ty) (f : Fd) : (f.subst ns us).ty = f.ty.subst ns us := by rw [Fd.subst_eq]; rfl
theorem Fd.subst_opt (ns : List ByteArray) (us : List Ty) (f : Fd) : (f.subst ns us).opt = f.opt := by rw [Fd.subst_eq]; rfl
theorem subst_tot (ns : List ByteArray) (us : List Ty) (t : Ty) (T : V) (hTT : T = encTy (t.subst ns us)) (hnl : ns.length ≤ 1048576) (hul : us.length ≤ 1048576) (hal : t.args.length ≤ 1048576) (hfl : t.flds.length ≤ 1048576) (hvar : ∀ (i : Nat) (u : Ty), us[i]? = some u → FnOk Tryz.prog 23 [encTy u, .slice [], .slice []] (encTy u)) (hrec : ∀ p ∈ t.parts, FnOk Tryz.prog 23 [encTy p, .slice (ns.map str), .slice (encTys us)] (encTy (p.subst ns us))) : ∃ r, (fun v => v = T) r ∧ FnOk Tryz.prog 23 [encTy t, .slice (ns.map str), .slice (encTys us)] r := by
 refine fn_ex tt_ok (fn := Tryz.f23) Tryz.func23 rfl Tryz.call23 ?_
 simp only [startSt,Tryz.ntmps23,List.length_cons,List.length_nil,reduceAdd,reduceSub,List.replicate_succ,List.replicate_zero,List.cons_append,List.nil_append]
 simp only [encTy_eq,tyCells]
 refine ex_region_w tt_ok 79 [0,0,0,2,0,0,2] [] (by kernel_rfl) (by kernel_rfl) fun K hK => ?_
 try simp only [ltb]
 try simp only [ltb]
 simp only [length_encTys,length_encFds,List.length_map,go_sem,reduceIte,reduceAdd,reduceLT,reduceLeDiff,reduceMul,reduceEqDiff,reduceSub,reduceCtorEq,List.take_length]
 refine hK _ _ (by kernel_rfl) ?_
 simp only [mkW,lkF,reduceAdd,reduceEqDiff,if_true,if_false,reduceIte]
 refine ex_seq ?_
 refine ex_region_w tt_ok 79 [0,0,0,0,0,0,0,2,0,0,0,0,1,1,1,1] [] (by kernel_rfl) (by kernel_rfl) fun K hK => ?_
 try simp only [ltb]
 refine runX_cut 4 fun K1 hK1 => ?_
 simp only [ltb]
 simp only [length_encTys,length_encFds,List.length_map,go_sem,reduceIte,reduceAdd,reduceLT,reduceLeDiff,reduceMul,reduceEqDiff,reduceSub,reduceCtorEq,List.take_length]
 refine callF_ex (sidx_tot ns t.name hnl) ?_
 rintro _ rfl
 try simp only [length_encTys,length_encFds,List.length_map,go_sem,reduceIte,reduceAdd,reduceLT,reduceLeDiff,reduceMul,reduceEqDiff,reduceSub,reduceCtorEq,List.take_length]
 refine hK1 _ ?_
 try simp only [ltb]
 simp only [length_encTys,length_encFds,List.length_map,go_sem,reduceIte,reduceAdd,reduceLT,reduceLeDiff,reduceMul,reduceEqDiff,reduceSub,reduceCtorEq,List.take_length]
 refine hK _ _ (by kernel_rfl) ?_
 simp only [mkW,lkF,reduceAdd,reduceEqDiff,if_true,if_false,reduceIte]
 refine ex_seq_joinK [28] 2 [true,true,true,true,false,false,true,true,false,false,false,false,true,true,true,true,false,false,false,false,false,false,false,false,false,false,false,false,true] (fun vs => ∃ b : Bool, vs = [bl b] ∧ (b = true → ∃ (i : Nat) (u : Ty), idxN ns t.name = i ∧ us[i]? = some u ∧ t.subst ns us = u) ∧ (b = false → t.subst ns us = .mk t.kind t.mod t.name (t.args.map (Ty.subst ns us)) (t.flds.map (Fd.subst ns us)))) ?_ ?_
 ·refine ex_last_region_w tt_ok 79 [0,0,0,0,0,0,0,0,0,0,0,0,0,0,0,0,2,2,2,2,2,2,2,2,2,2,2,2,2] [(3, 19), (7, 23)] (by kernel_rfl) (by kernel_rfl) (by kernel_rfl) fun K hK => ?_
  try simp only [ltb]
  refine runX_cut 4 fun K1 hK1 => ?_
  simp only [ltb]
  simp only [length_encTys,length_encFds,List.length_map,go_sem,reduceIte,reduceAdd,reduceLT,reduceLeDiff,reduceMul,reduceEqDiff,reduceSub,reduceCtorEq,List.take_length]
  refine hK1 _ ?_
  refine runX_case 19 (by rfl) fun b hb2_3 => ?_
  cases b
  ·refine runX_cut 8 fun K1 hK1 => ?_
   simp only [ltb]
   simp only [length_encTys,length_encFds,List.length_map,go_sem,reduceIte,reduceAdd,reduceLT,reduceLeDiff,reduceMul,reduceEqDiff,reduceSub,reduceCtorEq,List.take_length]
   refine hK1 _ ?_
   try simp only [ltb]
   simp only [length_encTys,length_encFds,List.length_map,go_sem,reduceIte,reduceAdd,reduceLT,reduceLeDiff,reduceMul,reduceEqDiff,reduceSub,reduceCtorEq,List.take_length]
   refine hK _ _ (by kernel_rfl) ?_
   simp only [mkW,lkF,reduceAdd,reduceEqDiff,if_true,if_false,reduceIte]
   refine ⟨[_], ?_, 2, [true,true,true,true,false,false,true,true,false,false,false,false,true,true,true,true,false,false,false,false,false,false,false,false,false,false,false,false,true], by omega, by simp only [maskFr,belowV,belowL,belowB,reduceLT,mkb], by simp only [maskFr,belowV,belowL,belowB,reduceLT,mkb], by simp only [maskFr,belowV,belowL,belowB,reduceLT,mkb,putAll,List.set_cons_zero,List.set_cons_succ]; rfl⟩
   first | exact ⟨false, rfl, (fun h => by cases h), fun _ => pick_false (.inl hb2_3)⟩ | exact ⟨false, rfl, (fun h => by cases h), fun _ => pick_false (.inr (.inl hb2_7))⟩ | exact ⟨_, rfl, fun h => pick_true hb2_3 hb2_7 h, fun h => pick_false (.inr (.inr h))⟩
  ·refine runX_cut 4 fun K1 hK1 => ?_
   simp only [ltb]
   simp only [length_encTys,length_encFds,List.length_map,go_sem,reduceIte,reduceAdd,reduceLT,reduceLeDiff,reduceMul,reduceEqDiff,reduceSub,reduceCtorEq,List.take_length]
   refine hK1 _ ?_
   refine runX_case 23 (by rfl) fun b hb2_7 => ?_
   cases b
   ·try simp only [ltb]
    simp only [length_encTys,length_encFds,List.length_map,go_sem,reduceIte,reduceAdd,reduceLT,reduceLeDiff,reduceMul,reduceEqDiff,reduceSub,reduceCtorEq,List.take_length]
    refine hK _ _ (by kernel_rfl) ?_
    simp only [mkW,lkF,reduceAdd,reduceEqDiff,if_true,if_false,reduceIte]
    refine ⟨[_], ?_, 2, [true,true,true,true,false,false,true,true,false,false,false,false,true,true,true,true,false,false,false,false,false,false,false,false,false,false,false,false,true], by omega, by simp only [maskFr,belowV,belowL,belowB,reduceLT,mkb], by simp only [maskFr,belowV,belowL,belowB,reduceLT,mkb], by simp only [maskFr,belowV,belowL,belowB,reduceLT,mkb,putAll,List.set_cons_zero,List.set_cons_succ]; rfl⟩
    first | exact ⟨false, rfl, (fun h => by cases h), fun _ => pick_false (.inl hb2_3)⟩ | exact ⟨false, rfl, (fun h => by cases h), fun _ => pick_false (.inr (.inl hb2_7))⟩ | exact ⟨_, rfl, fun h => pick_true hb2_3 hb2_7 h, fun h => pick_false (.inr (.inr h))⟩
   ·try simp only [ltb]
    simp only [length_encTys,length_encFds,List.length_map,go_sem,reduceIte,reduceAdd,reduceLT,reduceLeDiff,reduceMul,reduceEqDiff,reduceSub,reduceCtorEq,List.take_length]
    refine hK _ _ (by kernel_rfl) ?_
    simp only [mkW,lkF,reduceAdd,reduceEqDiff,if_true,if_false,reduceIte]
    refine ⟨[_], ?_, 2, [true,true,true,true,false,false,true,true,false,false,false,false,true,true,true,true,false,false,false,false,false,false,false,false,false,false,false,false,true], by omega, by simp only [maskFr,belowV,belowL,belowB,reduceLT,mkb], by simp only [maskFr,belowV,belowL,belowB,reduceLT,mkb], by simp only [maskFr,belowV,belowL,belowB,reduceLT,mkb,putAll,List.set_cons_zero,List.set_cons_succ]; rfl⟩
    first | exact ⟨false, rfl, (fun h => by cases h), fun _ => pick_false (.inl hb2_3)⟩ | exact ⟨false, rfl, (fun h => by cases h), fun _ => pick_false (.inr (.inl hb2_7))⟩ | exact ⟨_, rfl, fun h => pick_true hb2_3 hb2_7 h, fun h => pick_false (.inr (.inr h))⟩
 ·intro vs hJ
  obtain ⟨b28, rfl, hpt, hpf⟩ := hJ
  simp only [maskFr,belowV,belowL,belowB,reduceLT,mkb,putAll,List.set_cons_zero,List.set_cons_succ]
  refine ex_if rfl (fun hc28 => ?_) (fun hc28 => ?_)
  ·obtain ⟨j, u, hj, hu, hsu⟩ := hpt hc28
   rw [hj]
   refine ex_region_w tt_ok 79 [0,0,0,0,0,0,0,0,0,0,0,0,0,0,0,0,0,0,0,0,0,0,0,0,0,0,0,0,0,1,1,1,1,1] [] (by kernel_rfl) (by kernel_rfl) fun K hK => ?_
   try simp only [ltb]
   refine runX_cut 5 fun K1 hK1 => ?_
   simp only [ltb]
   simp only [get_encTys,hu,encTy_eq,tyCells,length_encTys,length_encFds,List.length_map,go_sem,reduceIte,reduceAdd,reduceLT,reduceLeDiff,reduceMul,reduceEqDiff,reduceSub,reduceCtorEq,List.take_length]
   refine callF_ex (by have h := hvar j u hu; rw [encTy_eq] at h; simp only [tyCells] at h; exact ⟨_, rfl, h⟩) ?_
   rintro _ rfl
   try simp only [get_encTys,hu,encTy_eq,tyCells,length_encTys,length_encFds,List.length_map,go_sem,reduceIte,reduceAdd,reduceLT,reduceLeDiff,reduceMul,reduceEqDiff,reduceSub,reduceCtorEq,List.take_length]
   refine hK1 _ ?_
   try simp only [ltb]
   simp only [get_encTys,hu,encTy_eq,tyCells,length_encTys,length_encFds,List.length_map,go_sem,reduceIte,reduceAdd,reduceLT,reduceLeDiff,reduceMul,reduceEqDiff,reduceSub,reduceCtorEq,List.take_length]
   refine hK _ _ (by kernel_rfl) ?_
   simp only [mkW,lkF,reduceAdd,reduceEqDiff,if_true,if_false,reduceIte]
   refine ex_ret ?_
   first
    | (refine ⟨.inl rfl, _, ?_, rfl⟩; rw [hTT, hsu, encTy_eq]; rfl)
    | (refine ⟨.inl rfl, .agg [num t.kind, str t.mod, str t.name, .slice (encTys (t.args.map (Ty.subst ns us))), .slice (encFds (t.flds.map (Fd.subst ns us)))], by rw [hTT, hsub]; rfl, ?_⟩; simp [retV, resL, resV, Tryz.f23, loadV, pickCells, tt25, pur, pur1, purCells, purCell, nilS, encTys_map, encFds_map, take_len_map])
  ·refine ex_skip ?_
   show Go.Eng.Ex _ _ _ _ _ _
   have hsub := hpf hc28
   refine ex_mixed_w tt_ok mixed_ok 79 [0,0,0,0,0,0,0,0,0,0,0,0,0,0,0,0,0,0,0,0,0,0,0,0,0,0,0,0,0,0,0,0,0,0,1,1,1,1,1,1,1,1] (by kernel_rfl) [⟨.n, 0, [], []⟩, ⟨.r, 0, [], [0]⟩, ⟨.a, 0, [], [0,1]⟩, ⟨.n, 0, [], []⟩, ⟨.r, 0, [0], [3]⟩, ⟨.a, 1, [], [0,1,2,3,4]⟩, ⟨.n, 0, [], [0,1,2,3,4]⟩, ⟨.w, 2, [], [0,1,2,3,4,5,6]⟩, ⟨.n, 0, [], [0,1,2,3,4,5,6,7]⟩, ⟨.w, 3, [], [0,1,2,3,4,5,6,7,8]⟩] 4 (by kernel_rfl) fun K hK => ?_
   try simp only [ltb,List.replicate_zero,List.replicate_succ]
   refine runM_cut 3 (by simp) (by simp) fun K1 hK1 => ?_
   try simp only [ltb]
   simp only [length_encTys,length_encFds,List.length_map,go_sem,reduceIte,reduceAdd,reduceLT,reduceLeDiff,reduceMul,reduceEqDiff,reduceSub,reduceCtorEq,List.take_length,List.replicate]
   refine ⟨_, _, _, by simp only [length_encTys,length_encFds,List.length_map,go_sem,reduceIte,reduceAdd,reduceLT,reduceLeDiff,reduceMul,reduceEqDiff,reduceSub,reduceCtorEq,List.take_length], ⟨_, cloneTy_ok (encTys t.args) (first_ty t.args 0) (by rw [length_encTys]; omega)⟩, ?_⟩
   try simp only [holeSt,length_encTys,length_encFds,List.length_map,go_sem,reduceIte,reduceAdd,reduceLT,reduceLeDiff,reduceMul,reduceEqDiff,reduceSub,reduceCtorEq,List.take_length,List.replicate]
   refine hK1 _ ?_
   refine runM_cut 3 (by simp) (by simp) fun K1 hK1 => ?_
   try simp only [ltb]
   simp only [length_encTys,length_encFds,List.length_map,go_sem,reduceIte,reduceAdd,reduceLT,reduceLeDiff,reduceMul,reduceEqDiff,reduceSub,reduceCtorEq,List.take_length,List.replicate]
   refine ⟨_, _, _, by simp only [length_encTys,length_encFds,List.length_map,go_sem,reduceIte,reduceAdd,reduceLT,reduceLeDiff,reduceMul,reduceEqDiff,reduceSub,reduceCtorEq,List.take_length], ⟨_, cloneFd_ok (encFds t.flds) (first_fd t.flds 0) (by rw [length_encFds]; omega)⟩, ?_⟩
   try simp only [holeSt,length_encTys,length_encFds,List.length_map,go_sem,reduceIte,reduceAdd,reduceLT,reduceLeDiff,reduceMul,reduceEqDiff,reduceSub,reduceCtorEq,List.take_length,List.replicate]
   refine hK1 _ ?_
   try simp only [ltb]
   simp only [length_encTys,length_encFds,List.length_map,go_sem,reduceIte,reduceAdd,reduceLT,reduceLeDiff,reduceMul,reduceEqDiff,reduceSub,reduceCtorEq,List.take_length,List.replicate]
   refine hK _ _ (by kernel_rfl) ?_
   simp only [mkW,lkF,reduceAdd,reduceEqDiff,if_true,if_false,reduceIte]
   refine ex_seq ?_
   refine ex_region_w tt_ok 79 [0,0,0,0,0,0,0,0,0,0,0,0,0,0,0,0,0,0,0,0,0,0,0,0,0,0,0,0,0,0,0,0,0,0,0,0,0,0,0,0,0,0,1,2,2,2] [] (by kernel_rfl) (by kernel_rfl) fun K hK => ?_
   try simp only [ltb]
   try simp only [ltb]
   simp only [length_encTys,length_encFds,List.length_map,go_sem,reduceIte,reduceAdd,reduceLT,reduceLeDiff,reduceMul,reduceEqDiff,reduceSub,reduceCtorEq,List.take_length]
   refine hK _ _ (by kernel_rfl) ?_
   simp only [mkW,lkF,reduceAdd,reduceEqDiff,if_true,if_false,reduceIte]
   refine ex_block ?_
   refine ex_loopF (fun a : Nat × List Ty => { fr := [.undef, .slice (ns.map str), .slice (encTys us), .ptr 0 0, .undef, .undef, .ptr 1 0, .undef, .undef, .undef, .undef, .undef, .undef, .undef, .undef, .undef, .undef, .undef, .undef, .undef, .undef, .undef, .undef, .undef, .undef, .undef, .undef, .undef, .undef, .undef, .undef, .undef, .undef, .undef, .undef, .undef, .undef, .undef, .undef, .undef, .undef, .undef, .undef, .ms 2 0 0 t.args.length, num t.args.length, num a.1, .undef, .undef, .undef, .undef, .undef, .undef, .undef, .undef, .undef, .undef, .undef, .undef, .undef, .undef, .undef, .undef, .undef, .undef, .undef, .undef, .undef, .undef, .undef, .undef, .undef, .undef, .undef, .undef, .undef, .undef, .undef, .undef, .undef], mem := [.box [num t.kind, str t.mod, str t.name, .ms 2 0 0 t.args.length, .ms 3 0 0 t.flds.length], .box [num 0, str ⟨#[]⟩, str ⟨#[]⟩, .sc (.slice none 0 0), .sc (.slice none 0 0)], .rows 0 5 (encTys a.2), .rows 0 7 (encFds t.flds), .hole, .hole] }) (fun a => t.args.length - a.1) (fun a => a.1 ≤ t.args.length ∧ a.2 = (t.args.take a.1).map (Ty.subst ns us) ++ t.args.drop a.1) ((0, t.args)) 6 [false,true,true,true,false,false,true,false,false,false,false,false,false,false,false,false,false,false,false,false,false,false,false,false,false,false,false,false,false,false,false,false,false,false,false,false,false,false,false,false,false,false,false,true,true,true] (by omega) (by simp only [maskFr,belowV,belowL,belowB,reduceLT,mkb]) (by simp only [maskFr,belowV,belowL,belowB,reduceLT,mkb]) (by simp only [maskFr,belowV,belowL,belowB,reduceLT,mkb]; rfl) (⟨Nat.zero_le _, by simp⟩) ?_
   rintro ⟨i, al⟩ ⟨hi, has⟩
   dsimp only at hi has
   dsimp only
   refine ex_region_w tt_ok 79 [0,0,0,0,0,0,0,0,0,0,0,0,0,0,0,0,0,0,0,0,0,0,0,0,0,0,0,0,0,0,0,0,0,0,0,0,0,0,0,0,0,0,0,0,0,0,2] [] (by kernel_rfl) (by kernel_rfl) fun K hK => ?_
   try simp only [ltb]
   try simp only [ltb]
   simp only [length_encTys,length_encFds,List.length_map,go_sem,reduceIte,reduceAdd,reduceLT,reduceLeDiff,reduceMul,reduceEqDiff,reduceSub,reduceCtorEq,List.take_length]
   refine hK _ _ (by kernel_rfl) ?_
   simp only [mkW,lkF,reduceAdd,reduceEqDiff,if_true,if_false,reduceIte]
   refine ex_seq ?_
   refine ex_if rfl (fun hc46 => ?_) (fun hc46 => ?_)
   ·have hlt : i < t.args.length := by simpa using hc46
    rw [hc46]
    obtain ⟨x, hx⟩ : ∃ x, t.args[i]? = some x := ⟨_, List.getElem?_eq_getElem hlt⟩
    obtain ⟨hxa, hasl⟩ := get_list has hx
    have hil : ((i : Nat) : Int) < ((t.args.length : Nat) : Int) := by omega
    have hw := i64_succ i (by omega)
    refine ex_skip ?_
    show Go.Eng.Ex _ _ _ _ _ _
    refine ex_seq ?_
    refine ex_block ?_
    refine ex_region_w tt_ok 79 [0,0,0,0,0,0,0,0,2,2,0,0,0,0,0,0,0,0,0,0,0,0,0,0,0,0,0,0,0,0,0,0,0,0,0,0,0,0,0,0,0,0,0,0,0,0,0,1,1,1] [] (by kernel_rfl) (by kernel_rfl) fun K hK => ?_
    try simp only [ltb]
    try simp only [ltb]
    simp only [hil,get_encTys,hxa,encTy_eq,tyCells,hw,setRow,hasl,length_encTys,length_encFds,List.length_map,go_sem,reduceIte,reduceAdd,reduceLT,reduceLeDiff,reduceMul,reduceEqDiff,reduceSub,reduceCtorEq,List.take_length]
    refine hK _ _ (by kernel_rfl) ?_
    simp only [mkW,lkF,reduceAdd,reduceEqDiff,if_true,if_false,reduceIte]
    refine ex_last_mixed_w tt_ok mixed_ok 79 [0,0,0,0,0,0,0,0,0,0,0,0,0,0,0,0,0,0,0,0,0,0,0,0,0,0,0,0,0,0,0,0,0,0,0,0,0,0,0,0,0,0,0,0,0,0,0,0,0,0,2,2,2,2,2,2,2,2] (by kernel_rfl) (by kernel_rfl) [⟨.n, 0, [], []⟩, ⟨.r, 0, [], []⟩, ⟨.n, 0, [], []⟩, ⟨.r, 0, [], []⟩, ⟨.n, 0, [], []⟩, ⟨.n, 0, [], []⟩, ⟨.n, 0, [], []⟩, ⟨.r, 0, [], []⟩, ⟨.w, 0, [], []⟩] 1 (by kernel_rfl) fun K hK => ?_
    try simp only [ltb,List.replicate_zero,List.replicate_succ]
    refine runM_cut 6 (by simp) (by simp) fun K1 hK1 => ?_
    try simp only [ltb]
    simp only [hil,get_encTys,hxa,encTy_eq,tyCells,hw,setRow,hasl,length_encTys,length_encFds,List.length_map,go_sem,reduceIte,reduceAdd,reduceLT,reduceLeDiff,reduceMul,reduceEqDiff,reduceSub,reduceCtorEq,List.take_length,List.replicate]
    refine hK1 _ ?_
    refine runM_cut 1 (by simp) (by simp) fun K1 hK1 => ?_
    try simp only [ltb]
    simp only [hil,get_encTys,hxa,encTy_eq,tyCells,hw,setRow,hasl,length_encTys,length_encFds,List.length_map,go_sem,reduceIte,reduceAdd,reduceLT,reduceLeDiff,reduceMul,reduceEqDiff,reduceSub,reduceCtorEq,List.take_length,List.replicate]
    refine callD_ex rfl (by have h := hrec x (Ty.arg_part (List.mem_of_getElem? hx)); rw [encTy_eq, encTy_eq] at h; simp only [tyCells] at h; exact ⟨_, rfl, h⟩) ?_
    rintro _ rfl
    try simp only [hil,get_encTys,hxa,encTy_eq,tyCells,hw,setRow,hasl,length_encTys,length_encFds,List.length_map,go_sem,reduceIte,reduceAdd,reduceLT,reduceLeDiff,reduceMul,reduceEqDiff,reduceSub,reduceCtorEq,List.take_length,List.replicate]
    refine hK1 _ ?_
    try simp only [ltb]
    simp only [hil,get_encTys,hxa,encTy_eq,tyCells,hw,setRow,hasl,length_encTys,length_encFds,List.length_map,go_sem,reduceIte,reduceAdd,reduceLT,reduceLeDiff,reduceMul,reduceEqDiff,reduceSub,reduceCtorEq,List.take_length,List.replicate]
    refine hK _ _ (by kernel_rfl) ?_
    simp only [mkW,lkF,reduceAdd,reduceEqDiff,if_true,if_false,reduceIte]
    show Go.Eng.Ex _ _ _ _ _ _
    refine ex_last_region_w tt_ok 79 [0,0,0,0,0,0,0,0,0,0,0,0,0,0,0,0,0,0,0,0,0,0,0,0,0,0,0,0,0,0,0,0,0,0,0,0,0,0,0,0,0,0,0,0,0,2,0,0,0,0,0,0,0,0,0,0,0,0,2] [] (by kernel_rfl) (by kernel_rfl) (by kernel_rfl) fun K hK => ?_
    try simp only [ltb]
    try simp only [ltb]
    simp only [hil,get_encTys,hxa,encTy_eq,tyCells,hw,setRow,hasl,length_encTys,length_encFds,List.length_map,go_sem,reduceIte,reduceAdd,reduceLT,reduceLeDiff,reduceMul,reduceEqDiff,reduceSub,reduceCtorEq,List.take_length]
    refine hK _ _ (by kernel_rfl) ?_
    simp only [mkW,lkF,reduceAdd,reduceEqDiff,if_true,if_false,reduceIte]
    refine ⟨(i + 1, al.set i (x.subst ns us)), ?_, ?_, 6, [false,true,true,true,false,false,true,false,false,false,false,false,false,false,false,false,false,false,false,false,false,false,false,false,false,false,false,false,false,false,false,false,false,false,false,false,false,false,false,false,false,false,false,true,true,true], by omega, by simp only [maskFr,belowV,belowL,belowB,reduceLT,mkb], by simp only [maskFr,belowV,belowL,belowB,reduceLT,mkb], by simp [maskFr, encTys_map, List.map_set, encTy_eq, tyCells]⟩
    ·exact ⟨hlt, step_list has hx⟩
    ·dsimp only; omega
   ·have hge : ¬ i < t.args.length := by simpa using hc46
    have hie : i = t.args.length := by omega
    have has2 : al = t.args.map (Ty.subst ns us) := by rw [has, hie]; simp
    subst has2
    refine ex_exit ?_
    show Go.Eng.Ex _ _ _ _ _ _
    refine ex_seq ?_
    refine ex_region_w tt_ok 79 [0,0,0,0,0,0,0,0,0,0,0,0,0,0,0,0,0,0,0,0,0,0,0,0,0,0,0,0,0,0,0,0,0,0,0,0,0,0,0,0,0,0,0,0,0,0,0,0,0,0,0,0,0,0,0,0,0,0,0,1,2,2,2] [] (by kernel_rfl) (by kernel_rfl) fun K hK => ?_
    try simp only [ltb]
    try simp only [ltb]
    simp only [length_encTys,length_encFds,List.length_map,go_sem,reduceIte,reduceAdd,reduceLT,reduceLeDiff,reduceMul,reduceEqDiff,reduceSub,reduceCtorEq,List.take_length]
    refine hK _ _ (by kernel_rfl) ?_
    simp only [mkW,lkF,reduceAdd,reduceEqDiff,if_true,if_false,reduceIte]
    refine ex_block ?_
    refine ex_loopF (fun a : Nat × List Fd => { fr := [.undef, .slice (ns.map str), .slice (encTys us), .ptr 0 0, .undef, .undef, .ptr 1 0, .undef, .undef, .undef, .undef, .undef, .undef, .undef, .undef, .undef, .undef, .undef, .undef, .undef, .undef, .undef, .undef, .undef, .undef, .undef, .undef, .undef, .undef, .undef, .undef, .undef, .undef, .undef, .undef, .undef, .undef, .undef, .undef, .undef, .undef, .undef, .undef, .undef, .undef, .undef, .undef, .undef, .undef, .undef, .undef, .undef, .undef, .undef, .undef, .undef, .undef, .undef, .undef, .undef, .ms 3 0 0 t.flds.length, num t.flds.length, num a.1, .undef, .undef, .undef, .undef, .undef, .undef, .undef, .undef, .undef, .undef, .undef, .undef, .undef, .undef, .undef, .undef], mem := [.box [num t.kind, str t.mod, str t.name, .ms 2 0 0 t.args.length, .ms 3 0 0 t.flds.length], .box [num 0, str ⟨#[]⟩, str ⟨#[]⟩, .sc (.slice none 0 0), .sc (.slice none 0 0)], .rows 0 5 (encTys (t.args.map (Ty.subst ns us))), .rows 0 7 (encFds a.2), .hole, .hole] }) (fun a => t.flds.length - a.1) (fun a => a.1 ≤ t.flds.length ∧ a.2 = (t.flds.take a.1).map (Fd.subst ns us) ++ t.flds.drop a.1) ((0, t.flds)) 6 [false,true,true,true,false,false,true,false,false,false,false,false,false,false,false,false,false,false,false,false,false,false,false,false,false,false,false,false,false,false,false,false,false,false,false,false,false,false,false,false,false,false,false,false,false,false,false,false,false,false,false,false,false,false,false,false,false,false,false,false,true,true,true] (by omega) (by simp only [maskFr,belowV,belowL,belowB,reduceLT,mkb]) (by simp only [maskFr,belowV,belowL,belowB,reduceLT,mkb]) (by simp only [maskFr,belowV,belowL,belowB,reduceLT,mkb]; rfl) (⟨Nat.zero_le _, by simp⟩) ?_
    rintro ⟨i, fs⟩ ⟨hi, has⟩
    dsimp only at hi has
    dsimp only
    refine ex_region_w tt_ok 79 [0,0,0,0,0,0,0,0,0,0,0,0,0,0,0,0,0,0,0,0,0,0,0,0,0,0,0,0,0,0,0,0,0,0,0,0,0,0,0,0,0,0,0,0,0,0,0,0,0,0,0,0,0,0,0,0,0,0,0,0,0,0,0,2] [] (by kernel_rfl) (by kernel_rfl) fun K hK => ?_
    try simp only [ltb]
    try simp only [ltb]
    simp only [length_encTys,length_encFds,List.length_map,go_sem,reduceIte,reduceAdd,reduceLT,reduceLeDiff,reduceMul,reduceEqDiff,reduceSub,reduceCtorEq,List.take_length]
    refine hK _ _ (by kernel_rfl) ?_
    simp only [mkW,lkF,reduceAdd,reduceEqDiff,if_true,if_false,reduceIte]
    refine ex_seq ?_
    refine ex_if rfl (fun hc63 => ?_) (fun hc63 => ?_)
    ·have hlt : i < t.flds.length := by simpa using hc63
     rw [hc63]
     obtain ⟨f, hx⟩ : ∃ f, t.flds[i]? = some f := ⟨_, List.getElem?_eq_getElem hlt⟩
     obtain ⟨hxa, hasl⟩ := get_list has hx
     have hil : ((i : Nat) : Int) < ((t.flds.length : Nat) : Int) := by omega
     have hw := i64_succ i (by omega)
     refine ex_skip ?_
     show Go.Eng.Ex _ _ _ _ _ _
     refine ex_seq ?_
     refine ex_block ?_
     refine ex_region_w tt_ok 79 [0,0,0,0,0,0,0,0,0,0,2,2,0,0,0,0,0,0,0,0,0,0,0,0,0,0,0,0,0,0,0,0,0,0,0,0,0,0,0,0,0,0,0,0,0,0,0,0,0,0,0,0,0,0,0,0,0,0,0,0,0,0,0,0,1,1,1] [] (by kernel_rfl) (by kernel_rfl) fun K hK => ?_
     try simp only [ltb]
     try simp only [ltb]
     simp only [hil,get_encFds,hxa,encFd_eq,encTy_eq,tyCells,hw,setRow,hasl,length_encTys,length_encFds,List.length_map,go_sem,reduceIte,reduceAdd,reduceLT,reduceLeDiff,reduceMul,reduceEqDiff,reduceSub,reduceCtorEq,List.take_length]
     refine hK _ _ (by kernel_rfl) ?_
     simp only [mkW,lkF,reduceAdd,reduceEqDiff,if_true,if_false,reduceIte]
     refine ex_last_mixed_w tt_ok mixed_ok 79 [0,0,0,0,0,0,0,0,0,0,0,0,0,0,0,0,0,0,0,0,0,0,0,0,0,0,0,0,0,0,0,0,0,0,0,0,0,0,0,0,0,0,0,0,0,0,0,0,0,0,0,0,0,0,0,0,0,0,0,0,0,0,0,0,0,0,0,2,2,2,2,2,2,2,2,2,2] (by kernel_rfl) (by kernel_rfl) [⟨.n, 0, [], []⟩, ⟨.r, 0, [], [0]⟩, ⟨.n, 0, [], []⟩, ⟨.n, 0, [], []⟩, ⟨.r, 0, [], [3]⟩, ⟨.n, 0, [], []⟩, ⟨.n, 0, [], []⟩, ⟨.n, 0, [], [3,4,5,6]⟩, ⟨.r, 0, [], [0,1,2,3,4,5,6,7]⟩, ⟨.n, 0, [], [0,1,2,3,4,5,6,7,8]⟩, ⟨.w, 0, [], [0,1,2,3,4,5,6,7,8,9]⟩] 1 (by kernel_rfl) fun K hK => ?_
     try simp only [ltb,List.replicate_zero,List.replicate_succ]
     refine runM_cut 6 (by simp) (by simp) fun K1 hK1 => ?_
     try simp only [ltb]
     simp only [hil,get_encFds,hxa,encFd_eq,encTy_eq,tyCells,hw,setRow,hasl,length_encTys,length_encFds,List.length_map,go_sem,reduceIte,reduceAdd,reduceLT,reduceLeDiff,reduceMul,reduceEqDiff,reduceSub,reduceCtorEq,List.take_length,List.replicate]
     refine hK1 _ ?_
     refine runM_cut 2 (by simp) (by simp) fun K1 hK1 => ?_
     try simp only [ltb]
     simp only [hil,get_encFds,hxa,encFd_eq,encTy_eq,tyCells,hw,setRow,hasl,length_encTys,length_encFds,List.length_map,go_sem,reduceIte,reduceAdd,reduceLT,reduceLeDiff,reduceMul,reduceEqDiff,reduceSub,reduceCtorEq,List.take_length,List.replicate]
     refine callD_ex rfl (by have h := hrec f.ty (Ty.fld_part (List.mem_of_getElem? hx)); rw [encTy_eq, encTy_eq] at h; simp only [tyCells] at h; exact ⟨_, rfl, h⟩) ?_
     rintro _ rfl
     try simp only [hil,get_encFds,hxa,encFd_eq,encTy_eq,tyCells,hw,setRow,hasl,length_encTys,length_encFds,List.length_map,go_sem,reduceIte,reduceAdd,reduceLT,reduceLeDiff,reduceMul,reduceEqDiff,reduceSub,reduceCtorEq,List.take_length,List.replicate]
     refine hK1 _ ?_
     try simp only [ltb]
     simp only [hil,get_encFds,hxa,encFd_eq,encTy_eq,tyCells,hw,setRow,hasl,length_encTys,length_encFds,List.length_map,go_sem,reduceIte,reduceAdd,reduceLT,reduceLeDiff,reduceMul,reduceEqDiff,reduceSub,reduceCtorEq,List.take_length,List.replicate]
     refine hK _ _ (by kernel_rfl) ?_
     simp only [mkW,lkF,reduceAdd,reduceEqDiff,if_true,if_false,reduceIte]
     show Go.Eng.Ex _ _ _ _ _ _
     refine ex_last_region_w tt_ok 79 [0,0,0,0,0,0,0,0,0,0,0,0,0,0,0,0,0,0,0,0,0,0,0,0,0,0,0,0,0,0,0,0,0,0,0,0,0,0,0,0,0,0,0,0,0,0,0,0,0,0,0,0,0,0,0,0,0,0,0,0,0,0,2,0,0,0,0,0,0,0,0,0,0,0,0,0,0,2] [] (by kernel_rfl) (by kernel_rfl) (by kernel_rfl) fun K hK => ?_
     try simp only [ltb]
     try simp only [ltb]
     simp only [hil,get_encFds,hxa,encFd_eq,encTy_eq,tyCells,hw,setRow,hasl,length_encTys,length_encFds,List.length_map,go_sem,reduceIte,reduceAdd,reduceLT,reduceLeDiff,reduceMul,reduceEqDiff,reduceSub,reduceCtorEq,List.take_length]
     refine hK _ _ (by kernel_rfl) ?_
     simp only [mkW,lkF,reduceAdd,reduceEqDiff,if_true,if_false,reduceIte]
     refine ⟨(i + 1, fs.set i (f.subst ns us)), ?_, ?_, 6, [false,true,true,true,false,false,true,false,false,false,false,false,false,false,false,false,false,false,false,false,false,false,false,false,false,false,false,false,false,false,false,false,false,false,false,false,false,false,false,false,false,false,false,false,false,false,false,false,false,false,false,false,false,false,false,false,false,false,false,false,true,true,true], by omega, by simp only [maskFr,belowV,belowL,belowB,reduceLT,mkb], by simp only [maskFr,belowV,belowL,belowB,reduceLT,mkb], by simp [maskFr, encFds_map, List.map_set, encFd_eq, tyCells, Fd.subst_name, Fd.subst_ty, Fd.subst_opt]⟩
     ·exact ⟨hlt, step_list has hx⟩
     ·dsimp only; omega
    ·have hge : ¬ i < t.flds.length := by simpa using hc63
     have hie : i = t.flds.length := by omega
     have has2 : fs = t.flds.map (Fd.subst ns us) := by rw [has, hie]; simp
     subst has2
     refine ex_exit ?_
     show Go.Eng.Ex _ _ _ _ _ _
     refine ex_region_w tt_ok 79 [0,0,0,0,0,0,0,0,0,0,0,0,0,0,0,0,0,0,0,0,0,0,0,0,0,0,0,0,0,0,0,0,0,0,0,0,0,0,0,0,0,0,0,0,0,0,0,0,0,0,0,0,0,0,0,0,0,0,0,0,0,0,0,0,0,0,0,0,0,0,0,0,0,0,0,0,0,0,1] [] (by kernel_rfl) (by kernel_rfl) fun K hK => ?_
     try simp only [ltb]
     try simp only [ltb]
     simp only [length_encTys,length_encFds,List.length_map,go_sem,reduceIte,reduceAdd,reduceLT,reduceLeDiff,reduceMul,reduceEqDiff,reduceSub,reduceCtorEq,List.take_length]
     refine hK _ _ (by kernel_rfl) ?_
     simp only [mkW,lkF,reduceAdd,reduceEqDiff,if_true,if_false,reduceIte]
     refine ex_ret ?_
     first
      | (refine ⟨.inl rfl, _, ?_, rfl⟩; rw [hTT, hsu, encTy_eq]; rfl)
      | (refine ⟨.inl rfl, .agg [num t.kind, str t.mod, str t.name, .slice (encTys (t.args.map (Ty.subst ns us))), .slice (encFds (t.flds.map (Fd.subst ns us)))], by rw [hTT, hsub]; rfl, ?_⟩; simp [retV, resL, resV, Tryz.f23, loadV, pickCells, tt25, pur, pur1, purCells, purCell, nilS, encTys_map, encFds_map, take_len_map])
theorem substNil_ok : ∀ (N : Nat) (t : Ty), t.size ≤ N → N ≤ 1048576 → FnOk Tryz.prog 23 [encTy t, .slice [], .slice []] (encTy t) := by
 intro N
 induction N with
 | zero => intro t h; have := t.size_pos; omega
 | succ N ih =>
  intro t hN hb
  have hpl := t.parts_length
  obtain ⟨_, rfl, h⟩ := subst_tot [] [] t _ rfl (by simp) (by simp) (by omega) (by omega) (fun i u h => by simp at h) fun p hp => by
   obtain ⟨i, hi⟩ := List.mem_iff_getElem?.1 hp
   have e1 := sumBy_mem Ty.size hi
   have e2 := t.size_parts
   rw [Ty.subst_nil]
   exact ih p (by omega) (by omega)
  rw [Ty.subst_nil] at h
  exact h
theorem subst_ok (ns : List ByteArray) (us : List Ty) (hnl : ns.length ≤ 1048576) (hul : us.length ≤ 1048576) (hus : ∀ u ∈ us, u.size ≤ 1048576) : ∀ (N : Nat) (t : Ty), t.size ≤ N → N ≤ 1048576 → FnOk Tryz.prog 23 [encTy t, .slice (ns.map str), .slice (encTys us)] (encTy (t.subst ns us)) := by
 intro N
 induction N with
 | zero => intro t h; have := t.size_pos; omega
 | succ N ih =>
  intro t hN hb
  have hpl := t.parts_length
  obtain ⟨_, rfl, h⟩ := subst_tot ns us t _ rfl hnl hul (by omega) (by omega) (fun i u h => substNil_ok u.size u (Nat.le_refl _) (hus u (List.mem_of_getElem? h))) fun p hp => by
   obtain ⟨i, hi⟩ := List.mem_iff_getElem?.1 hp
   have e1 := sumBy_mem Ty.size hi
   have e2 := t.size_parts
   exact ih p (by omega) (by omega)
  exact h
end Go.Proofs.YtpjdfcigadnhcaaGreatDoor
end
