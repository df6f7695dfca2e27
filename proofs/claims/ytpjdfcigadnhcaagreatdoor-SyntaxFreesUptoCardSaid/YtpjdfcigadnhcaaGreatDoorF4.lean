/-
  CLOSED CALLS: the example of the chapter: what its names come to, whatever MaxLen is.
  CLOSED CALLS: names, by computing.
  CLOSED CALLS: names, by computing.
  CLOSED CALLS: names, by computing.
  CLOSED CALLS: names, by computing.
  CLOSED CALLS: names, by computing.
  CLOSED CALLS: names, by computing.
  CLOSED CALLS: names, by computing.
  CLOSED CALLS: names, by computing.
  CLOSED CALLS: names, by computing.
  CLOSED CALLS: the example of the chapter, by computing.
  CLOSING: what is common to the laws over trees.
  CONTRACTS: bytes of names.
  CONTRACTS: names of types.
  CONTRACTS: names of types and of variables, exactly.
  CONTRACTS: the reference: names of values, segments, majors.
  CONTRACTS: the reference: paths of modules.
  CONTRACTS: nodes of types in the reference.
  SUBSTITUTION: the plain law.
  CONTRACTS: lists of strings and of uses.
-/
import Derived.Test.YtpjdfcigadnhcaaGreatDoorF3
import Derived.WalkKit
import Derived.ProofKit
import Derived.OpenShut
import Derived.WideKeyArgs
import Derived.Deep.DeepHandedRow
set_option linter.all false
section
namespace Go.Proofs.YtpjdfcigadnhcaaGreatDoor
open Go.Eng
@[reducible] def gGe (n : Int) (h : 4 ≤ n) : Glob := { n := n, κ := fun j => if j ≤ 4 then some true else none, ok := fun j b hb => by split at hb <;> simp at hb; subst hb; simp; omega, g := some 0, tabs := fun _ => none }
@[reducible] def gEq : Glob := { n := 3, κ := fun j => some (decide (j ≤ 3)), ok := fun j b hb => by simpa using hb, g := some 0, tabs := fun _ => none }
@[reducible] def gLt (n : Int) (h : n < 3) : Glob := { n := n, κ := fun j => if 3 ≤ j then some false else none, ok := fun j b hb => by split at hb <;> simp at hb; subst hb; simp; omega, g := some 0, tabs := fun _ => none }
def noOrc : FuncId → List V → Option V := fun _ _ => none
theorem noOrc_ok [Glob] : OrcOk Tryz.prog noOrc := fun f vs r h => by cases h
abbrev sA : V := .sc (.string ⟨#[97]⟩)
abbrev sB : V := .sc (.string ⟨#[98]⟩)
abbrev sV1 : V := .sc (.string ⟨#[118,49]⟩)
abbrev tru : V := .sc (.bool true)
abbrev tA : ByteArray := ⟨#[32,97,32]⟩
abbrev tB : ByteArray := ⟨#[32,98,32]⟩
abbrev tV : ByteArray := ⟨#[32,118,49,32]⟩
def isStr (v : V) (l : ByteArray) : Bool := match v with | .sc (.string s) => s.data.toList == l.data.toList | _ => false
theorem isStr_eq {v : V} {l : ByteArray} (h : isStr v l = true) : v = .sc (.string l) := by
 unfold isStr at h
 split at h
 ·rename_i s
  have h1 : s.data.toList = l.data.toList := by simpa using h
  have h2 : s = l := ByteArray.ext (Array.toList_inj.1 h1)
  rw [h2]
 ·cases h
def orcRK : FuncId → List V → Option V := fun f vs =>
 if f = 206 then (match vs with
  | [.sc (.string s), b] => if decide (s.size ≤ 1152921504606846975) then
    (if isStr b tA && decide (3 ≤ s.size) then some (num (rkRun s tA 558884339 1055306571))
    else if isStr b tB && decide (3 ≤ s.size) then some (num (rkRun s tB 575661958 1055306571))
    else if isStr b tV && decide (4 ≤ s.size) then some (num (rkRun s tV 2465932041 1345077009)) else none) else none
  | _ => none) else none
section
variable [Glob] (hG : Glob.g = some 0)
include hG
theorem h214A : FnOk Tryz.prog 214 [str tA] (.tup [u32 558884339, u32 1055306571]) := ev_call noOrc_ok (natS_ok hG) 2000 (by kernel_rfl)
theorem h214B : FnOk Tryz.prog 214 [str tB] (.tup [u32 575661958, u32 1055306571]) := ev_call noOrc_ok (natS_ok hG) 2000 (by kernel_rfl)
theorem h214V : FnOk Tryz.prog 214 [str tV] (.tup [u32 2465932041, u32 1345077009]) := ev_call noOrc_ok (natS_ok hG) 2000 (by kernel_rfl)
theorem orcRK_ok : OrcOk Tryz.prog orcRK := fun f vs r h => by
 unfold orcRK at h
 split at h
 ·rename_i hf
  subst hf
  split at h
  ·rename_i s b
   split at h
   ·rename_i hs
    have hs := of_decide_eq_true hs
    split at h
    ·rename_i hc
     simp only [Bool.and_eq_true,decide_eq_true_eq] at hc
     cases h
     rw [isStr_eq hc.1]
     exact rk_ok s tA _ _ (h214A hG) hc.2 hs
    ·split at h
     ·rename_i hc
      simp only [Bool.and_eq_true,decide_eq_true_eq] at hc
      cases h
      rw [isStr_eq hc.1]
      exact rk_ok s tB _ _ (h214B hG) hc.2 hs
     ·split at h
      ·rename_i hc
       simp only [Bool.and_eq_true,decide_eq_true_eq] at hc
       cases h
       rw [isStr_eq hc.1]
       exact rk_ok s tV _ _ (h214V hG) hc.2 hs
      ·cases h
   ·cases h
  ·cases h
 ·cases h
end
end Go.Proofs.YtpjdfcigadnhcaaGreatDoor
end

section
namespace Go.Proofs.YtpjdfcigadnhcaaGreatDoor
open Go.Eng
theorem a_ge (n : Int) (h : 4 ≤ n) : @FnOk (gGe n h) Tryz.prog 99 [sA] tru := @ev_call (gGe n h) _ _ (@orcRK_ok (gGe n h) rfl) (@natS_ok (gGe n h) rfl) 3000 _ _ _ (by kernel_rfl)
end Go.Proofs.YtpjdfcigadnhcaaGreatDoor
end

section
namespace Go.Proofs.YtpjdfcigadnhcaaGreatDoor
open Go.Eng
theorem b_ge (n : Int) (h : 4 ≤ n) : @FnOk (gGe n h) Tryz.prog 99 [sB] tru := @ev_call (gGe n h) _ _ (@orcRK_ok (gGe n h) rfl) (@natS_ok (gGe n h) rfl) 3000 _ _ _ (by kernel_rfl)
end Go.Proofs.YtpjdfcigadnhcaaGreatDoor
end

section
namespace Go.Proofs.YtpjdfcigadnhcaaGreatDoor
open Go.Eng
theorem v_ge (n : Int) (h : 4 ≤ n) : @FnOk (gGe n h) Tryz.prog 99 [sV1] tru := @ev_call (gGe n h) _ _ (@orcRK_ok (gGe n h) rfl) (@natS_ok (gGe n h) rfl) 3000 _ _ _ (by kernel_rfl)
end Go.Proofs.YtpjdfcigadnhcaaGreatDoor
end

section
namespace Go.Proofs.YtpjdfcigadnhcaaGreatDoor
open Go.Eng
theorem a_eq : @FnOk gEq Tryz.prog 99 [sA] tru := @ev_call gEq _ _ (@orcRK_ok gEq rfl) (@natS_ok gEq rfl) 3000 _ _ _ (by kernel_rfl)
end Go.Proofs.YtpjdfcigadnhcaaGreatDoor
end

section
namespace Go.Proofs.YtpjdfcigadnhcaaGreatDoor
open Go.Eng
theorem b_eq : @FnOk gEq Tryz.prog 99 [sB] tru := @ev_call gEq _ _ (@orcRK_ok gEq rfl) (@natS_ok gEq rfl) 3000 _ _ _ (by kernel_rfl)
end Go.Proofs.YtpjdfcigadnhcaaGreatDoor
end

section
namespace Go.Proofs.YtpjdfcigadnhcaaGreatDoor
open Go.Eng
theorem v_eq : @FnOk gEq Tryz.prog 99 [sV1] tru := @ev_call gEq _ _ (@orcRK_ok gEq rfl) (@natS_ok gEq rfl) 3000 _ _ _ (by kernel_rfl)
end Go.Proofs.YtpjdfcigadnhcaaGreatDoor
end

section
namespace Go.Proofs.YtpjdfcigadnhcaaGreatDoor
open Go.Eng
theorem a_lt (n : Int) (h : n < 3) : @FnOk (gLt n h) Tryz.prog 99 [sA] tru := @ev_call (gLt n h) _ _ (@orcRK_ok (gLt n h) rfl) (@natS_ok (gLt n h) rfl) 3000 _ _ _ (by kernel_rfl)
end Go.Proofs.YtpjdfcigadnhcaaGreatDoor
end

section
namespace Go.Proofs.YtpjdfcigadnhcaaGreatDoor
open Go.Eng
theorem b_lt (n : Int) (h : n < 3) : @FnOk (gLt n h) Tryz.prog 99 [sB] tru := @ev_call (gLt n h) _ _ (@orcRK_ok (gLt n h) rfl) (@natS_ok (gLt n h) rfl) 3000 _ _ _ (by kernel_rfl)
end Go.Proofs.YtpjdfcigadnhcaaGreatDoor
end

section
namespace Go.Proofs.YtpjdfcigadnhcaaGreatDoor
open Go.Eng
theorem v_lt (n : Int) (h : n < 3) : @FnOk (gLt n h) Tryz.prog 99 [sV1] tru := @ev_call (gLt n h) _ _ (@orcRK_ok (gLt n h) rfl) (@natS_ok (gLt n h) rfl) 3000 _ _ _ (by kernel_rfl)
end Go.Proofs.YtpjdfcigadnhcaaGreatDoor
end

section
namespace Go.Proofs.YtpjdfcigadnhcaaGreatDoor
open Go.Eng
def orcN : FuncId → List V → Option V := fun f vs =>
 if f = 99 then (match vs with
  | [a] => if isStr a ⟨#[97]⟩ || isStr a ⟨#[98]⟩ || isStr a ⟨#[118,49]⟩ then some tru else none
  | _ => none) else none
theorem orcN_ok [Glob] (ha : FnOk Tryz.prog 99 [sA] tru) (hb : FnOk Tryz.prog 99 [sB] tru) (hv : FnOk Tryz.prog 99 [sV1] tru) : OrcOk Tryz.prog orcN := fun f vs r h => by
 unfold orcN at h
 split at h
 ·rename_i hf
  subst hf
  split at h
  ·split at h
   ·rename_i hc
    cases h
    simp only [Bool.or_eq_true] at hc
    rcases hc with (h2 | h2) | h2
    ·rw [isStr_eq h2]; exact ha
    ·rw [isStr_eq h2]; exact hb
    ·rw [isStr_eq h2]; exact hv
   ·cases h
  ·cases h
 ·cases h
theorem awake_ge (n : Int) (h : 4 ≤ n) : @FnOk (gGe n h) Tryz.prog 10 [] tru := @ev_call (gGe n h) _ _ (@orcN_ok (gGe n h) (a_ge n h) (b_ge n h) (v_ge n h)) (@natS_ok (gGe n h) rfl) 3000 _ _ _ (by kernel_rfl)
theorem awake_eq : @FnOk gEq Tryz.prog 10 [] tru := @ev_call gEq _ _ (@orcN_ok gEq (a_eq ) (b_eq ) (v_eq )) (@natS_ok gEq rfl) 3000 _ _ _ (by kernel_rfl)
theorem awake_lt (n : Int) (h : n < 3) : @FnOk (gLt n h) Tryz.prog 10 [] tru := @ev_call (gLt n h) _ _ (@orcN_ok (gLt n h) (a_lt n h) (b_lt n h) (v_lt n h)) (@natS_ok (gLt n h) rfl) 3000 _ _ _ (by kernel_rfl)
end Go.Proofs.YtpjdfcigadnhcaaGreatDoor
end

section
namespace Go.Proofs.YtpjdfcigadnhcaaGreatDoor
open Go.Eng
set_option maxRecDepth 100000
open Go.ChangeShapes Go.WideShapes Go.ChangeAt Go.RowKit
theorem cell_int {W : World} {v : Value} (hok : Cell.ok Tryz.prog W .any 0 3 v) : ∃ n : Int, v = .int .i64 n := by
 unfold Cell.ok at hok
 rw [Tryz.underlying3] at hok
 cases v with
 | int k n => exact ⟨n, by rw [show k = .i64 from hok.1]⟩
 | _ => exact hok.elim
theorem maxLen_at {W : World} (hS : W.ShapedOpen Tryz.prog) : ∃ n : Int, W.cell? ⟨0, 0, none⟩ = some (.int .i64 n) := by
 have h0 : (((begin Tryz.prog (fun _ _ => 0) default).world.heap[0]?).bind Obj.row?) = some (#[.int .i64 0], 3) := by kernel_rfl
 obtain ⟨cs, hc, hz, hr⟩ := hS.1 0 _ _ (of_decide_eq_true (by kernel_rfl)) h0
 obtain ⟨ts, h1, -, h3⟩ := hr (by kernel_rfl)
 obtain rfl : [3] = ts := Option.some.inj ((show Tryz.prog.cellTypes Tryz.prog.depth 3 = some [3] by kernel_rfl).symm.trans h1)
 have hz' : cs.size = 1 := hz
 obtain ⟨v, hv⟩ : ∃ v, cs[0]? = some v := ⟨cs[0], Array.getElem?_eq_getElem (by omega)⟩
 obtain ⟨u, hu, hok⟩ := h3 0 v hv
 obtain rfl : 3 = u := by simpa using hu
 obtain ⟨n, rfl⟩ := cell_int hok
 exact ⟨n, by simp [World.cell?, hc, hv]⟩
theorem rep_one {F : Addr → Option Value} [Glob] {hg : Gl F} {cs : List V} {v : Value} (hne : cs.length ≠ 1) (h : Rd F hg cs v.cells.toList) : Rep ⟨F, fun _ _ => none, hg⟩ (.agg cs) v := by
 cases v with
 | agg xs => exact .agg _ _ _ (by simpa [Value.cells] using h.1.1) fun i c x hc hx => h.1.2 i c x hc (by simpa [Value.cells] using hx)
 | _ => exact absurd h.1.1 (by simpa [Value.cells] using hne)
theorem post_kept {H : Type} {enc : TypeId × Value → H} {P : Program} {f : Func} {s : ChangeSpec} {apart fresh handsOn again : Bool} {W W' : World} {args : Array Value} {v : Value} {ds gs : List (DataW H)} {before pa pv : List MemPlace}
  (hW : DataW.Whole enc P f.params.toList s.vars apart W args.toList ds gs before)
  (hres : ∀ (b : Nat) (sp : Nat → Bool) (hd : Bool), DataW.TrodAll enc P W' b sp hd f.resultTypes.toList (v.resultList f.resultTypes.size) (s.fn H (ds ++ gs)).results [])
  (hargs : ∀ sp : Nat → Bool, (∀ p ∈ before, sp p.block = true) → DataW.TrodAll enc P W' 0 sp true f.params.toList args.toList (s.fn H (ds ++ gs)).args pa)
  (hvars : ∀ sp : Nat → Bool, (∀ p ∈ before, sp p.block = true) → DataW.TrodVars enc P W' sp s.vars (s.fn H (ds ++ gs)).vars pv)
  (hps : before = pa ++ pv) (hb : Below W.heap.size W W')
  (hok : ∀ (j : Nat) (t : TypeId) (r : Value), f.resultTypes[j]? = some t → (v.resultList f.resultTypes.size)[j]? = some r → Value.okWide P W' .any 0 t r) :
  s.post enc P f apart fresh handsOn again W args v W' := by
 have hlt := hW.lt
 refine ⟨ds, gs, before, [], pa, pv, hW, hres _ _ _, hargs _ (fun p hp => by simpa using hlt p hp), hvars _ (fun p hp => by simpa using hlt p hp), hb.frame _, fun _ => ?_⟩
 obtain ⟨_, _, _, _, _, hz, hn⟩ := hW
 refine ⟨hok, _, _, ([] ++ pa) ++ pv, ⟨[] ++ pa, pv, trodAll_append (hargs _ (fun _ _ => rfl)) (hres _ _ _), hvars _ (fun _ _ => rfl), rfl, fun b off hp => ?_, fun ha => ?_⟩, fun p hp _ => ?_⟩
 ·have hp' : MemPlace.cell b off ∈ before := by rw [hps]; simpa using hp
  rw [hb.frozen (show (⟨b, off, none⟩ : Addr).block < W.heap.size from hlt _ hp')]
  exact hz b off hp'
 ·have := hn ha
  rw [hps] at this
  simpa using this
 ·rw [hps]
  simpa using hp
end Go.Proofs.YtpjdfcigadnhcaaGreatDoor
end

section
namespace Go.Proofs.YtpjdfcigadnhcaaGreatDoor
open Go.Eng
variable [Glob]
set_option maxHeartbeats 4000000
set_option maxRecDepth 100000
attribute [local irreducible] runM stepM valD stepOp stepD callF
def isB (v : V) : Prop := ∃ b : Bool, v = bl b
def isN (v : V) : Prop := ∃ n : Int, v = num n
end Go.Proofs.YtpjdfcigadnhcaaGreatDoor
end

section
namespace Go.Proofs.YtpjdfcigadnhcaaGreatDoor
open Go.Eng
variable [Glob]
set_option maxHeartbeats 4000000
set_option maxRecDepth 100000
attribute [local irreducible] runM stepM valD stepOp stepD callF
theorem ne_get {s e : ByteArray} (he : e.size = 0) (h : (!(s.toList == e.toList)) = true) : ∃ c, s[0]? = some c := by
 refine get_byte (s := s) (i := 0) ?_
 rcases Nat.eq_zero_or_pos s.size with hz | hz
 ·exfalso
  have e1 : s.toList = e.toList := by
   rw [ByteArray.toList_eq, ByteArray.toList_eq]
   have a1 : s.data.toList = [] := by simpa [← List.length_eq_zero_iff, Array.length_toList] using hz
   have a2 : e.data.toList = [] := by simpa [← List.length_eq_zero_iff, Array.length_toList] using he
   rw [a1, a2]
  rw [e1] at h; simp at h
 ·exact hz
end Go.Proofs.YtpjdfcigadnhcaaGreatDoor
end

section
namespace Go.Proofs.YtpjdfcigadnhcaaGreatDoor
open Go.Eng
open Nat (reduceAdd reduceLT reduceLeDiff reduceMul reduceEqDiff reduceSub)
variable [Glob]
set_option maxHeartbeats 4000000
set_option maxRecDepth 100000
attribute [local irreducible] runM stepM valD stepOp stepD callF callS
def isSm (c : Int) : Bool := decide (97 ≤ c) && decide (c ≤ 122)
def isCp (c : Int) : Bool := decide (65 ≤ c) && decide (c ≤ 90)
def isDg (c : Int) : Bool := decide (48 ≤ c) && decide (c ≤ 57)
def isWd (c : Int) : Bool := isSm c || isCp c || isDg c || decide (c = 95)
def allP (p : Int → Bool) (s : ByteArray) : Bool := s.data.toList.all fun b => p b.toNat
def byteAt (s : ByteArray) (i : Nat) : Int := match s[i]? with | some c => c.toNat | none => 0
theorem byte_get {s : ByteArray} {i : Nat} {c : UInt8} (h : s[i]? = some c) : s.data.toList[i]? = some c := by
 obtain ⟨h1, h2⟩ := getElem?_eq_some_iff.1 h
 have h3 : i < s.data.toList.length := by simpa using h1
 rw [List.getElem?_eq_getElem h3]
 exact congrArg some (by rw [Array.getElem_toList]; exact h2)
theorem byteAt_of {s : ByteArray} {i : Nat} {c : UInt8} (h : s[i]? = some c) : byteAt s i = c.toNat := by unfold byteAt; rw [h]
theorem allP_true {p : Int → Bool} {s : ByteArray} (h : ∀ j < s.size, ∀ b, s[j]? = some b → p b.toNat = true) : allP p s = true := by
 refine List.all_eq_true.2 fun b hb => ?_
 obtain ⟨j, hj⟩ := List.mem_iff_getElem?.1 hb
 have h1 : j < s.size := by have := (List.getElem?_eq_some_iff.1 hj).1; simpa using this
 obtain ⟨c, hc⟩ := get_byte h1
 have := byte_get hc
 rw [hj] at this; cases this
 exact h j h1 b hc
theorem allP_false {p : Int → Bool} {s : ByteArray} {j : Nat} {b : UInt8} (h : s[j]? = some b) (hp : p b.toNat = false) : allP p s = false := by
 have hm := List.mem_of_getElem? (byte_get h)
 cases ha : allP p s with
 | false => rfl
 | true => have := List.all_eq_true.1 ha b hm; rw [hp] at this; cases this
def isTy (s : ByteArray) : Bool := decide (1 ≤ s.size) && decide (s.size ≤ 32) && isCp (byteAt s 0) && allP isWd s
def isVr (s : ByteArray) : Bool := isTy s || decide (s.size = 2) && decide (byteAt s 0 = 35) && decide (48 ≤ byteAt s 1) && decide (byteAt s 1 ≤ 55)
theorem size_ne {s e : ByteArray} (he : e.size = 0) (h : (!(s.toList == e.toList)) = true) : 1 ≤ s.size := by
 obtain ⟨c, hc⟩ := ne_get he h
 exact (getElem?_eq_some_iff.1 hc).1
theorem size_eq0 {s e : ByteArray} (he : e.size = 0) (h : (!(s.toList == e.toList)) = false) : s.size = 0 := by
 have e1 : s.toList = e.toList := by simpa using h
 rw [ByteArray.toList_eq, ByteArray.toList_eq] at e1
 have := congrArg List.length e1
 simp only [Array.length_toList] at this
 exact Eq.trans this he
theorem small_ex (c : Int) : ∃ r, (fun v => v = bl (isSm c)) r ∧ FnOk Tryz.prog 148 [.sc (.int .u8 c)] r := by
 refine fn_ex tt_ok (fn := Tryz.f148) Tryz.func148 rfl Tryz.call148 ?_
 simp only [ltb,startSt,Tryz.ntmps148,List.length_cons,List.length_nil,reduceAdd,reduceSub,List.replicate_succ,List.replicate_zero]
 refine ex_region_w tt_ok 9 [0,0,2] [] rfl rfl fun K hK => ?_
 try simp only [ltb]
 simp only [ltb,go_sem,reduceIte,reduceAdd,reduceLT,reduceLeDiff,reduceMul,reduceEqDiff,reduceSub,reduceCtorEq,List.take_length]
 refine hK _ _ rfl ?_
 simp only [mwb,reduceAdd,reduceEqDiff]
 refine ex_region_w tt_ok 9 [0,0,2,1,1,1,1,1,1] [(2, 5)] rfl rfl fun K hK => ?_
 try simp only [ltb]
 refine runX_cut 3 fun K1 hK1 => ?_
 simp only [ltb,go_sem,reduceIte,reduceAdd,reduceLT,reduceLeDiff,reduceMul,reduceEqDiff,reduceSub,reduceCtorEq,List.take_length]
 refine hK1 _ ?_
 refine runX_case 5 (by rfl) fun b hb1_2 => ?_
 cases b
 ·simp only [ltb,go_sem,reduceIte,reduceAdd,reduceLT,reduceLeDiff,reduceMul,reduceEqDiff,reduceSub,reduceCtorEq,List.take_length]
  refine hK _ _ rfl ?_
  simp only [mwb,reduceAdd,reduceEqDiff]
  exact ex_ret ⟨.inl rfl, _, congrArg bl (by simp_all [isSm] <;> (intros; omega)), rfl⟩
 ·simp only [ltb,go_sem,reduceIte,reduceAdd,reduceLT,reduceLeDiff,reduceMul,reduceEqDiff,reduceSub,reduceCtorEq,List.take_length]
  refine hK _ _ rfl ?_
  simp only [mwb,reduceAdd,reduceEqDiff]
  exact ex_ret ⟨.inl rfl, _, congrArg bl (by simp_all [isSm] <;> (intros; omega)), rfl⟩
theorem capital_ex (c : Int) : ∃ r, (fun v => v = bl (isCp c)) r ∧ FnOk Tryz.prog 118 [.sc (.int .u8 c)] r := by
 refine fn_ex tt_ok (fn := Tryz.f118) Tryz.func118 rfl Tryz.call118 ?_
 simp only [ltb,startSt,Tryz.ntmps118,List.length_cons,List.length_nil,reduceAdd,reduceSub,List.replicate_succ,List.replicate_zero]
 refine ex_region_w tt_ok 9 [0,0,2] [] rfl rfl fun K hK => ?_
 try simp only [ltb]
 simp only [ltb,go_sem,reduceIte,reduceAdd,reduceLT,reduceLeDiff,reduceMul,reduceEqDiff,reduceSub,reduceCtorEq,List.take_length]
 refine hK _ _ rfl ?_
 simp only [mwb,reduceAdd,reduceEqDiff]
 refine ex_region_w tt_ok 9 [0,0,2,1,1,1,1,1,1] [(2, 5)] rfl rfl fun K hK => ?_
 try simp only [ltb]
 refine runX_cut 3 fun K1 hK1 => ?_
 simp only [ltb,go_sem,reduceIte,reduceAdd,reduceLT,reduceLeDiff,reduceMul,reduceEqDiff,reduceSub,reduceCtorEq,List.take_length]
 refine hK1 _ ?_
 refine runX_case 5 (by rfl) fun b hb1_2 => ?_
 cases b
 ·simp only [ltb,go_sem,reduceIte,reduceAdd,reduceLT,reduceLeDiff,reduceMul,reduceEqDiff,reduceSub,reduceCtorEq,List.take_length]
  refine hK _ _ rfl ?_
  simp only [mwb,reduceAdd,reduceEqDiff]
  exact ex_ret ⟨.inl rfl, _, congrArg bl (by simp_all [isCp] <;> (intros; omega)), rfl⟩
 ·simp only [ltb,go_sem,reduceIte,reduceAdd,reduceLT,reduceLeDiff,reduceMul,reduceEqDiff,reduceSub,reduceCtorEq,List.take_length]
  refine hK _ _ rfl ?_
  simp only [mwb,reduceAdd,reduceEqDiff]
  exact ex_ret ⟨.inl rfl, _, congrArg bl (by simp_all [isCp] <;> (intros; omega)), rfl⟩
theorem digit_ex (c : Int) : ∃ r, (fun v => v = bl (isDg c)) r ∧ FnOk Tryz.prog 169 [.sc (.int .u8 c)] r := by
 refine fn_ex tt_ok (fn := Tryz.f169) Tryz.func169 rfl Tryz.call169 ?_
 simp only [ltb,startSt,Tryz.ntmps169,List.length_cons,List.length_nil,reduceAdd,reduceSub,List.replicate_succ,List.replicate_zero]
 refine ex_region_w tt_ok 9 [0,0,2] [] rfl rfl fun K hK => ?_
 try simp only [ltb]
 simp only [ltb,go_sem,reduceIte,reduceAdd,reduceLT,reduceLeDiff,reduceMul,reduceEqDiff,reduceSub,reduceCtorEq,List.take_length]
 refine hK _ _ rfl ?_
 simp only [mwb,reduceAdd,reduceEqDiff]
 refine ex_region_w tt_ok 9 [0,0,2,1,1,1,1,1,1] [(2, 5)] rfl rfl fun K hK => ?_
 try simp only [ltb]
 refine runX_cut 3 fun K1 hK1 => ?_
 simp only [ltb,go_sem,reduceIte,reduceAdd,reduceLT,reduceLeDiff,reduceMul,reduceEqDiff,reduceSub,reduceCtorEq,List.take_length]
 refine hK1 _ ?_
 refine runX_case 5 (by rfl) fun b hb1_2 => ?_
 cases b
 ·simp only [ltb,go_sem,reduceIte,reduceAdd,reduceLT,reduceLeDiff,reduceMul,reduceEqDiff,reduceSub,reduceCtorEq,List.take_length]
  refine hK _ _ rfl ?_
  simp only [mwb,reduceAdd,reduceEqDiff]
  exact ex_ret ⟨.inl rfl, _, congrArg bl (by simp_all [isDg] <;> (intros; omega)), rfl⟩
 ·simp only [ltb,go_sem,reduceIte,reduceAdd,reduceLT,reduceLeDiff,reduceMul,reduceEqDiff,reduceSub,reduceCtorEq,List.take_length]
  refine hK _ _ rfl ?_
  simp only [mwb,reduceAdd,reduceEqDiff]
  exact ex_ret ⟨.inl rfl, _, congrArg bl (by simp_all [isDg] <;> (intros; omega)), rfl⟩
theorem rsmall_ex (c : Int) : ∃ r, (fun v => v = bl (isSm c)) r ∧ FnOk Tryz.prog 191 [.sc (.int .u8 c)] r := by
 refine fn_ex tt_ok (fn := Tryz.f191) Tryz.func191 rfl Tryz.call191 ?_
 simp only [ltb,startSt,Tryz.ntmps191,List.length_cons,List.length_nil,reduceAdd,reduceSub,List.replicate_succ,List.replicate_zero]
 refine ex_region_w tt_ok 9 [0,0,2] [] rfl rfl fun K hK => ?_
 try simp only [ltb]
 simp only [ltb,go_sem,reduceIte,reduceAdd,reduceLT,reduceLeDiff,reduceMul,reduceEqDiff,reduceSub,reduceCtorEq,List.take_length]
 refine hK _ _ rfl ?_
 simp only [mwb,reduceAdd,reduceEqDiff]
 refine ex_region_w tt_ok 9 [0,0,2,1,1,1,1,1,1] [(2, 5)] rfl rfl fun K hK => ?_
 try simp only [ltb]
 refine runX_cut 3 fun K1 hK1 => ?_
 simp only [ltb,go_sem,reduceIte,reduceAdd,reduceLT,reduceLeDiff,reduceMul,reduceEqDiff,reduceSub,reduceCtorEq,List.take_length]
 refine hK1 _ ?_
 refine runX_case 5 (by rfl) fun b hb1_2 => ?_
 cases b
 ·simp only [ltb,go_sem,reduceIte,reduceAdd,reduceLT,reduceLeDiff,reduceMul,reduceEqDiff,reduceSub,reduceCtorEq,List.take_length]
  refine hK _ _ rfl ?_
  simp only [mwb,reduceAdd,reduceEqDiff]
  exact ex_ret ⟨.inl rfl, _, congrArg bl (by simp_all [isSm] <;> (intros; omega)), rfl⟩
 ·simp only [ltb,go_sem,reduceIte,reduceAdd,reduceLT,reduceLeDiff,reduceMul,reduceEqDiff,reduceSub,reduceCtorEq,List.take_length]
  refine hK _ _ rfl ?_
  simp only [mwb,reduceAdd,reduceEqDiff]
  exact ex_ret ⟨.inl rfl, _, congrArg bl (by simp_all [isSm] <;> (intros; omega)), rfl⟩
theorem rcapital_ex (c : Int) : ∃ r, (fun v => v = bl (isCp c)) r ∧ FnOk Tryz.prog 121 [.sc (.int .u8 c)] r := by
 refine fn_ex tt_ok (fn := Tryz.f121) Tryz.func121 rfl Tryz.call121 ?_
 simp only [ltb,startSt,Tryz.ntmps121,List.length_cons,List.length_nil,reduceAdd,reduceSub,List.replicate_succ,List.replicate_zero]
 refine ex_region_w tt_ok 9 [0,0,2] [] rfl rfl fun K hK => ?_
 try simp only [ltb]
 simp only [ltb,go_sem,reduceIte,reduceAdd,reduceLT,reduceLeDiff,reduceMul,reduceEqDiff,reduceSub,reduceCtorEq,List.take_length]
 refine hK _ _ rfl ?_
 simp only [mwb,reduceAdd,reduceEqDiff]
 refine ex_region_w tt_ok 9 [0,0,2,1,1,1,1,1,1] [(2, 5)] rfl rfl fun K hK => ?_
 try simp only [ltb]
 refine runX_cut 3 fun K1 hK1 => ?_
 simp only [ltb,go_sem,reduceIte,reduceAdd,reduceLT,reduceLeDiff,reduceMul,reduceEqDiff,reduceSub,reduceCtorEq,List.take_length]
 refine hK1 _ ?_
 refine runX_case 5 (by rfl) fun b hb1_2 => ?_
 cases b
 ·simp only [ltb,go_sem,reduceIte,reduceAdd,reduceLT,reduceLeDiff,reduceMul,reduceEqDiff,reduceSub,reduceCtorEq,List.take_length]
  refine hK _ _ rfl ?_
  simp only [mwb,reduceAdd,reduceEqDiff]
  exact ex_ret ⟨.inl rfl, _, congrArg bl (by simp_all [isCp] <;> (intros; omega)), rfl⟩
 ·simp only [ltb,go_sem,reduceIte,reduceAdd,reduceLT,reduceLeDiff,reduceMul,reduceEqDiff,reduceSub,reduceCtorEq,List.take_length]
  refine hK _ _ rfl ?_
  simp only [mwb,reduceAdd,reduceEqDiff]
  exact ex_ret ⟨.inl rfl, _, congrArg bl (by simp_all [isCp] <;> (intros; omega)), rfl⟩
theorem rdigit_ex (c : Int) : ∃ r, (fun v => v = bl (isDg c)) r ∧ FnOk Tryz.prog 192 [.sc (.int .u8 c)] r := by
 refine fn_ex tt_ok (fn := Tryz.f192) Tryz.func192 rfl Tryz.call192 ?_
 simp only [ltb,startSt,Tryz.ntmps192,List.length_cons,List.length_nil,reduceAdd,reduceSub,List.replicate_succ,List.replicate_zero]
 refine ex_region_w tt_ok 9 [0,0,2] [] rfl rfl fun K hK => ?_
 try simp only [ltb]
 simp only [ltb,go_sem,reduceIte,reduceAdd,reduceLT,reduceLeDiff,reduceMul,reduceEqDiff,reduceSub,reduceCtorEq,List.take_length]
 refine hK _ _ rfl ?_
 simp only [mwb,reduceAdd,reduceEqDiff]
 refine ex_region_w tt_ok 9 [0,0,2,1,1,1,1,1,1] [(2, 5)] rfl rfl fun K hK => ?_
 try simp only [ltb]
 refine runX_cut 3 fun K1 hK1 => ?_
 simp only [ltb,go_sem,reduceIte,reduceAdd,reduceLT,reduceLeDiff,reduceMul,reduceEqDiff,reduceSub,reduceCtorEq,List.take_length]
 refine hK1 _ ?_
 refine runX_case 5 (by rfl) fun b hb1_2 => ?_
 cases b
 ·simp only [ltb,go_sem,reduceIte,reduceAdd,reduceLT,reduceLeDiff,reduceMul,reduceEqDiff,reduceSub,reduceCtorEq,List.take_length]
  refine hK _ _ rfl ?_
  simp only [mwb,reduceAdd,reduceEqDiff]
  exact ex_ret ⟨.inl rfl, _, congrArg bl (by simp_all [isDg] <;> (intros; omega)), rfl⟩
 ·simp only [ltb,go_sem,reduceIte,reduceAdd,reduceLT,reduceLeDiff,reduceMul,reduceEqDiff,reduceSub,reduceCtorEq,List.take_length]
  refine hK _ _ rfl ?_
  simp only [mwb,reduceAdd,reduceEqDiff]
  exact ex_ret ⟨.inl rfl, _, congrArg bl (by simp_all [isDg] <;> (intros; omega)), rfl⟩
theorem word_ex (c : Int) : ∃ r, (fun v => v = bl (isWd c)) r ∧ FnOk Tryz.prog 120 [.sc (.int .u8 c)] r := by
 refine fn_ex tt_ok (fn := Tryz.f120) Tryz.func120 rfl Tryz.call120 ?_
 simp only [ltb,startSt,Tryz.ntmps120,List.length_cons,List.length_nil,reduceAdd,reduceSub,List.replicate_succ,List.replicate_zero]
 refine ex_region_w tt_ok 17 [0,0,2] [] rfl rfl fun K hK => ?_
 try simp only [ltb]
 simp only [ltb,go_sem,reduceIte,reduceAdd,reduceLT,reduceLeDiff,reduceMul,reduceEqDiff,reduceSub,reduceCtorEq,List.take_length]
 refine hK _ _ rfl ?_
 simp only [mwb,reduceAdd,reduceEqDiff]
 refine ex_region_w tt_ok 17 (0::0::2::(rp 14 1 [])) [(2, 5), (6, 9), (10, 13)] rfl rfl fun K hK => ?_
 try simp only [ltb]
 refine runX_cut 2 fun K1 hK1 => ?_
 simp only [ltb,go_sem,reduceIte,reduceAdd,reduceLT,reduceLeDiff,reduceMul,reduceEqDiff,reduceSub,reduceCtorEq,List.take_length]
 refine callF_ex (small_ex _) ?_
 rintro _ rfl
 try simp only [go_sem,reduceIte,reduceAdd,reduceLT,reduceLeDiff,reduceMul,reduceEqDiff,reduceSub,reduceCtorEq,List.take_length]
 refine hK1 _ ?_
 refine runX_cut 1 fun K1 hK1 => ?_
 simp only [ltb,go_sem,reduceIte,reduceAdd,reduceLT,reduceLeDiff,reduceMul,reduceEqDiff,reduceSub,reduceCtorEq,List.take_length]
 refine hK1 _ ?_
 refine runX_case 5 (by rfl) fun b hb1_2 => ?_
 cases b
 ·refine runX_cut 2 fun K1 hK1 => ?_
  simp only [ltb,go_sem,reduceIte,reduceAdd,reduceLT,reduceLeDiff,reduceMul,reduceEqDiff,reduceSub,reduceCtorEq,List.take_length]
  refine callF_ex (capital_ex _) ?_
  rintro _ rfl
  try simp only [go_sem,reduceIte,reduceAdd,reduceLT,reduceLeDiff,reduceMul,reduceEqDiff,reduceSub,reduceCtorEq,List.take_length]
  refine hK1 _ ?_
  refine runX_cut 2 fun K1 hK1 => ?_
  simp only [ltb,go_sem,reduceIte,reduceAdd,reduceLT,reduceLeDiff,reduceMul,reduceEqDiff,reduceSub,reduceCtorEq,List.take_length]
  refine hK1 _ ?_
  refine runX_case 9 (by rfl) fun b hb1_6 => ?_
  cases b
  ·refine runX_cut 2 fun K1 hK1 => ?_
   simp only [ltb,go_sem,reduceIte,reduceAdd,reduceLT,reduceLeDiff,reduceMul,reduceEqDiff,reduceSub,reduceCtorEq,List.take_length]
   refine callF_ex (digit_ex _) ?_
   rintro _ rfl
   try simp only [go_sem,reduceIte,reduceAdd,reduceLT,reduceLeDiff,reduceMul,reduceEqDiff,reduceSub,reduceCtorEq,List.take_length]
   refine hK1 _ ?_
   refine runX_cut 2 fun K1 hK1 => ?_
   simp only [ltb,go_sem,reduceIte,reduceAdd,reduceLT,reduceLeDiff,reduceMul,reduceEqDiff,reduceSub,reduceCtorEq,List.take_length]
   refine hK1 _ ?_
   refine runX_case 13 (by rfl) fun b hb1_10 => ?_
   cases b
   ·simp only [ltb,go_sem,reduceIte,reduceAdd,reduceLT,reduceLeDiff,reduceMul,reduceEqDiff,reduceSub,reduceCtorEq,List.take_length]
    refine hK _ _ rfl ?_
    simp only [mwb,reduceAdd,reduceEqDiff]
    exact ex_ret ⟨.inl rfl, _, congrArg bl (by simp_all [isWd]), rfl⟩
   ·simp only [ltb,go_sem,reduceIte,reduceAdd,reduceLT,reduceLeDiff,reduceMul,reduceEqDiff,reduceSub,reduceCtorEq,List.take_length]
    refine hK _ _ rfl ?_
    simp only [mwb,reduceAdd,reduceEqDiff]
    exact ex_ret ⟨.inl rfl, _, congrArg bl (by simp_all [isWd]), rfl⟩
  ·simp only [ltb,go_sem,reduceIte,reduceAdd,reduceLT,reduceLeDiff,reduceMul,reduceEqDiff,reduceSub,reduceCtorEq,List.take_length]
   refine hK _ _ rfl ?_
   simp only [mwb,reduceAdd,reduceEqDiff]
   exact ex_ret ⟨.inl rfl, _, congrArg bl (by simp_all [isWd]), rfl⟩
 ·refine runX_cut 8 fun K1 hK1 => ?_
  simp only [ltb,go_sem,reduceIte,reduceAdd,reduceLT,reduceLeDiff,reduceMul,reduceEqDiff,reduceSub,reduceCtorEq,List.take_length]
  refine hK1 _ ?_
  simp only [ltb,go_sem,reduceIte,reduceAdd,reduceLT,reduceLeDiff,reduceMul,reduceEqDiff,reduceSub,reduceCtorEq,List.take_length]
  refine hK _ _ rfl ?_
  simp only [mwb,reduceAdd,reduceEqDiff]
  exact ex_ret ⟨.inl rfl, _, congrArg bl (by simp_all [isWd]), rfl⟩
theorem rword_ex (c : Int) : ∃ r, (fun v => v = bl (isWd c)) r ∧ FnOk Tryz.prog 170 [.sc (.int .u8 c)] r := by
 refine fn_ex tt_ok (fn := Tryz.f170) Tryz.func170 rfl Tryz.call170 ?_
 simp only [ltb,startSt,Tryz.ntmps170,List.length_cons,List.length_nil,reduceAdd,reduceSub,List.replicate_succ,List.replicate_zero]
 refine ex_region_w tt_ok 17 [0,0,2] [] rfl rfl fun K hK => ?_
 try simp only [ltb]
 simp only [ltb,go_sem,reduceIte,reduceAdd,reduceLT,reduceLeDiff,reduceMul,reduceEqDiff,reduceSub,reduceCtorEq,List.take_length]
 refine hK _ _ rfl ?_
 simp only [mwb,reduceAdd,reduceEqDiff]
 refine ex_region_w tt_ok 17 (0::0::2::(rp 14 1 [])) [(2, 5), (6, 9), (10, 13)] rfl rfl fun K hK => ?_
 try simp only [ltb]
 refine runX_cut 2 fun K1 hK1 => ?_
 simp only [ltb,go_sem,reduceIte,reduceAdd,reduceLT,reduceLeDiff,reduceMul,reduceEqDiff,reduceSub,reduceCtorEq,List.take_length]
 refine callF_ex (rsmall_ex _) ?_
 rintro _ rfl
 try simp only [go_sem,reduceIte,reduceAdd,reduceLT,reduceLeDiff,reduceMul,reduceEqDiff,reduceSub,reduceCtorEq,List.take_length]
 refine hK1 _ ?_
 refine runX_cut 1 fun K1 hK1 => ?_
 simp only [ltb,go_sem,reduceIte,reduceAdd,reduceLT,reduceLeDiff,reduceMul,reduceEqDiff,reduceSub,reduceCtorEq,List.take_length]
 refine hK1 _ ?_
 refine runX_case 5 (by rfl) fun b hb1_2 => ?_
 cases b
 ·refine runX_cut 2 fun K1 hK1 => ?_
  simp only [ltb,go_sem,reduceIte,reduceAdd,reduceLT,reduceLeDiff,reduceMul,reduceEqDiff,reduceSub,reduceCtorEq,List.take_length]
  refine callF_ex (rcapital_ex _) ?_
  rintro _ rfl
  try simp only [go_sem,reduceIte,reduceAdd,reduceLT,reduceLeDiff,reduceMul,reduceEqDiff,reduceSub,reduceCtorEq,List.take_length]
  refine hK1 _ ?_
  refine runX_cut 2 fun K1 hK1 => ?_
  simp only [ltb,go_sem,reduceIte,reduceAdd,reduceLT,reduceLeDiff,reduceMul,reduceEqDiff,reduceSub,reduceCtorEq,List.take_length]
  refine hK1 _ ?_
  refine runX_case 9 (by rfl) fun b hb1_6 => ?_
  cases b
  ·refine runX_cut 2 fun K1 hK1 => ?_
   simp only [ltb,go_sem,reduceIte,reduceAdd,reduceLT,reduceLeDiff,reduceMul,reduceEqDiff,reduceSub,reduceCtorEq,List.take_length]
   refine callF_ex (rdigit_ex _) ?_
   rintro _ rfl
   try simp only [go_sem,reduceIte,reduceAdd,reduceLT,reduceLeDiff,reduceMul,reduceEqDiff,reduceSub,reduceCtorEq,List.take_length]
   refine hK1 _ ?_
   refine runX_cut 2 fun K1 hK1 => ?_
   simp only [ltb,go_sem,reduceIte,reduceAdd,reduceLT,reduceLeDiff,reduceMul,reduceEqDiff,reduceSub,reduceCtorEq,List.take_length]
   refine hK1 _ ?_
   refine runX_case 13 (by rfl) fun b hb1_10 => ?_
   cases b
   ·simp only [ltb,go_sem,reduceIte,reduceAdd,reduceLT,reduceLeDiff,reduceMul,reduceEqDiff,reduceSub,reduceCtorEq,List.take_length]
    refine hK _ _ rfl ?_
    simp only [mwb,reduceAdd,reduceEqDiff]
    exact ex_ret ⟨.inl rfl, _, congrArg bl (by simp_all [isWd]), rfl⟩
   ·simp only [ltb,go_sem,reduceIte,reduceAdd,reduceLT,reduceLeDiff,reduceMul,reduceEqDiff,reduceSub,reduceCtorEq,List.take_length]
    refine hK _ _ rfl ?_
    simp only [mwb,reduceAdd,reduceEqDiff]
    exact ex_ret ⟨.inl rfl, _, congrArg bl (by simp_all [isWd]), rfl⟩
  ·simp only [ltb,go_sem,reduceIte,reduceAdd,reduceLT,reduceLeDiff,reduceMul,reduceEqDiff,reduceSub,reduceCtorEq,List.take_length]
   refine hK _ _ rfl ?_
   simp only [mwb,reduceAdd,reduceEqDiff]
   exact ex_ret ⟨.inl rfl, _, congrArg bl (by simp_all [isWd]), rfl⟩
 ·refine runX_cut 8 fun K1 hK1 => ?_
  simp only [ltb,go_sem,reduceIte,reduceAdd,reduceLT,reduceLeDiff,reduceMul,reduceEqDiff,reduceSub,reduceCtorEq,List.take_length]
  refine hK1 _ ?_
  simp only [ltb,go_sem,reduceIte,reduceAdd,reduceLT,reduceLeDiff,reduceMul,reduceEqDiff,reduceSub,reduceCtorEq,List.take_length]
  refine hK _ _ rfl ?_
  simp only [mwb,reduceAdd,reduceEqDiff]
  exact ex_ret ⟨.inl rfl, _, congrArg bl (by simp_all [isWd]), rfl⟩
theorem all_ex (g : FuncId) (p : Int → Bool) (hg : ∀ c : Int, ∃ r, (fun v => v = bl (p c)) r ∧ FnOk Tryz.prog g [.sc (.int .u8 c)] r) (s : ByteArray) (hs : s.size ≤ 1048576) : ∃ r, (fun v => v = bl (allP p s)) r ∧ FnOk Tryz.prog 119 [str s, .sc (.func (.func g) #[] #[])] r := by
 refine fn_ex tt_ok (fn := Tryz.f119) Tryz.func119 rfl Tryz.call119 ?_
 simp only [ltb,startSt,Tryz.ntmps119,List.length_cons,List.length_nil,reduceAdd,reduceSub,List.replicate_succ,List.replicate_zero]
 have hT9 : Tryz.prog.underlying 9 = some .string := by kernel_rfl
 have sl : ∀ (a : ByteArray) (ty : TypeId), liftL Tryz.prog (Builtin.len_ #[9] ty) [.sc (.string a)] = some (num a.size) := fun a ty => ev_slen (P := Tryz.prog) (tt := tt) (T := 9) a hT9 ty
 refine ex_region_w tt_ok 18 [0,0,0,0,2] [] rfl rfl fun K hK => ?_
 try simp only [ltb]
 try simp only [ltb]
 simp only [sl,go_sem,reduceIte,reduceAdd,reduceLT,reduceLeDiff,reduceMul,reduceEqDiff,reduceSub,reduceCtorEq,List.take_length]
 refine hK _ _ rfl ?_
 simp only [mwb,reduceAdd,reduceEqDiff]
 refine ex_seq ?_
 refine ex_region_w tt_ok 18 [0,0,0,0,0,0,1,2,2] [] rfl rfl fun K hK => ?_
 try simp only [ltb]
 try simp only [ltb]
 simp only [sl,go_sem,reduceIte,reduceAdd,reduceLT,reduceLeDiff,reduceMul,reduceEqDiff,reduceSub,reduceCtorEq,List.take_length]
 refine hK _ _ rfl ?_
 simp only [mwb,reduceAdd,reduceEqDiff]
 refine ex_block ?_
 refine ex_loopK [8] [num 0] 0 [true,true,false,false,true,false,false,true,true] (fun vs => ((s.size : Int) - intOf (vs.headD .undef)).toNat) (fun vs => ∃ i : Nat, vs = [num i] ∧ i ≤ s.size ∧ ∀ j < i, ∀ b, s[j]? = some b → p b.toNat = true) (by omega) (by simp only [maskFr,belowV,belowL,belowB,reduceLT,mkb]) (by simp only [maskFr,belowV,belowL,belowB,reduceLT,mkb]) (by rfl) (⟨0, rfl, Nat.zero_le _, fun j hj => absurd hj (Nat.not_lt_zero j)⟩) fun vs hI => ?_
 obtain ⟨i, rfl, hi, hno⟩ := hI
 simp only [maskFr,belowV,belowL,belowB,reduceLT,putAll,List.set_cons_zero,List.set_cons_succ,mkb]
 refine ex_region_w tt_ok 18 (rp 9 0 [2]) [] rfl rfl fun K hK => ?_
 try simp only [ltb]
 try simp only [ltb]
 simp only [sl,go_sem,reduceIte,reduceAdd,reduceLT,reduceLeDiff,reduceMul,reduceEqDiff,reduceSub,reduceCtorEq,List.take_length]
 refine hK _ _ rfl ?_
 simp only [mwb,reduceAdd,reduceEqDiff]
 refine ex_seq ?_
 refine ex_if rfl (fun hc9 => ?_) (fun hc9 => ?_)
 ·have hlt : i < s.size := by simpa using hc9
  have hw := i64_succ i (by omega)
  obtain ⟨c, hcb⟩ := get_byte (s := s) (i := i) hlt
  have hix := ev_index (P := Tryz.prog) s hT9 .i64 (i : Int) (by omega) (c := c) (show s[((i : Nat) : Int).toNat]? = some c from hcb)
  refine ex_skip ?_
  show Go.Eng.Ex _ _ _ _ _ _
  refine ex_seq ?_
  refine ex_block ?_
  refine ex_region_w tt_ok 18 [0,0,0,0,0,2,0,0,0,0,1] [] rfl rfl fun K hK => ?_
  try simp only [ltb]
  try simp only [ltb]
  simp only [hw,hix,sl,go_sem,reduceIte,reduceAdd,reduceLT,reduceLeDiff,reduceMul,reduceEqDiff,reduceSub,reduceCtorEq,List.take_length]
  refine hK _ _ rfl ?_
  simp only [mwb,reduceAdd,reduceEqDiff]
  refine ex_region_w tt_ok 18 (rp 11 0 [1,1,1,1,1,2]) [] rfl rfl fun K hK => ?_
  try simp only [ltb]
  refine runX_cut 5 fun K1 hK1 => ?_
  simp only [ltb]
  simp only [hw,hix,sl,go_sem,reduceIte,reduceAdd,reduceLT,reduceLeDiff,reduceMul,reduceEqDiff,reduceSub,reduceCtorEq,List.take_length]
  refine callF_ex (hg _) ?_
  rintro _ rfl
  try simp only [hw,hix,sl,go_sem,reduceIte,reduceAdd,reduceLT,reduceLeDiff,reduceMul,reduceEqDiff,reduceSub,reduceCtorEq,List.take_length]
  refine hK1 _ ?_
  try simp only [ltb]
  simp only [hw,hix,sl,go_sem,reduceIte,reduceAdd,reduceLT,reduceLeDiff,reduceMul,reduceEqDiff,reduceSub,reduceCtorEq,List.take_length]
  refine hK _ _ rfl ?_
  simp only [mwb,reduceAdd,reduceEqDiff]
  refine ex_if rfl (fun hc16 => ?_) (fun hc16 => ?_)
  ·have hres : false = allP p s := (allP_false hcb (by simpa using hc16)).symm
   refine ex_region_w tt_ok 18 [0,0,0,0,2] [] rfl rfl fun K hK => ?_
   try simp only [ltb]
   try simp only [ltb]
   simp only [hw,hix,sl,go_sem,reduceIte,reduceAdd,reduceLT,reduceLeDiff,reduceMul,reduceEqDiff,reduceSub,reduceCtorEq,List.take_length]
   refine hK _ _ rfl ?_
   simp only [mwb,reduceAdd,reduceEqDiff]
   exact ex_ret ⟨.inl rfl, _, congrArg bl hres, rfl⟩
  ·refine ex_skip ?_
   show Go.Eng.Ex _ _ _ _ _ _
   refine ex_last_region_w tt_ok 18 (rp 8 0 (2::(rp 8 0 [2]))) [] (by kernel_rfl) rfl rfl fun K hK => ?_
   try simp only [ltb]
   try simp only [ltb]
   simp only [hw,hix,sl,go_sem,reduceIte,reduceAdd,reduceLT,reduceLeDiff,reduceMul,reduceEqDiff,reduceSub,reduceCtorEq,List.take_length]
   refine hK _ _ rfl ?_
   simp only [mwb,reduceAdd,reduceEqDiff]
   refine ⟨[_], ?_, ?_, 0, [true,true,false,false,true,false,false,true,true], by omega, by simp only [maskFr,belowV,belowL,belowB,reduceLT,mkb], by simp only [maskFr,belowV,belowL,belowB,reduceLT,mkb], by simp only [maskFr,belowV,belowL,belowB,reduceLT,putAll,List.set_cons_zero,List.set_cons_succ,mkb]; rfl⟩
   ·refine ⟨i + 1, rfl, hlt, fun j hj b hb => ?_⟩
    rcases Nat.lt_or_ge j i with h | h
    ·exact hno j h b hb
    ·obtain rfl : j = i := by omega
     rw [hcb] at hb; cases hb; simpa using hc16
   ·simp only [intOf,List.headD_cons]; omega
 ·have hge : ¬ i < s.size := by simpa using hc9
  have hres : true = allP p s := (allP_true fun j hj b hb => hno j (by omega) b hb).symm
  refine ex_exit ?_
  show Go.Eng.Ex _ _ _ _ _ _
  refine ex_region_w tt_ok 18 [0,0,0,0,2] [] rfl rfl fun K hK => ?_
  try simp only [ltb]
  try simp only [ltb]
  simp only [sl,go_sem,reduceIte,reduceAdd,reduceLT,reduceLeDiff,reduceMul,reduceEqDiff,reduceSub,reduceCtorEq,List.take_length]
  refine hK _ _ rfl ?_
  simp only [mwb,reduceAdd,reduceEqDiff]
  exact ex_ret ⟨.inl rfl, _, congrArg bl hres, rfl⟩
theorem words_ex (s : ByteArray) (hs : s.size ≤ 1048576) : ∃ r, (fun v => v = bl (allP isWd s)) r ∧ FnOk Tryz.prog 122 [str s] r := by
 refine fn_ex tt_ok (fn := Tryz.f122) Tryz.func122 rfl Tryz.call122 ?_
 simp only [ltb,startSt,Tryz.ntmps122,List.length_cons,List.length_nil,reduceAdd,reduceSub,List.replicate_succ,List.replicate_zero]
 have hT9 : Tryz.prog.underlying 9 = some .string := by kernel_rfl
 have sl : ∀ (a : ByteArray) (ty : TypeId), liftL Tryz.prog (Builtin.len_ #[9] ty) [.sc (.string a)] = some (num a.size) := fun a ty => ev_slen (P := Tryz.prog) (tt := tt) (T := 9) a hT9 ty
 refine ex_region_w tt_ok 15 [0,0,2] [] rfl rfl fun K hK => ?_
 try simp only [ltb]
 try simp only [ltb]
 simp only [sl,go_sem,reduceIte,reduceAdd,reduceLT,reduceLeDiff,reduceMul,reduceEqDiff,reduceSub,reduceCtorEq,List.take_length]
 refine hK _ _ rfl ?_
 simp only [mwb,reduceAdd,reduceEqDiff]
 refine ex_seq ?_
 refine ex_region_w tt_ok 15 [0,0,0,2] [] rfl rfl fun K hK => ?_
 try simp only [ltb]
 try simp only [ltb]
 simp only [sl,go_sem,reduceIte,reduceAdd,reduceLT,reduceLeDiff,reduceMul,reduceEqDiff,reduceSub,reduceCtorEq,List.take_length]
 refine hK _ _ rfl ?_
 simp only [mwb,reduceAdd,reduceEqDiff]
 refine ex_block ?_
 refine ex_loopK [3] [num 0] 0 [true,false,true,true] (fun vs => ((s.size : Int) - intOf (vs.headD .undef)).toNat) (fun vs => ∃ i : Nat, vs = [num i] ∧ i ≤ s.size ∧ ∀ j < i, ∀ b, s[j]? = some b → isWd b.toNat = true) (by omega) (by simp only [maskFr,belowV,belowL,belowB,reduceLT,mkb]) (by simp only [maskFr,belowV,belowL,belowB,reduceLT,mkb]) (by rfl) (⟨0, rfl, Nat.zero_le _, fun j hj => absurd hj (Nat.not_lt_zero j)⟩) fun vs hI => ?_
 obtain ⟨i, rfl, hi, hno⟩ := hI
 simp only [maskFr,belowV,belowL,belowB,reduceLT,putAll,List.set_cons_zero,List.set_cons_succ,mkb]
 refine ex_seq ?_
 refine ex_region_w tt_ok 15 [0,0,0,0,1,1,1,2] [] rfl rfl fun K hK => ?_
 try simp only [ltb]
 try simp only [ltb]
 simp only [sl,go_sem,reduceIte,reduceAdd,reduceLT,reduceLeDiff,reduceMul,reduceEqDiff,reduceSub,reduceCtorEq,List.take_length]
 refine hK _ _ rfl ?_
 simp only [mwb,reduceAdd,reduceEqDiff]
 refine ex_if rfl (fun hc7 => ?_) (fun hc7 => ?_)
 ·have hlt : i < s.size := by simpa using hc7
  have hw := i64_succ i (by omega)
  obtain ⟨c, hcb⟩ := get_byte (s := s) (i := i) hlt
  have hix := ev_index (P := Tryz.prog) s hT9 .i64 (i : Int) (by omega) (c := c) (show s[((i : Nat) : Int).toNat]? = some c from hcb)
  refine ex_skip ?_
  show Go.Eng.Ex _ _ _ _ _ _
  refine ex_seq ?_
  refine ex_block ?_
  refine ex_region_w tt_ok 15 (rp 10 0 [1,1,1,1,2]) [] rfl rfl fun K hK => ?_
  try simp only [ltb]
  refine runX_cut 4 fun K1 hK1 => ?_
  simp only [ltb]
  simp only [hw,hix,sl,go_sem,reduceIte,reduceAdd,reduceLT,reduceLeDiff,reduceMul,reduceEqDiff,reduceSub,reduceCtorEq,List.take_length]
  refine callF_ex (rword_ex _) ?_
  rintro _ rfl
  try simp only [hw,hix,sl,go_sem,reduceIte,reduceAdd,reduceLT,reduceLeDiff,reduceMul,reduceEqDiff,reduceSub,reduceCtorEq,List.take_length]
  refine hK1 _ ?_
  try simp only [ltb]
  simp only [hw,hix,sl,go_sem,reduceIte,reduceAdd,reduceLT,reduceLeDiff,reduceMul,reduceEqDiff,reduceSub,reduceCtorEq,List.take_length]
  refine hK _ _ rfl ?_
  simp only [mwb,reduceAdd,reduceEqDiff]
  refine ex_if rfl (fun hc14 => ?_) (fun hc14 => ?_)
  ·have hres : false = allP isWd s := (allP_false hcb (by simpa using hc14)).symm
   refine ex_region_w tt_ok 15 [0,0,2] [] rfl rfl fun K hK => ?_
   try simp only [ltb]
   try simp only [ltb]
   simp only [hw,hix,sl,go_sem,reduceIte,reduceAdd,reduceLT,reduceLeDiff,reduceMul,reduceEqDiff,reduceSub,reduceCtorEq,List.take_length]
   refine hK _ _ rfl ?_
   simp only [mwb,reduceAdd,reduceEqDiff]
   exact ex_ret ⟨.inl rfl, _, congrArg bl hres, rfl⟩
  ·refine ex_skip ?_
   show Go.Eng.Ex _ _ _ _ _ _
   refine ex_last_region_w tt_ok 15 [0,0,0,2,0,0,0,0,2,2] [] (by kernel_rfl) rfl rfl fun K hK => ?_
   try simp only [ltb]
   try simp only [ltb]
   simp only [hw,hix,sl,go_sem,reduceIte,reduceAdd,reduceLT,reduceLeDiff,reduceMul,reduceEqDiff,reduceSub,reduceCtorEq,List.take_length]
   refine hK _ _ rfl ?_
   simp only [mwb,reduceAdd,reduceEqDiff]
   refine ⟨[_], ?_, ?_, 0, [true,false,true,true], by omega, by simp only [maskFr,belowV,belowL,belowB,reduceLT,mkb], by simp only [maskFr,belowV,belowL,belowB,reduceLT,mkb], by simp only [maskFr,belowV,belowL,belowB,reduceLT,putAll,List.set_cons_zero,List.set_cons_succ,mkb]; rfl⟩
   ·refine ⟨i + 1, rfl, hlt, fun j hj b hb => ?_⟩
    rcases Nat.lt_or_ge j i with h | h
    ·exact hno j h b hb
    ·obtain rfl : j = i := by omega
     rw [hcb] at hb; cases hb; simpa using hc14
   ·simp only [intOf,List.headD_cons]; omega
 ·have hge : ¬ i < s.size := by simpa using hc7
  have hres : true = allP isWd s := (allP_true fun j hj b hb => hno j (by omega) b hb).symm
  refine ex_exit ?_
  show Go.Eng.Ex _ _ _ _ _ _
  refine ex_region_w tt_ok 15 [0,0,2] [] rfl rfl fun K hK => ?_
  try simp only [ltb]
  try simp only [ltb]
  simp only [sl,go_sem,reduceIte,reduceAdd,reduceLT,reduceLeDiff,reduceMul,reduceEqDiff,reduceSub,reduceCtorEq,List.take_length]
  refine hK _ _ rfl ?_
  simp only [mwb,reduceAdd,reduceEqDiff]
  exact ex_ret ⟨.inl rfl, _, congrArg bl hres, rfl⟩
theorem isType_ex (s : ByteArray) : ∃ r, (fun v => v = bl (isTy s)) r ∧ FnOk Tryz.prog 78 [str s] r := by
 refine fn_ex tt_ok (fn := Tryz.f78) Tryz.func78 rfl Tryz.call78 ?_
 simp only [ltb,startSt,Tryz.ntmps78,List.length_cons,List.length_nil,reduceAdd,reduceSub,List.replicate_succ,List.replicate_zero]
 have hT9 : Tryz.prog.underlying 9 = some .string := by kernel_rfl
 have sl : ∀ (a : ByteArray) (ty : TypeId), liftL Tryz.prog (Builtin.len_ #[9] ty) [.sc (.string a)] = some (num a.size) := fun a ty => ev_slen (P := Tryz.prog) (tt := tt) (T := 9) a hT9 ty
 refine ex_region_w tt_ok 19 [0,0,2] [] rfl rfl fun K hK => ?_
 try simp only [ltb]
 try simp only [ltb]
 simp only [sl,go_sem,reduceIte,reduceAdd,reduceLT,reduceLeDiff,reduceMul,reduceEqDiff,reduceSub,reduceCtorEq,List.take_length]
 refine hK _ _ rfl ?_
 simp only [mwb,reduceAdd,reduceEqDiff]
 refine ex_region_w tt_ok 19 (0::0::2::(rp 16 1 [])) [(2, 5), (7, 10), (12, 15)] rfl rfl fun K hK => ?_
 try simp only [ltb]
 refine runX_cut 3 fun K1 hK1 => ?_
 simp only [ltb]
 simp only [sl,go_sem,reduceIte,reduceAdd,reduceLT,reduceLeDiff,reduceMul,reduceEqDiff,reduceSub,reduceCtorEq,List.take_length]
 refine hK1 _ ?_
 refine runX_case 5 (by rfl) fun b hb1_2 => ?_
 cases b
 ·have h1 := size_eq0 rfl hb1_2
  refine runX_cut 8 fun K1 hK1 => ?_
  simp only [ltb]
  simp only [sl,go_sem,reduceIte,reduceAdd,reduceLT,reduceLeDiff,reduceMul,reduceEqDiff,reduceSub,reduceCtorEq,List.take_length]
  refine hK1 _ ?_
  try simp only [ltb]
  simp only [sl,go_sem,reduceIte,reduceAdd,reduceLT,reduceLeDiff,reduceMul,reduceEqDiff,reduceSub,reduceCtorEq,List.take_length]
  refine hK _ _ rfl ?_
  simp only [mwb,reduceAdd,reduceEqDiff]
  exact ex_ret ⟨.inl rfl, _, congrArg bl (by simp_all [isTy] <;> (intros; omega)), rfl⟩
 ·have h1 := size_ne rfl hb1_2
  obtain ⟨cv0, hcbv0⟩ := get_byte (s := s) (i := (0 : Int).toNat) (by omega)
  have hixv0 := ev_index (P := Tryz.prog) s hT9 .i64 (0) (by omega) (c := cv0) hcbv0
  have hb0 : byteAt s 0 = cv0.toNat := byteAt_of hcbv0
  refine runX_cut 5 fun K1 hK1 => ?_
  simp only [ltb]
  simp only [hixv0,sl,go_sem,reduceIte,reduceAdd,reduceLT,reduceLeDiff,reduceMul,reduceEqDiff,reduceSub,reduceCtorEq,List.take_length]
  refine hK1 _ ?_
  refine runX_case 10 (by rfl) fun b hb1_7 => ?_
  cases b
  ·refine runX_cut 8 fun K1 hK1 => ?_
   simp only [ltb]
   simp only [hixv0,sl,go_sem,reduceIte,reduceAdd,reduceLT,reduceLeDiff,reduceMul,reduceEqDiff,reduceSub,reduceCtorEq,List.take_length]
   refine hK1 _ ?_
   try simp only [ltb]
   simp only [hixv0,sl,go_sem,reduceIte,reduceAdd,reduceLT,reduceLeDiff,reduceMul,reduceEqDiff,reduceSub,reduceCtorEq,List.take_length]
   refine hK _ _ rfl ?_
   simp only [mwb,reduceAdd,reduceEqDiff]
   exact ex_ret ⟨.inl rfl, _, congrArg bl (by simp_all [isTy] <;> (intros; omega)), rfl⟩
  ·refine runX_cut 3 fun K1 hK1 => ?_
   simp only [ltb]
   simp only [hixv0,sl,go_sem,reduceIte,reduceAdd,reduceLT,reduceLeDiff,reduceMul,reduceEqDiff,reduceSub,reduceCtorEq,List.take_length]
   refine callF_ex (capital_ex _) ?_
   rintro _ rfl
   try simp only [hixv0,sl,go_sem,reduceIte,reduceAdd,reduceLT,reduceLeDiff,reduceMul,reduceEqDiff,reduceSub,reduceCtorEq,List.take_length]
   refine hK1 _ ?_
   refine runX_cut 2 fun K1 hK1 => ?_
   simp only [ltb]
   simp only [hixv0,sl,go_sem,reduceIte,reduceAdd,reduceLT,reduceLeDiff,reduceMul,reduceEqDiff,reduceSub,reduceCtorEq,List.take_length]
   refine hK1 _ ?_
   refine runX_case 15 (by rfl) fun b hb1_12 => ?_
   cases b
   ·try simp only [ltb]
    simp only [hixv0,sl,go_sem,reduceIte,reduceAdd,reduceLT,reduceLeDiff,reduceMul,reduceEqDiff,reduceSub,reduceCtorEq,List.take_length]
    refine hK _ _ rfl ?_
    simp only [mwb,reduceAdd,reduceEqDiff]
    exact ex_ret ⟨.inl rfl, _, congrArg bl (by simp_all [isTy] <;> (intros; omega)), rfl⟩
   ·refine runX_cut 2 fun K1 hK1 => ?_
    simp only [ltb]
    simp only [hixv0,sl,go_sem,reduceIte,reduceAdd,reduceLT,reduceLeDiff,reduceMul,reduceEqDiff,reduceSub,reduceCtorEq,List.take_length]
    refine callF_ex (all_ex 120 isWd word_ex s (by have := of_decide_eq_true hb1_7; omega)) ?_
    rintro _ rfl
    try simp only [hixv0,sl,go_sem,reduceIte,reduceAdd,reduceLT,reduceLeDiff,reduceMul,reduceEqDiff,reduceSub,reduceCtorEq,List.take_length]
    refine hK1 _ ?_
    try simp only [ltb]
    simp only [hixv0,sl,go_sem,reduceIte,reduceAdd,reduceLT,reduceLeDiff,reduceMul,reduceEqDiff,reduceSub,reduceCtorEq,List.take_length]
    refine hK _ _ rfl ?_
    simp only [mwb,reduceAdd,reduceEqDiff]
    exact ex_ret ⟨.inl rfl, _, congrArg bl (by simp_all [isTy] <;> (intros; omega)), rfl⟩
theorem risType_ex (s : ByteArray) : ∃ r, (fun v => v = bl (isTy s)) r ∧ FnOk Tryz.prog 79 [str s] r := by
 refine fn_ex tt_ok (fn := Tryz.f79) Tryz.func79 rfl Tryz.call79 ?_
 simp only [ltb,startSt,Tryz.ntmps79,List.length_cons,List.length_nil,reduceAdd,reduceSub,List.replicate_succ,List.replicate_zero]
 have hT9 : Tryz.prog.underlying 9 = some .string := by kernel_rfl
 have sl : ∀ (a : ByteArray) (ty : TypeId), liftL Tryz.prog (Builtin.len_ #[9] ty) [.sc (.string a)] = some (num a.size) := fun a ty => ev_slen (P := Tryz.prog) (tt := tt) (T := 9) a hT9 ty
 refine ex_region_w tt_ok 20 [0,0,2] [] rfl rfl fun K hK => ?_
 try simp only [ltb]
 try simp only [ltb]
 simp only [sl,go_sem,reduceIte,reduceAdd,reduceLT,reduceLeDiff,reduceMul,reduceEqDiff,reduceSub,reduceCtorEq,List.take_length]
 refine hK _ _ rfl ?_
 simp only [mwb,reduceAdd,reduceEqDiff]
 refine ex_region_w tt_ok 20 (0::0::2::(rp 17 1 [])) [(3, 6), (8, 11), (13, 16)] rfl rfl fun K hK => ?_
 try simp only [ltb]
 refine runX_cut 4 fun K1 hK1 => ?_
 simp only [ltb]
 simp only [sl,go_sem,reduceIte,reduceAdd,reduceLT,reduceLeDiff,reduceMul,reduceEqDiff,reduceSub,reduceCtorEq,List.take_length]
 refine hK1 _ ?_
 refine runX_case 6 (by rfl) fun b hb1_3 => ?_
 cases b
 ·have h1 : s.size = 0 := by have := of_decide_eq_false hb1_3; omega
  refine runX_cut 8 fun K1 hK1 => ?_
  simp only [ltb]
  simp only [sl,go_sem,reduceIte,reduceAdd,reduceLT,reduceLeDiff,reduceMul,reduceEqDiff,reduceSub,reduceCtorEq,List.take_length]
  refine hK1 _ ?_
  try simp only [ltb]
  simp only [sl,go_sem,reduceIte,reduceAdd,reduceLT,reduceLeDiff,reduceMul,reduceEqDiff,reduceSub,reduceCtorEq,List.take_length]
  refine hK _ _ rfl ?_
  simp only [mwb,reduceAdd,reduceEqDiff]
  exact ex_ret ⟨.inl rfl, _, congrArg bl (by simp_all [isTy] <;> (intros; omega)), rfl⟩
 ·have h1 : 1 ≤ s.size := by have := of_decide_eq_true hb1_3; omega
  obtain ⟨cv0, hcbv0⟩ := get_byte (s := s) (i := (0 : Int).toNat) (by omega)
  have hixv0 := ev_index (P := Tryz.prog) s hT9 .i64 (0) (by omega) (c := cv0) hcbv0
  have hb0 : byteAt s 0 = cv0.toNat := byteAt_of hcbv0
  refine runX_cut 5 fun K1 hK1 => ?_
  simp only [ltb]
  simp only [hixv0,sl,go_sem,reduceIte,reduceAdd,reduceLT,reduceLeDiff,reduceMul,reduceEqDiff,reduceSub,reduceCtorEq,List.take_length]
  refine hK1 _ ?_
  refine runX_case 11 (by rfl) fun b hb1_8 => ?_
  cases b
  ·refine runX_cut 8 fun K1 hK1 => ?_
   simp only [ltb]
   simp only [hixv0,sl,go_sem,reduceIte,reduceAdd,reduceLT,reduceLeDiff,reduceMul,reduceEqDiff,reduceSub,reduceCtorEq,List.take_length]
   refine hK1 _ ?_
   try simp only [ltb]
   simp only [hixv0,sl,go_sem,reduceIte,reduceAdd,reduceLT,reduceLeDiff,reduceMul,reduceEqDiff,reduceSub,reduceCtorEq,List.take_length]
   refine hK _ _ rfl ?_
   simp only [mwb,reduceAdd,reduceEqDiff]
   exact ex_ret ⟨.inl rfl, _, congrArg bl (by simp_all [isTy] <;> (intros; omega)), rfl⟩
  ·refine runX_cut 3 fun K1 hK1 => ?_
   simp only [ltb]
   simp only [hixv0,sl,go_sem,reduceIte,reduceAdd,reduceLT,reduceLeDiff,reduceMul,reduceEqDiff,reduceSub,reduceCtorEq,List.take_length]
   refine callF_ex (rcapital_ex _) ?_
   rintro _ rfl
   try simp only [hixv0,sl,go_sem,reduceIte,reduceAdd,reduceLT,reduceLeDiff,reduceMul,reduceEqDiff,reduceSub,reduceCtorEq,List.take_length]
   refine hK1 _ ?_
   refine runX_cut 2 fun K1 hK1 => ?_
   simp only [ltb]
   simp only [hixv0,sl,go_sem,reduceIte,reduceAdd,reduceLT,reduceLeDiff,reduceMul,reduceEqDiff,reduceSub,reduceCtorEq,List.take_length]
   refine hK1 _ ?_
   refine runX_case 16 (by rfl) fun b hb1_13 => ?_
   cases b
   ·try simp only [ltb]
    simp only [hixv0,sl,go_sem,reduceIte,reduceAdd,reduceLT,reduceLeDiff,reduceMul,reduceEqDiff,reduceSub,reduceCtorEq,List.take_length]
    refine hK _ _ rfl ?_
    simp only [mwb,reduceAdd,reduceEqDiff]
    exact ex_ret ⟨.inl rfl, _, congrArg bl (by simp_all [isTy] <;> (intros; omega)), rfl⟩
   ·refine runX_cut 2 fun K1 hK1 => ?_
    simp only [ltb]
    simp only [hixv0,sl,go_sem,reduceIte,reduceAdd,reduceLT,reduceLeDiff,reduceMul,reduceEqDiff,reduceSub,reduceCtorEq,List.take_length]
    refine callF_ex (words_ex s (by have := of_decide_eq_true hb1_8; omega)) ?_
    rintro _ rfl
    try simp only [hixv0,sl,go_sem,reduceIte,reduceAdd,reduceLT,reduceLeDiff,reduceMul,reduceEqDiff,reduceSub,reduceCtorEq,List.take_length]
    refine hK1 _ ?_
    try simp only [ltb]
    simp only [hixv0,sl,go_sem,reduceIte,reduceAdd,reduceLT,reduceLeDiff,reduceMul,reduceEqDiff,reduceSub,reduceCtorEq,List.take_length]
    refine hK _ _ rfl ?_
    simp only [mwb,reduceAdd,reduceEqDiff]
    exact ex_ret ⟨.inl rfl, _, congrArg bl (by simp_all [isTy] <;> (intros; omega)), rfl⟩
theorem variable_ex (s : ByteArray) : ∃ r, (fun v => v = bl (isVr s)) r ∧ FnOk Tryz.prog 33 [str s] r := by
 refine fn_ex tt_ok (fn := Tryz.f33) Tryz.func33 rfl Tryz.call33 ?_
 simp only [ltb,startSt,Tryz.ntmps33,List.length_cons,List.length_nil,reduceAdd,reduceSub,List.replicate_succ,List.replicate_zero]
 have hT9 : Tryz.prog.underlying 9 = some .string := by kernel_rfl
 have sl : ∀ (a : ByteArray) (ty : TypeId), liftL Tryz.prog (Builtin.len_ #[9] ty) [.sc (.string a)] = some (num a.size) := fun a ty => ev_slen (P := Tryz.prog) (tt := tt) (T := 9) a hT9 ty
 refine ex_region_w tt_ok 25 [0,0,2] [] rfl rfl fun K hK => ?_
 try simp only [ltb]
 try simp only [ltb]
 simp only [sl,go_sem,reduceIte,reduceAdd,reduceLT,reduceLeDiff,reduceMul,reduceEqDiff,reduceSub,reduceCtorEq,List.take_length]
 refine hK _ _ rfl ?_
 simp only [mwb,reduceAdd,reduceEqDiff]
 refine ex_region_w tt_ok 25 (0::0::2::(rp 22 1 [])) [(2, 5), (6, 9), (11, 14), (16, 19)] rfl rfl fun K hK => ?_
 try simp only [ltb]
 refine runX_cut 2 fun K1 hK1 => ?_
 simp only [ltb]
 simp only [sl,go_sem,reduceIte,reduceAdd,reduceLT,reduceLeDiff,reduceMul,reduceEqDiff,reduceSub,reduceCtorEq,List.take_length]
 refine callF_ex (isType_ex s) ?_
 rintro _ rfl
 try simp only [sl,go_sem,reduceIte,reduceAdd,reduceLT,reduceLeDiff,reduceMul,reduceEqDiff,reduceSub,reduceCtorEq,List.take_length]
 refine hK1 _ ?_
 refine runX_cut 1 fun K1 hK1 => ?_
 simp only [ltb]
 simp only [sl,go_sem,reduceIte,reduceAdd,reduceLT,reduceLeDiff,reduceMul,reduceEqDiff,reduceSub,reduceCtorEq,List.take_length]
 refine hK1 _ ?_
 refine runX_case 5 (by rfl) fun b hb1_2 => ?_
 cases b
 ·refine runX_cut 4 fun K1 hK1 => ?_
  simp only [ltb]
  simp only [sl,go_sem,reduceIte,reduceAdd,reduceLT,reduceLeDiff,reduceMul,reduceEqDiff,reduceSub,reduceCtorEq,List.take_length]
  refine hK1 _ ?_
  refine runX_case 9 (by rfl) fun b hb1_6 => ?_
  cases b
  ·have hz2 : s.size ≠ 2 := by have := of_decide_eq_false hb1_6; omega
   refine runX_cut 8 fun K1 hK1 => ?_
   simp only [ltb]
   simp only [sl,go_sem,reduceIte,reduceAdd,reduceLT,reduceLeDiff,reduceMul,reduceEqDiff,reduceSub,reduceCtorEq,List.take_length]
   refine hK1 _ ?_
   try simp only [ltb]
   simp only [sl,go_sem,reduceIte,reduceAdd,reduceLT,reduceLeDiff,reduceMul,reduceEqDiff,reduceSub,reduceCtorEq,List.take_length]
   refine hK _ _ rfl ?_
   simp only [mwb,reduceAdd,reduceEqDiff]
   exact ex_ret ⟨.inl rfl, _, congrArg bl (by simp_all [isVr] <;> (intros; omega)), rfl⟩
  ·have hz2 : s.size = 2 := by have := of_decide_eq_true hb1_6; omega
   obtain ⟨cv0, hcbv0⟩ := get_byte (s := s) (i := (0 : Int).toNat) (by omega)
   have hixv0 := ev_index (P := Tryz.prog) s hT9 .i64 (0) (by omega) (c := cv0) hcbv0
   obtain ⟨cv1, hcbv1⟩ := get_byte (s := s) (i := (1 : Int).toNat) (by omega)
   have hixv1 := ev_index (P := Tryz.prog) s hT9 .i64 (1) (by omega) (c := cv1) hcbv1
   have hb0 : byteAt s 0 = cv0.toNat := byteAt_of hcbv0
   have hb1 : byteAt s 1 = cv1.toNat := byteAt_of hcbv1
   refine runX_cut 5 fun K1 hK1 => ?_
   simp only [ltb]
   simp only [hixv0,hixv1,sl,go_sem,reduceIte,reduceAdd,reduceLT,reduceLeDiff,reduceMul,reduceEqDiff,reduceSub,reduceCtorEq,List.take_length]
   refine hK1 _ ?_
   refine runX_case 14 (by rfl) fun b hb1_11 => ?_
   cases b
   ·refine runX_cut 8 fun K1 hK1 => ?_
    simp only [ltb]
    simp only [hixv0,hixv1,sl,go_sem,reduceIte,reduceAdd,reduceLT,reduceLeDiff,reduceMul,reduceEqDiff,reduceSub,reduceCtorEq,List.take_length]
    refine hK1 _ ?_
    try simp only [ltb]
    simp only [hixv0,hixv1,sl,go_sem,reduceIte,reduceAdd,reduceLT,reduceLeDiff,reduceMul,reduceEqDiff,reduceSub,reduceCtorEq,List.take_length]
    refine hK _ _ rfl ?_
    simp only [mwb,reduceAdd,reduceEqDiff]
    exact ex_ret ⟨.inl rfl, _, congrArg bl (by simp_all [isVr] <;> (intros; omega)), rfl⟩
   ·refine runX_cut 5 fun K1 hK1 => ?_
    simp only [ltb]
    simp only [hixv0,hixv1,sl,go_sem,reduceIte,reduceAdd,reduceLT,reduceLeDiff,reduceMul,reduceEqDiff,reduceSub,reduceCtorEq,List.take_length]
    refine hK1 _ ?_
    refine runX_case 19 (by rfl) fun b hb1_16 => ?_
    cases b
    ·try simp only [ltb]
     simp only [hixv0,hixv1,sl,go_sem,reduceIte,reduceAdd,reduceLT,reduceLeDiff,reduceMul,reduceEqDiff,reduceSub,reduceCtorEq,List.take_length]
     refine hK _ _ rfl ?_
     simp only [mwb,reduceAdd,reduceEqDiff]
     exact ex_ret ⟨.inl rfl, _, congrArg bl (by simp_all [isVr] <;> (intros; omega)), rfl⟩
    ·try simp only [ltb]
     simp only [hixv0,hixv1,sl,go_sem,reduceIte,reduceAdd,reduceLT,reduceLeDiff,reduceMul,reduceEqDiff,reduceSub,reduceCtorEq,List.take_length]
     refine hK _ _ rfl ?_
     simp only [mwb,reduceAdd,reduceEqDiff]
     exact ex_ret ⟨.inl rfl, _, congrArg bl (by simp_all [isVr] <;> (intros; omega)), rfl⟩
 ·refine runX_cut 8 fun K1 hK1 => ?_
  simp only [ltb]
  simp only [sl,go_sem,reduceIte,reduceAdd,reduceLT,reduceLeDiff,reduceMul,reduceEqDiff,reduceSub,reduceCtorEq,List.take_length]
  refine hK1 _ ?_
  refine runX_cut 8 fun K1 hK1 => ?_
  simp only [ltb]
  simp only [sl,go_sem,reduceIte,reduceAdd,reduceLT,reduceLeDiff,reduceMul,reduceEqDiff,reduceSub,reduceCtorEq,List.take_length]
  refine hK1 _ ?_
  try simp only [ltb]
  simp only [sl,go_sem,reduceIte,reduceAdd,reduceLT,reduceLeDiff,reduceMul,reduceEqDiff,reduceSub,reduceCtorEq,List.take_length]
  refine hK _ _ rfl ?_
  simp only [mwb,reduceAdd,reduceEqDiff]
  exact ex_ret ⟨.inl rfl, _, congrArg bl (by simp_all [isVr] <;> (intros; omega)), rfl⟩
theorem rvariable_ex (s : ByteArray) : ∃ r, (fun v => v = bl (isVr s)) r ∧ FnOk Tryz.prog 34 [str s] r := by
 refine fn_ex tt_ok (fn := Tryz.f34) Tryz.func34 rfl Tryz.call34 ?_
 simp only [ltb,startSt,Tryz.ntmps34,List.length_cons,List.length_nil,reduceAdd,reduceSub,List.replicate_succ,List.replicate_zero]
 have hT9 : Tryz.prog.underlying 9 = some .string := by kernel_rfl
 have sl : ∀ (a : ByteArray) (ty : TypeId), liftL Tryz.prog (Builtin.len_ #[9] ty) [.sc (.string a)] = some (num a.size) := fun a ty => ev_slen (P := Tryz.prog) (tt := tt) (T := 9) a hT9 ty
 refine ex_region_w tt_ok 25 [0,0,2] [] rfl rfl fun K hK => ?_
 try simp only [ltb]
 try simp only [ltb]
 simp only [sl,go_sem,reduceIte,reduceAdd,reduceLT,reduceLeDiff,reduceMul,reduceEqDiff,reduceSub,reduceCtorEq,List.take_length]
 refine hK _ _ rfl ?_
 simp only [mwb,reduceAdd,reduceEqDiff]
 refine ex_region_w tt_ok 25 (0::0::2::(rp 22 1 [])) [(2, 5), (6, 9), (11, 14), (16, 19)] rfl rfl fun K hK => ?_
 try simp only [ltb]
 refine runX_cut 2 fun K1 hK1 => ?_
 simp only [ltb]
 simp only [sl,go_sem,reduceIte,reduceAdd,reduceLT,reduceLeDiff,reduceMul,reduceEqDiff,reduceSub,reduceCtorEq,List.take_length]
 refine callF_ex (risType_ex s) ?_
 rintro _ rfl
 try simp only [sl,go_sem,reduceIte,reduceAdd,reduceLT,reduceLeDiff,reduceMul,reduceEqDiff,reduceSub,reduceCtorEq,List.take_length]
 refine hK1 _ ?_
 refine runX_cut 1 fun K1 hK1 => ?_
 simp only [ltb]
 simp only [sl,go_sem,reduceIte,reduceAdd,reduceLT,reduceLeDiff,reduceMul,reduceEqDiff,reduceSub,reduceCtorEq,List.take_length]
 refine hK1 _ ?_
 refine runX_case 5 (by rfl) fun b hb1_2 => ?_
 cases b
 ·refine runX_cut 4 fun K1 hK1 => ?_
  simp only [ltb]
  simp only [sl,go_sem,reduceIte,reduceAdd,reduceLT,reduceLeDiff,reduceMul,reduceEqDiff,reduceSub,reduceCtorEq,List.take_length]
  refine hK1 _ ?_
  refine runX_case 9 (by rfl) fun b hb1_6 => ?_
  cases b
  ·have hz2 : s.size ≠ 2 := by have := of_decide_eq_false hb1_6; omega
   refine runX_cut 8 fun K1 hK1 => ?_
   simp only [ltb]
   simp only [sl,go_sem,reduceIte,reduceAdd,reduceLT,reduceLeDiff,reduceMul,reduceEqDiff,reduceSub,reduceCtorEq,List.take_length]
   refine hK1 _ ?_
   try simp only [ltb]
   simp only [sl,go_sem,reduceIte,reduceAdd,reduceLT,reduceLeDiff,reduceMul,reduceEqDiff,reduceSub,reduceCtorEq,List.take_length]
   refine hK _ _ rfl ?_
   simp only [mwb,reduceAdd,reduceEqDiff]
   exact ex_ret ⟨.inl rfl, _, congrArg bl (by simp_all [isVr] <;> (intros; omega)), rfl⟩
  ·have hz2 : s.size = 2 := by have := of_decide_eq_true hb1_6; omega
   obtain ⟨cv0, hcbv0⟩ := get_byte (s := s) (i := (0 : Int).toNat) (by omega)
   have hixv0 := ev_index (P := Tryz.prog) s hT9 .i64 (0) (by omega) (c := cv0) hcbv0
   obtain ⟨cv1, hcbv1⟩ := get_byte (s := s) (i := (1 : Int).toNat) (by omega)
   have hixv1 := ev_index (P := Tryz.prog) s hT9 .i64 (1) (by omega) (c := cv1) hcbv1
   have hb0 : byteAt s 0 = cv0.toNat := byteAt_of hcbv0
   have hb1 : byteAt s 1 = cv1.toNat := byteAt_of hcbv1
   refine runX_cut 5 fun K1 hK1 => ?_
   simp only [ltb]
   simp only [hixv0,hixv1,sl,go_sem,reduceIte,reduceAdd,reduceLT,reduceLeDiff,reduceMul,reduceEqDiff,reduceSub,reduceCtorEq,List.take_length]
   refine hK1 _ ?_
   refine runX_case 14 (by rfl) fun b hb1_11 => ?_
   cases b
   ·refine runX_cut 8 fun K1 hK1 => ?_
    simp only [ltb]
    simp only [hixv0,hixv1,sl,go_sem,reduceIte,reduceAdd,reduceLT,reduceLeDiff,reduceMul,reduceEqDiff,reduceSub,reduceCtorEq,List.take_length]
    refine hK1 _ ?_
    try simp only [ltb]
    simp only [hixv0,hixv1,sl,go_sem,reduceIte,reduceAdd,reduceLT,reduceLeDiff,reduceMul,reduceEqDiff,reduceSub,reduceCtorEq,List.take_length]
    refine hK _ _ rfl ?_
    simp only [mwb,reduceAdd,reduceEqDiff]
    exact ex_ret ⟨.inl rfl, _, congrArg bl (by simp_all [isVr] <;> (intros; omega)), rfl⟩
   ·refine runX_cut 5 fun K1 hK1 => ?_
    simp only [ltb]
    simp only [hixv0,hixv1,sl,go_sem,reduceIte,reduceAdd,reduceLT,reduceLeDiff,reduceMul,reduceEqDiff,reduceSub,reduceCtorEq,List.take_length]
    refine hK1 _ ?_
    refine runX_case 19 (by rfl) fun b hb1_16 => ?_
    cases b
    ·try simp only [ltb]
     simp only [hixv0,hixv1,sl,go_sem,reduceIte,reduceAdd,reduceLT,reduceLeDiff,reduceMul,reduceEqDiff,reduceSub,reduceCtorEq,List.take_length]
     refine hK _ _ rfl ?_
     simp only [mwb,reduceAdd,reduceEqDiff]
     exact ex_ret ⟨.inl rfl, _, congrArg bl (by simp_all [isVr] <;> (intros; omega)), rfl⟩
    ·try simp only [ltb]
     simp only [hixv0,hixv1,sl,go_sem,reduceIte,reduceAdd,reduceLT,reduceLeDiff,reduceMul,reduceEqDiff,reduceSub,reduceCtorEq,List.take_length]
     refine hK _ _ rfl ?_
     simp only [mwb,reduceAdd,reduceEqDiff]
     exact ex_ret ⟨.inl rfl, _, congrArg bl (by simp_all [isVr] <;> (intros; omega)), rfl⟩
 ·refine runX_cut 8 fun K1 hK1 => ?_
  simp only [ltb]
  simp only [sl,go_sem,reduceIte,reduceAdd,reduceLT,reduceLeDiff,reduceMul,reduceEqDiff,reduceSub,reduceCtorEq,List.take_length]
  refine hK1 _ ?_
  refine runX_cut 8 fun K1 hK1 => ?_
  simp only [ltb]
  simp only [sl,go_sem,reduceIte,reduceAdd,reduceLT,reduceLeDiff,reduceMul,reduceEqDiff,reduceSub,reduceCtorEq,List.take_length]
  refine hK1 _ ?_
  try simp only [ltb]
  simp only [sl,go_sem,reduceIte,reduceAdd,reduceLT,reduceLeDiff,reduceMul,reduceEqDiff,reduceSub,reduceCtorEq,List.take_length]
  refine hK _ _ rfl ?_
  simp only [mwb,reduceAdd,reduceEqDiff]
  exact ex_ret ⟨.inl rfl, _, congrArg bl (by simp_all [isVr] <;> (intros; omega)), rfl⟩
end Go.Proofs.YtpjdfcigadnhcaaGreatDoor
end

section
namespace Go.Proofs.YtpjdfcigadnhcaaGreatDoor
open Go.Eng
open Nat (reduceAdd reduceLT reduceLeDiff reduceMul reduceEqDiff reduceSub)
variable [Glob]
set_option maxHeartbeats 4000000
set_option maxRecDepth 100000
attribute [local irreducible] runM stepM valD stepOp stepD callF callS
def kws : List ByteArray := [⟨#[97,110,100]⟩, ⟨#[97,110,121]⟩, ⟨#[97,115]⟩, ⟨#[98,111,111,108]⟩, ⟨#[100,101,112,114,101,99,97,116,101,100]⟩, ⟨#[101,108,115,101]⟩, ⟨#[101,120,112,111,114,116]⟩, ⟨#[102,97,108,115,101]⟩, ⟨#[102,110]⟩, ⟨#[102,111,108,100]⟩, ⟨#[102,114,111,109]⟩, ⟨#[105,102]⟩, ⟨#[105,109,112,111,114,116]⟩, ⟨#[105,110]⟩, ⟨#[105,110,116]⟩, ⟨#[108,101,110,103,116,104]⟩, ⟨#[108,101,116]⟩, ⟨#[108,105,115,116]⟩, ⟨#[109,97,116,99,104]⟩, ⟨#[109,111,100,117,108,101]⟩, ⟨#[110,111,110,101]⟩, ⟨#[110,111,116]⟩, ⟨#[111,114]⟩, ⟨#[116,101,120,116]⟩, ⟨#[116,104,101,110]⟩, ⟨#[116,114,117,101]⟩, ⟨#[116,121,112,101]⟩, ⟨#[117,115,101]⟩]
theorem noNat40 : NatFOk Tryz.prog (fun _ _ => none) := fun f vs r h => by cases h
theorem keywords_ok : FnOk Tryz.prog 195 [] (.slice (kws.map str)) := ev_call noOrc_ok noNat40 3000 (by kernel_rfl)
theorem kws_length : kws.length = 28 := rfl
theorem neigh_tot (s t : ByteArray) : ∃ r, isN r ∧ FnOk Tryz.prog 174 [str s, str t] r := by
 refine fn_ex tt_ok (fn := Tryz.f174) Tryz.func174 rfl Tryz.call174 ?_
 simp only [ltb,startSt,Tryz.ntmps174,List.length_cons,List.length_nil,reduceAdd,reduceSub,List.replicate_succ,List.replicate_zero]
 refine ex_region_w tt_ok 11 [0,0,0,0,2] [] rfl rfl fun K hK => ?_
 try simp only [ltb]
 simp only [ltb,go_sem,reduceIte,reduceAdd,reduceLT,reduceLeDiff,reduceMul,reduceEqDiff,reduceSub,reduceCtorEq,List.take_length]
 refine hK _ _ rfl ?_
 simp only [mwb,reduceAdd,reduceEqDiff]
 refine ex_seq ?_
 refine ex_region_w tt_ok 11 [0,0,0,0,0,1,1,2] [] rfl rfl fun K hK => ?_
 try simp only [ltb]
 simp only [ltb,go_sem,reduceIte,reduceAdd,reduceLT,reduceLeDiff,reduceMul,reduceEqDiff,reduceSub,reduceCtorEq,List.take_length]
 refine hK _ _ rfl ?_
 simp only [mwb,reduceAdd,reduceEqDiff]
 refine ex_if rfl (fun hc7 => ?_) (fun hc7 => ?_)
 ·refine ex_region_w tt_ok 11 [0,0,0,0,2] [] rfl rfl fun K hK => ?_
  try simp only [ltb]
  simp only [ltb,go_sem,reduceIte,reduceAdd,reduceLT,reduceLeDiff,reduceMul,reduceEqDiff,reduceSub,reduceCtorEq,List.take_length]
  refine hK _ _ rfl ?_
  simp only [mwb,reduceAdd,reduceEqDiff]
  exact ex_ret ⟨.inl rfl, _, ⟨_, rfl⟩, rfl⟩
 ·refine ex_skip ?_
  show Go.Eng.Ex _ _ _ _ _ _
  refine ex_seq ?_
  refine ex_region_w tt_ok 11 (rp 8 0 [1,1,2]) [] rfl rfl fun K hK => ?_
  try simp only [ltb]
  simp only [ltb,go_sem,reduceIte,reduceAdd,reduceLT,reduceLeDiff,reduceMul,reduceEqDiff,reduceSub,reduceCtorEq,List.take_length]
  refine hK _ _ rfl ?_
  simp only [mwb,reduceAdd,reduceEqDiff]
  refine ex_if rfl (fun hc10 => ?_) (fun hc10 => ?_)
  ·refine ex_region_w tt_ok 11 [0,0,0,0,2] [] rfl rfl fun K hK => ?_
   try simp only [ltb]
   simp only [ltb,go_sem,reduceIte,reduceAdd,reduceLT,reduceLeDiff,reduceMul,reduceEqDiff,reduceSub,reduceCtorEq,List.take_length]
   refine hK _ _ rfl ?_
   simp only [mwb,reduceAdd,reduceEqDiff]
   exact ex_ret ⟨.inl rfl, _, ⟨_, rfl⟩, rfl⟩
  ·refine ex_skip ?_
   show Go.Eng.Ex _ _ _ _ _ _
   refine ex_region_w tt_ok 11 [0,0,0,0,2] [] rfl rfl fun K hK => ?_
   try simp only [ltb]
   simp only [ltb,go_sem,reduceIte,reduceAdd,reduceLT,reduceLeDiff,reduceMul,reduceEqDiff,reduceSub,reduceCtorEq,List.take_length]
   refine hK _ _ rfl ?_
   simp only [mwb,reduceAdd,reduceEqDiff]
   exact ex_ret ⟨.inl rfl, _, ⟨_, rfl⟩, rfl⟩
theorem rmajor_tot (q : ByteArray) : ∃ r, isN r ∧ FnOk Tryz.prog 212 [str q] r := by
 refine fn_ex tt_ok (fn := Tryz.f212) Tryz.func212 rfl Tryz.call212 ?_
 simp only [ltb,startSt,Tryz.ntmps212,List.length_cons,List.length_nil,reduceAdd,reduceSub,List.replicate_succ,List.replicate_zero]
 have hT9 : Tryz.prog.underlying 9 = some .string := by kernel_rfl
 have sl : ∀ (a : ByteArray) (ty : TypeId), liftL Tryz.prog (Builtin.len_ #[9] ty) [.sc (.string a)] = some (num a.size) := fun a ty => ev_slen (P := Tryz.prog) (tt := tt) (T := 9) a hT9 ty
 have hT5 : Tryz.prog.underlying 5 = some (.int .u8) := by kernel_rfl
 have hT3 : Tryz.prog.underlying 3 = some (.int .i64) := by kernel_rfl
 have cv := fun (k : IntKind) (n : Int) => ev_conv (P := Tryz.prog) (src := 5) (dst := 3) hT5 hT3 k n
 refine ex_region_w tt_ok 48 [0,0,2] [] rfl rfl fun K hK => ?_
 try simp only [ltb]
 try simp only [ltb]
 simp only [sl,cv,go_sem,reduceIte,reduceAdd,reduceLT,reduceLeDiff,reduceMul,reduceEqDiff,reduceSub,reduceCtorEq,List.take_length]
 refine hK _ _ rfl ?_
 simp only [mwb,reduceAdd,reduceEqDiff]
 refine ex_seq ?_
 refine ex_region_w tt_ok 48 (0::0::0::0::0::(rp 22 1 [2])) [(3, 8), (8, 13), (13, 18), (17, 22)] rfl rfl fun K hK => ?_
 try simp only [ltb]
 refine runX_cut 4 fun K1 hK1 => ?_
 simp only [ltb]
 simp only [sl,cv,go_sem,reduceIte,reduceAdd,reduceLT,reduceLeDiff,reduceMul,reduceEqDiff,reduceSub,reduceCtorEq,List.take_length]
 refine hK1 _ ?_
 refine runX_case 8 (by rfl) fun b hb1_3 => ?_
 cases b
 ·have hq2 : 2 ≤ q.size := by have := of_decide_eq_false hb1_3; omega
  obtain ⟨cq0, hcbq0⟩ := get_byte (s := q) (i := (0 : Int).toNat) (by omega)
  have hixq0 := ev_index (P := Tryz.prog) q hT9 .i64 (0) (by omega) (c := cq0) hcbq0
  obtain ⟨cq1, hcbq1⟩ := get_byte (s := q) (i := (1 : Int).toNat) (by omega)
  have hixq1 := ev_index (P := Tryz.prog) q hT9 .i64 (1) (by omega) (c := cq1) hcbq1
  refine runX_cut 5 fun K1 hK1 => ?_
  simp only [ltb]
  simp only [hixq0,hixq1,sl,cv,go_sem,reduceIte,reduceAdd,reduceLT,reduceLeDiff,reduceMul,reduceEqDiff,reduceSub,reduceCtorEq,List.take_length]
  refine hK1 _ ?_
  refine runX_case 13 (by rfl) fun b hb1_8 => ?_
  cases b
  ·have hq4 : q.size ≤ 4 := by have h1 := hb1_8; simp at h1; omega
   refine runX_cut 5 fun K1 hK1 => ?_
   simp only [ltb]
   simp only [hixq0,hixq1,sl,cv,go_sem,reduceIte,reduceAdd,reduceLT,reduceLeDiff,reduceMul,reduceEqDiff,reduceSub,reduceCtorEq,List.take_length]
   refine hK1 _ ?_
   refine runX_case 18 (by rfl) fun b hb1_13 => ?_
   cases b
   ·refine runX_cut 4 fun K1 hK1 => ?_
    simp only [ltb]
    simp only [hixq0,hixq1,sl,cv,go_sem,reduceIte,reduceAdd,reduceLT,reduceLeDiff,reduceMul,reduceEqDiff,reduceSub,reduceCtorEq,List.take_length]
    refine hK1 _ ?_
    refine runX_case 22 (by rfl) fun b hb1_17 => ?_
    cases b
    ·try simp only [ltb]
     simp only [hixq0,hixq1,sl,cv,go_sem,reduceIte,reduceAdd,reduceLT,reduceLeDiff,reduceMul,reduceEqDiff,reduceSub,reduceCtorEq,List.take_length]
     refine hK _ _ rfl ?_
     simp only [mwb,reduceAdd,reduceEqDiff]
     refine ex_cond rfl ?_
     refine ex_skip ?_
     show Go.Eng.Ex _ _ _ _ _ _
     refine ex_region_w tt_ok 48 [0,0,0,2] [] rfl rfl fun K hK => ?_
     try simp only [ltb]
     try simp only [ltb]
     simp only [hixq0,hixq1,sl,cv,go_sem,reduceIte,reduceAdd,reduceLT,reduceLeDiff,reduceMul,reduceEqDiff,reduceSub,reduceCtorEq,List.take_length]
     refine hK _ _ rfl ?_
     simp only [mwb,reduceAdd,reduceEqDiff]
     refine ex_seq ?_
     refine ex_region_w tt_ok 48 [0,0,0,0,2] [] rfl rfl fun K hK => ?_
     try simp only [ltb]
     try simp only [ltb]
     simp only [hixq0,hixq1,sl,cv,go_sem,reduceIte,reduceAdd,reduceLT,reduceLeDiff,reduceMul,reduceEqDiff,reduceSub,reduceCtorEq,List.take_length]
     refine hK _ _ rfl ?_
     simp only [mwb,reduceAdd,reduceEqDiff]
     refine ex_block ?_
     refine ex_loopK [4,3] [num 1, num 0] 0 (true::false::true::true::true::(rp 22 false [true])) (fun vs => ((q.size : Int) - intOf (vs.headD .undef)).toNat) (fun vs => ∃ (i : Nat) (h : Int), vs = [num i, num h]) (by omega) (by simp only [maskFr,belowV,belowL,belowB,reduceLT,mkb]) (by simp only [maskFr,belowV,belowL,belowB,reduceLT,mkb]) (by rfl) (⟨1, 0, rfl⟩) fun vs hI => ?_
     obtain ⟨i, h, rfl⟩ := hI
     simp only [maskFr,belowV,belowL,belowB,reduceLT,putAll,List.set_cons_zero,List.set_cons_succ,mkb]
     refine ex_seq ?_
     refine ex_region_w tt_ok 48 (rp 28 0 [1,1,1,2]) [] rfl rfl fun K hK => ?_
     try simp only [ltb]
     try simp only [ltb]
     simp only [hixq0,hixq1,sl,cv,go_sem,reduceIte,reduceAdd,reduceLT,reduceLeDiff,reduceMul,reduceEqDiff,reduceSub,reduceCtorEq,List.take_length]
     refine hK _ _ rfl ?_
     simp only [mwb,reduceAdd,reduceEqDiff]
     refine ex_if rfl (fun hc31 => ?_) (fun hc31 => ?_)
     ·have hlt : i < q.size := by simpa using hc31
      have hw := i64_succ i (by omega)
      obtain ⟨c, hcb⟩ := get_byte (s := q) (i := i) hlt
      have hix := ev_index (P := Tryz.prog) q hT9 .i64 (i : Int) (by omega) (c := c) (show q[((i : Nat) : Int).toNat]? = some c from hcb)
      refine ex_skip ?_
      show Go.Eng.Ex _ _ _ _ _ _
      refine ex_seq ?_
      refine ex_block ?_
      refine ex_seq ?_
      refine ex_region_w tt_ok 48 (rp 34 0 [1,1,1,1,2]) [] rfl rfl fun K hK => ?_
      try simp only [ltb]
      refine runX_cut 4 fun K1 hK1 => ?_
      simp only [ltb]
      simp only [hixq0,hixq1,hw,hix,sl,cv,go_sem,reduceIte,reduceAdd,reduceLT,reduceLeDiff,reduceMul,reduceEqDiff,reduceSub,reduceCtorEq,List.take_length]
      refine callF_ex (rdigit_ex _) ?_
      rintro _ rfl
      try simp only [hixq0,hixq1,hw,hix,sl,cv,go_sem,reduceIte,reduceAdd,reduceLT,reduceLeDiff,reduceMul,reduceEqDiff,reduceSub,reduceCtorEq,List.take_length]
      refine hK1 _ ?_
      try simp only [ltb]
      simp only [hixq0,hixq1,hw,hix,sl,cv,go_sem,reduceIte,reduceAdd,reduceLT,reduceLeDiff,reduceMul,reduceEqDiff,reduceSub,reduceCtorEq,List.take_length]
      refine hK _ _ rfl ?_
      simp only [mwb,reduceAdd,reduceEqDiff]
      refine ex_if rfl (fun hc38 => ?_) (fun hc38 => ?_)
      ·refine ex_region_w tt_ok 48 [0,0,2] [] rfl rfl fun K hK => ?_
       try simp only [ltb]
       try simp only [ltb]
       simp only [hixq0,hixq1,hw,hix,sl,cv,go_sem,reduceIte,reduceAdd,reduceLT,reduceLeDiff,reduceMul,reduceEqDiff,reduceSub,reduceCtorEq,List.take_length]
       refine hK _ _ rfl ?_
       simp only [mwb,reduceAdd,reduceEqDiff]
       exact ex_ret ⟨.inl rfl, _, ⟨_, rfl⟩, rfl⟩
      ·refine ex_skip ?_
       show Go.Eng.Ex _ _ _ _ _ _
       refine ex_last_region_w tt_ok 48 (0::0::0::2::(rp 35 0 (rp 8 2 []))) [] (by kernel_rfl) rfl rfl fun K hK => ?_
       try simp only [ltb]
       refine runX_cut 8 fun K1 hK1 => ?_
       simp only [ltb]
       simp only [hixq0,hixq1,hw,hix,sl,cv,go_sem,reduceIte,reduceAdd,reduceLT,reduceLeDiff,reduceMul,reduceEqDiff,reduceSub,reduceCtorEq,List.take_length]
       refine hK1 _ ?_
       try simp only [ltb]
       simp only [hixq0,hixq1,hw,hix,sl,cv,go_sem,reduceIte,reduceAdd,reduceLT,reduceLeDiff,reduceMul,reduceEqDiff,reduceSub,reduceCtorEq,List.take_length]
       refine hK _ _ rfl ?_
       simp only [mwb,reduceAdd,reduceEqDiff]
       show Go.Eng.Ex _ _ _ _ _ _
       refine ex_last_region_w tt_ok 48 (0::0::0::0::2::(rp 27 0 [2,2])) [] (by kernel_rfl) rfl rfl fun K hK => ?_
       try simp only [ltb]
       try simp only [ltb]
       simp only [hixq0,hixq1,hw,hix,sl,cv,go_sem,reduceIte,reduceAdd,reduceLT,reduceLeDiff,reduceMul,reduceEqDiff,reduceSub,reduceCtorEq,List.take_length]
       refine hK _ _ rfl ?_
       simp only [mwb,reduceAdd,reduceEqDiff]
       refine ⟨[_, _], ?_, ?_, 0, (true::false::true::true::true::(rp 22 false [true])), by omega, by simp only [maskFr,belowV,belowL,belowB,reduceLT,mkb], by simp only [maskFr,belowV,belowL,belowB,reduceLT,mkb], by simp only [maskFr,belowV,belowL,belowB,reduceLT,putAll,List.set_cons_zero,List.set_cons_succ,mkb]; rfl⟩
       ·exact ⟨i + 1, _, rfl⟩
       ·simp only [intOf,List.headD_cons]; omega
     ·refine ex_exit ?_
      show Go.Eng.Ex _ _ _ _ _ _
      refine ex_region_w tt_ok 48 (0::0::2::(rp 44 0 [1])) [] rfl rfl fun K hK => ?_
      try simp only [ltb]
      try simp only [ltb]
      simp only [hixq0,hixq1,sl,cv,go_sem,reduceIte,reduceAdd,reduceLT,reduceLeDiff,reduceMul,reduceEqDiff,reduceSub,reduceCtorEq,List.take_length]
      refine hK _ _ rfl ?_
      simp only [mwb,reduceAdd,reduceEqDiff]
      exact ex_ret ⟨.inl rfl, _, ⟨_, rfl⟩, rfl⟩
    ·try simp only [ltb]
     simp only [hixq0,hixq1,sl,cv,go_sem,reduceIte,reduceAdd,reduceLT,reduceLeDiff,reduceMul,reduceEqDiff,reduceSub,reduceCtorEq,List.take_length]
     refine hK _ _ rfl ?_
     simp only [mwb,reduceAdd,reduceEqDiff]
     refine ex_if rfl (fun hc27 => ?_) (fun hc27 => ?_)
     ·refine ex_region_w tt_ok 48 [0,0,2] [] rfl rfl fun K hK => ?_
      try simp only [ltb]
      try simp only [ltb]
      simp only [hixq0,hixq1,sl,cv,go_sem,reduceIte,reduceAdd,reduceLT,reduceLeDiff,reduceMul,reduceEqDiff,reduceSub,reduceCtorEq,List.take_length]
      refine hK _ _ rfl ?_
      simp only [mwb,reduceAdd,reduceEqDiff]
      exact ex_ret ⟨.inl rfl, _, ⟨_, rfl⟩, rfl⟩
     ·refine ex_skip ?_
      show Go.Eng.Ex _ _ _ _ _ _
      refine ex_region_w tt_ok 48 [0,0,0,2] [] rfl rfl fun K hK => ?_
      try simp only [ltb]
      try simp only [ltb]
      simp only [hixq0,hixq1,sl,cv,go_sem,reduceIte,reduceAdd,reduceLT,reduceLeDiff,reduceMul,reduceEqDiff,reduceSub,reduceCtorEq,List.take_length]
      refine hK _ _ rfl ?_
      simp only [mwb,reduceAdd,reduceEqDiff]
      refine ex_seq ?_
      refine ex_region_w tt_ok 48 [0,0,0,0,2] [] rfl rfl fun K hK => ?_
      try simp only [ltb]
      try simp only [ltb]
      simp only [hixq0,hixq1,sl,cv,go_sem,reduceIte,reduceAdd,reduceLT,reduceLeDiff,reduceMul,reduceEqDiff,reduceSub,reduceCtorEq,List.take_length]
      refine hK _ _ rfl ?_
      simp only [mwb,reduceAdd,reduceEqDiff]
      refine ex_block ?_
      refine ex_loopK [4,3] [num 1, num 0] 0 (true::false::true::true::true::(rp 22 false [true])) (fun vs => ((q.size : Int) - intOf (vs.headD .undef)).toNat) (fun vs => ∃ (i : Nat) (h : Int), vs = [num i, num h]) (by omega) (by simp only [maskFr,belowV,belowL,belowB,reduceLT,mkb]) (by simp only [maskFr,belowV,belowL,belowB,reduceLT,mkb]) (by rfl) (⟨1, 0, rfl⟩) fun vs hI => ?_
      obtain ⟨i, h, rfl⟩ := hI
      simp only [maskFr,belowV,belowL,belowB,reduceLT,putAll,List.set_cons_zero,List.set_cons_succ,mkb]
      refine ex_seq ?_
      refine ex_region_w tt_ok 48 (rp 28 0 [1,1,1,2]) [] rfl rfl fun K hK => ?_
      try simp only [ltb]
      try simp only [ltb]
      simp only [hixq0,hixq1,sl,cv,go_sem,reduceIte,reduceAdd,reduceLT,reduceLeDiff,reduceMul,reduceEqDiff,reduceSub,reduceCtorEq,List.take_length]
      refine hK _ _ rfl ?_
      simp only [mwb,reduceAdd,reduceEqDiff]
      refine ex_if rfl (fun hc31 => ?_) (fun hc31 => ?_)
      ·have hlt : i < q.size := by simpa using hc31
       have hw := i64_succ i (by omega)
       obtain ⟨c, hcb⟩ := get_byte (s := q) (i := i) hlt
       have hix := ev_index (P := Tryz.prog) q hT9 .i64 (i : Int) (by omega) (c := c) (show q[((i : Nat) : Int).toNat]? = some c from hcb)
       refine ex_skip ?_
       show Go.Eng.Ex _ _ _ _ _ _
       refine ex_seq ?_
       refine ex_block ?_
       refine ex_seq ?_
       refine ex_region_w tt_ok 48 (rp 34 0 [1,1,1,1,2]) [] rfl rfl fun K hK => ?_
       try simp only [ltb]
       refine runX_cut 4 fun K1 hK1 => ?_
       simp only [ltb]
       simp only [hixq0,hixq1,hw,hix,sl,cv,go_sem,reduceIte,reduceAdd,reduceLT,reduceLeDiff,reduceMul,reduceEqDiff,reduceSub,reduceCtorEq,List.take_length]
       refine callF_ex (rdigit_ex _) ?_
       rintro _ rfl
       try simp only [hixq0,hixq1,hw,hix,sl,cv,go_sem,reduceIte,reduceAdd,reduceLT,reduceLeDiff,reduceMul,reduceEqDiff,reduceSub,reduceCtorEq,List.take_length]
       refine hK1 _ ?_
       try simp only [ltb]
       simp only [hixq0,hixq1,hw,hix,sl,cv,go_sem,reduceIte,reduceAdd,reduceLT,reduceLeDiff,reduceMul,reduceEqDiff,reduceSub,reduceCtorEq,List.take_length]
       refine hK _ _ rfl ?_
       simp only [mwb,reduceAdd,reduceEqDiff]
       refine ex_if rfl (fun hc38 => ?_) (fun hc38 => ?_)
       ·refine ex_region_w tt_ok 48 [0,0,2] [] rfl rfl fun K hK => ?_
        try simp only [ltb]
        try simp only [ltb]
        simp only [hixq0,hixq1,hw,hix,sl,cv,go_sem,reduceIte,reduceAdd,reduceLT,reduceLeDiff,reduceMul,reduceEqDiff,reduceSub,reduceCtorEq,List.take_length]
        refine hK _ _ rfl ?_
        simp only [mwb,reduceAdd,reduceEqDiff]
        exact ex_ret ⟨.inl rfl, _, ⟨_, rfl⟩, rfl⟩
       ·refine ex_skip ?_
        show Go.Eng.Ex _ _ _ _ _ _
        refine ex_last_region_w tt_ok 48 (0::0::0::2::(rp 35 0 (rp 8 2 []))) [] (by kernel_rfl) rfl rfl fun K hK => ?_
        try simp only [ltb]
        refine runX_cut 8 fun K1 hK1 => ?_
        simp only [ltb]
        simp only [hixq0,hixq1,hw,hix,sl,cv,go_sem,reduceIte,reduceAdd,reduceLT,reduceLeDiff,reduceMul,reduceEqDiff,reduceSub,reduceCtorEq,List.take_length]
        refine hK1 _ ?_
        try simp only [ltb]
        simp only [hixq0,hixq1,hw,hix,sl,cv,go_sem,reduceIte,reduceAdd,reduceLT,reduceLeDiff,reduceMul,reduceEqDiff,reduceSub,reduceCtorEq,List.take_length]
        refine hK _ _ rfl ?_
        simp only [mwb,reduceAdd,reduceEqDiff]
        show Go.Eng.Ex _ _ _ _ _ _
        refine ex_last_region_w tt_ok 48 (0::0::0::0::2::(rp 27 0 [2,2])) [] (by kernel_rfl) rfl rfl fun K hK => ?_
        try simp only [ltb]
        try simp only [ltb]
        simp only [hixq0,hixq1,hw,hix,sl,cv,go_sem,reduceIte,reduceAdd,reduceLT,reduceLeDiff,reduceMul,reduceEqDiff,reduceSub,reduceCtorEq,List.take_length]
        refine hK _ _ rfl ?_
        simp only [mwb,reduceAdd,reduceEqDiff]
        refine ⟨[_, _], ?_, ?_, 0, (true::false::true::true::true::(rp 22 false [true])), by omega, by simp only [maskFr,belowV,belowL,belowB,reduceLT,mkb], by simp only [maskFr,belowV,belowL,belowB,reduceLT,mkb], by simp only [maskFr,belowV,belowL,belowB,reduceLT,putAll,List.set_cons_zero,List.set_cons_succ,mkb]; rfl⟩
        ·exact ⟨i + 1, _, rfl⟩
        ·simp only [intOf,List.headD_cons]; omega
      ·refine ex_exit ?_
       show Go.Eng.Ex _ _ _ _ _ _
       refine ex_region_w tt_ok 48 (0::0::2::(rp 44 0 [1])) [] rfl rfl fun K hK => ?_
       try simp only [ltb]
       try simp only [ltb]
       simp only [hixq0,hixq1,sl,cv,go_sem,reduceIte,reduceAdd,reduceLT,reduceLeDiff,reduceMul,reduceEqDiff,reduceSub,reduceCtorEq,List.take_length]
       refine hK _ _ rfl ?_
       simp only [mwb,reduceAdd,reduceEqDiff]
       exact ex_ret ⟨.inl rfl, _, ⟨_, rfl⟩, rfl⟩
   ·refine runX_cut 8 fun K1 hK1 => ?_
    simp only [ltb]
    simp only [hixq0,hixq1,sl,cv,go_sem,reduceIte,reduceAdd,reduceLT,reduceLeDiff,reduceMul,reduceEqDiff,reduceSub,reduceCtorEq,List.take_length]
    refine hK1 _ ?_
    try simp only [ltb]
    simp only [hixq0,hixq1,sl,cv,go_sem,reduceIte,reduceAdd,reduceLT,reduceLeDiff,reduceMul,reduceEqDiff,reduceSub,reduceCtorEq,List.take_length]
    refine hK _ _ rfl ?_
    simp only [mwb,reduceAdd,reduceEqDiff]
    refine ex_cond rfl ?_
    refine ex_region_w tt_ok 48 [0,0,2] [] rfl rfl fun K hK => ?_
    try simp only [ltb]
    try simp only [ltb]
    simp only [hixq0,hixq1,sl,cv,go_sem,reduceIte,reduceAdd,reduceLT,reduceLeDiff,reduceMul,reduceEqDiff,reduceSub,reduceCtorEq,List.take_length]
    refine hK _ _ rfl ?_
    simp only [mwb,reduceAdd,reduceEqDiff]
    exact ex_ret ⟨.inl rfl, _, ⟨_, rfl⟩, rfl⟩
  ·refine runX_cut 8 fun K1 hK1 => ?_
   simp only [ltb]
   simp only [hixq0,hixq1,sl,cv,go_sem,reduceIte,reduceAdd,reduceLT,reduceLeDiff,reduceMul,reduceEqDiff,reduceSub,reduceCtorEq,List.take_length]
   refine hK1 _ ?_
   try simp only [ltb]
   simp only [hixq0,hixq1,sl,cv,go_sem,reduceIte,reduceAdd,reduceLT,reduceLeDiff,reduceMul,reduceEqDiff,reduceSub,reduceCtorEq,List.take_length]
   refine hK _ _ rfl ?_
   simp only [mwb,reduceAdd,reduceEqDiff]
   refine ex_cond rfl ?_
   refine ex_region_w tt_ok 48 [0,0,2] [] rfl rfl fun K hK => ?_
   try simp only [ltb]
   try simp only [ltb]
   simp only [hixq0,hixq1,sl,cv,go_sem,reduceIte,reduceAdd,reduceLT,reduceLeDiff,reduceMul,reduceEqDiff,reduceSub,reduceCtorEq,List.take_length]
   refine hK _ _ rfl ?_
   simp only [mwb,reduceAdd,reduceEqDiff]
   exact ex_ret ⟨.inl rfl, _, ⟨_, rfl⟩, rfl⟩
 ·refine runX_cut 8 fun K1 hK1 => ?_
  simp only [ltb]
  simp only [sl,cv,go_sem,reduceIte,reduceAdd,reduceLT,reduceLeDiff,reduceMul,reduceEqDiff,reduceSub,reduceCtorEq,List.take_length]
  refine hK1 _ ?_
  refine runX_cut 8 fun K1 hK1 => ?_
  simp only [ltb]
  simp only [sl,cv,go_sem,reduceIte,reduceAdd,reduceLT,reduceLeDiff,reduceMul,reduceEqDiff,reduceSub,reduceCtorEq,List.take_length]
  refine hK1 _ ?_
  try simp only [ltb]
  simp only [sl,cv,go_sem,reduceIte,reduceAdd,reduceLT,reduceLeDiff,reduceMul,reduceEqDiff,reduceSub,reduceCtorEq,List.take_length]
  refine hK _ _ rfl ?_
  simp only [mwb,reduceAdd,reduceEqDiff]
  refine ex_cond rfl ?_
  refine ex_region_w tt_ok 48 [0,0,2] [] rfl rfl fun K hK => ?_
  try simp only [ltb]
  try simp only [ltb]
  simp only [sl,cv,go_sem,reduceIte,reduceAdd,reduceLT,reduceLeDiff,reduceMul,reduceEqDiff,reduceSub,reduceCtorEq,List.take_length]
  refine hK _ _ rfl ?_
  simp only [mwb,reduceAdd,reduceEqDiff]
  exact ex_ret ⟨.inl rfl, _, ⟨_, rfl⟩, rfl⟩
theorem has_tot (ks : List ByteArray) (s : ByteArray) (hk : ks.length ≤ 1048576) : ∃ r, isB r ∧ FnOk Tryz.prog 194 [.slice (ks.map str), str s] r := by
 refine fn_ex tt_ok (fn := Tryz.f194) Tryz.func194 rfl Tryz.call194 ?_
 simp only [ltb,startSt,Tryz.ntmps194,List.length_cons,List.length_nil,reduceAdd,reduceSub,List.replicate_succ,List.replicate_zero]
 refine ex_region_w tt_ok 18 [0,0,0,0,2] [] rfl rfl fun K hK => ?_
 try simp only [ltb]
 try simp only [ltb]
 simp only [List.length_map,go_sem,reduceIte,reduceAdd,reduceLT,reduceLeDiff,reduceMul,reduceEqDiff,reduceSub,reduceCtorEq,List.take_length]
 refine hK _ _ rfl ?_
 simp only [mwb,reduceAdd,reduceEqDiff]
 refine ex_seq ?_
 refine ex_region_w tt_ok 18 [0,0,0,0,0,2] [] rfl rfl fun K hK => ?_
 try simp only [ltb]
 try simp only [ltb]
 simp only [List.length_map,go_sem,reduceIte,reduceAdd,reduceLT,reduceLeDiff,reduceMul,reduceEqDiff,reduceSub,reduceCtorEq,List.take_length]
 refine hK _ _ rfl ?_
 simp only [mwb,reduceAdd,reduceEqDiff]
 refine ex_block ?_
 refine ex_range 5 (ks.length) 0 [true,true,false,false,true,true] (by omega) (by simp only [maskFr,belowV,belowL,belowB,reduceLT,mkb]) (by simp only [maskFr,belowV,belowL,belowB,reduceLT,mkb]) (by rfl) fun i hii => ?_
 simp only [maskFr,belowV,belowL,belowB,reduceLT,List.set_cons_zero,List.set_cons_succ,mkb]
 refine ex_seq ?_
 refine ex_region_w tt_ok 18 [0,0,0,0,0,0,1,1,1,2] [] rfl rfl fun K hK => ?_
 try simp only [ltb]
 try simp only [ltb]
 simp only [List.length_map,go_sem,reduceIte,reduceAdd,reduceLT,reduceLeDiff,reduceMul,reduceEqDiff,reduceSub,reduceCtorEq,List.take_length]
 refine hK _ _ rfl ?_
 simp only [mwb,reduceAdd,reduceEqDiff]
 refine ex_if rfl (fun hc9 => ?_) (fun hc9 => ?_)
 ·have hlti : i < (ks.length) := by simpa using hc9
  refine ex_skip ?_
  show Go.Eng.Ex _ _ _ _ _ _
  refine ex_seq ?_
  refine ex_block ?_
  refine ex_region_w tt_ok 18 (rp 12 0 [1,1,1,1,1,2]) [] rfl rfl fun K hK => ?_
  try simp only [ltb]
  refine runX_cut 2 fun K1 hK1 => ?_
  simp only [ltb]
  simp only [hlti,List.length_map,go_sem,reduceIte,reduceAdd,reduceLT,reduceLeDiff,reduceMul,reduceEqDiff,reduceSub,reduceCtorEq,List.take_length]
  refine hK1 _ ?_
  obtain ⟨x, hx⟩ : ∃ x, ks[i]? = some x := ⟨_, List.getElem?_eq_getElem hlti⟩
  try simp only [ltb]
  simp only [hlti,List.getElem?_map,hx,List.length_map,go_sem,reduceIte,reduceAdd,reduceLT,reduceLeDiff,reduceMul,reduceEqDiff,reduceSub,reduceCtorEq,List.take_length]
  refine hK _ _ rfl ?_
  simp only [mwb,reduceAdd,reduceEqDiff]
  refine ex_if rfl (fun hc17 => ?_) (fun hc17 => ?_)
  ·refine ex_region_w tt_ok 18 [0,0,0,0,2] [] rfl rfl fun K hK => ?_
   try simp only [ltb]
   try simp only [ltb]
   simp only [hlti,List.getElem?_map,hx,List.length_map,go_sem,reduceIte,reduceAdd,reduceLT,reduceLeDiff,reduceMul,reduceEqDiff,reduceSub,reduceCtorEq,List.take_length]
   refine hK _ _ rfl ?_
   simp only [mwb,reduceAdd,reduceEqDiff]
   exact ex_ret ⟨.inl rfl, _, ⟨_, rfl⟩, rfl⟩
  ·refine ex_skip ?_
   show Go.Eng.Ex _ _ _ _ _ _
   refine ex_last_region_w tt_ok 18 [0,0,0,0,0,2,0,0,0,0,2,2] [] (by kernel_rfl) rfl rfl fun K hK => ?_
   try simp only [ltb]
   try simp only [ltb]
   simp only [hlti,List.getElem?_map,hx,List.length_map,go_sem,reduceIte,reduceAdd,reduceLT,reduceLeDiff,reduceMul,reduceEqDiff,reduceSub,reduceCtorEq,List.take_length]
   refine hK _ _ rfl ?_
   simp only [mwb,reduceAdd,reduceEqDiff]
   have hwi := i64_succ i (by omega)
   refine ⟨hlti, 0, [true,true,false,false,true,true], by omega, by simp only [maskFr,belowV,belowL,belowB,reduceLT,mkb], by simp only [maskFr,belowV,belowL,belowB,reduceLT,mkb], ?_⟩
   simp only [hwi,maskFr,belowV,belowL,belowB,reduceLT,List.set_cons_zero,List.set_cons_succ,mkb]
 ·have hgei : ¬ i < (ks.length) := by simpa using hc9
  refine ex_exit ?_
  show Go.Eng.Ex _ _ _ _ _ _
  refine ex_region_w tt_ok 18 [0,0,0,0,2] [] rfl rfl fun K hK => ?_
  try simp only [ltb]
  try simp only [ltb]
  simp only [List.length_map,go_sem,reduceIte,reduceAdd,reduceLT,reduceLeDiff,reduceMul,reduceEqDiff,reduceSub,reduceCtorEq,List.take_length]
  refine hK _ _ rfl ?_
  simp only [mwb,reduceAdd,reduceEqDiff]
  exact ex_ret ⟨.inl rfl, _, ⟨_, rfl⟩, rfl⟩
theorem risName_tot (s : ByteArray) : ∃ r, isB r ∧ FnOk Tryz.prog 173 [str s] r := by
 refine fn_ex tt_ok (fn := Tryz.f173) Tryz.func173 rfl Tryz.call173 ?_
 simp only [ltb,startSt,Tryz.ntmps173,List.length_cons,List.length_nil,reduceAdd,reduceSub,List.replicate_succ,List.replicate_zero]
 have hT9 : Tryz.prog.underlying 9 = some .string := by kernel_rfl
 have sl : ∀ (a : ByteArray) (ty : TypeId), liftL Tryz.prog (Builtin.len_ #[9] ty) [.sc (.string a)] = some (num a.size) := fun a ty => ev_slen (P := Tryz.prog) (tt := tt) (T := 9) a hT9 ty
 refine ex_region_w tt_ok 26 [0,0,2] [] rfl rfl fun K hK => ?_
 try simp only [ltb]
 try simp only [ltb]
 simp only [sl,go_sem,reduceIte,reduceAdd,reduceLT,reduceLeDiff,reduceMul,reduceEqDiff,reduceSub,reduceCtorEq,List.take_length]
 refine hK _ _ rfl ?_
 simp only [mwb,reduceAdd,reduceEqDiff]
 refine ex_region_w tt_ok 26 (0::0::2::(rp 23 1 [])) [(3, 6), (8, 11), (13, 16), (17, 20)] rfl rfl fun K hK => ?_
 try simp only [ltb]
 refine runX_cut 4 fun K1 hK1 => ?_
 simp only [ltb]
 simp only [sl,go_sem,reduceIte,reduceAdd,reduceLT,reduceLeDiff,reduceMul,reduceEqDiff,reduceSub,reduceCtorEq,List.take_length]
 refine hK1 _ ?_
 refine runX_case 6 (by rfl) fun b hb1_3 => ?_
 cases b
 ·refine runX_cut 8 fun K1 hK1 => ?_
  simp only [ltb]
  simp only [sl,go_sem,reduceIte,reduceAdd,reduceLT,reduceLeDiff,reduceMul,reduceEqDiff,reduceSub,reduceCtorEq,List.take_length]
  refine hK1 _ ?_
  refine runX_cut 8 fun K1 hK1 => ?_
  simp only [ltb]
  simp only [sl,go_sem,reduceIte,reduceAdd,reduceLT,reduceLeDiff,reduceMul,reduceEqDiff,reduceSub,reduceCtorEq,List.take_length]
  refine hK1 _ ?_
  try simp only [ltb]
  simp only [sl,go_sem,reduceIte,reduceAdd,reduceLT,reduceLeDiff,reduceMul,reduceEqDiff,reduceSub,reduceCtorEq,List.take_length]
  refine hK _ _ rfl ?_
  simp only [mwb,reduceAdd,reduceEqDiff]
  exact ex_ret ⟨.inl rfl, _, ⟨_, rfl⟩, rfl⟩
 ·have hs1 : 1 ≤ s.size := by have := of_decide_eq_true hb1_3; omega
  obtain ⟨cs0, hcbs0⟩ := get_byte (s := s) (i := (0 : Int).toNat) (by omega)
  have hixs0 := ev_index (P := Tryz.prog) s hT9 .i64 (0) (by omega) (c := cs0) hcbs0
  refine runX_cut 5 fun K1 hK1 => ?_
  simp only [ltb]
  simp only [hixs0,sl,go_sem,reduceIte,reduceAdd,reduceLT,reduceLeDiff,reduceMul,reduceEqDiff,reduceSub,reduceCtorEq,List.take_length]
  refine hK1 _ ?_
  refine runX_case 11 (by rfl) fun b hb1_8 => ?_
  cases b
  ·refine runX_cut 8 fun K1 hK1 => ?_
   simp only [ltb]
   simp only [hixs0,sl,go_sem,reduceIte,reduceAdd,reduceLT,reduceLeDiff,reduceMul,reduceEqDiff,reduceSub,reduceCtorEq,List.take_length]
   refine hK1 _ ?_
   try simp only [ltb]
   simp only [hixs0,sl,go_sem,reduceIte,reduceAdd,reduceLT,reduceLeDiff,reduceMul,reduceEqDiff,reduceSub,reduceCtorEq,List.take_length]
   refine hK _ _ rfl ?_
   simp only [mwb,reduceAdd,reduceEqDiff]
   exact ex_ret ⟨.inl rfl, _, ⟨_, rfl⟩, rfl⟩
  ·have hs32 : s.size ≤ 32 := by have h1 := hb1_8; simp at h1; omega
   refine runX_cut 3 fun K1 hK1 => ?_
   simp only [ltb]
   simp only [hixs0,sl,go_sem,reduceIte,reduceAdd,reduceLT,reduceLeDiff,reduceMul,reduceEqDiff,reduceSub,reduceCtorEq,List.take_length]
   refine callF_ex (rsmall_ex _) ?_
   rintro _ rfl
   try simp only [hixs0,sl,go_sem,reduceIte,reduceAdd,reduceLT,reduceLeDiff,reduceMul,reduceEqDiff,reduceSub,reduceCtorEq,List.take_length]
   refine hK1 _ ?_
   refine runX_cut 2 fun K1 hK1 => ?_
   simp only [ltb]
   simp only [hixs0,sl,go_sem,reduceIte,reduceAdd,reduceLT,reduceLeDiff,reduceMul,reduceEqDiff,reduceSub,reduceCtorEq,List.take_length]
   refine hK1 _ ?_
   refine runX_case 16 (by rfl) fun b hb1_13 => ?_
   cases b
   ·refine runX_cut 8 fun K1 hK1 => ?_
    simp only [ltb]
    simp only [hixs0,sl,go_sem,reduceIte,reduceAdd,reduceLT,reduceLeDiff,reduceMul,reduceEqDiff,reduceSub,reduceCtorEq,List.take_length]
    refine hK1 _ ?_
    try simp only [ltb]
    simp only [hixs0,sl,go_sem,reduceIte,reduceAdd,reduceLT,reduceLeDiff,reduceMul,reduceEqDiff,reduceSub,reduceCtorEq,List.take_length]
    refine hK _ _ rfl ?_
    simp only [mwb,reduceAdd,reduceEqDiff]
    exact ex_ret ⟨.inl rfl, _, ⟨_, rfl⟩, rfl⟩
   ·refine runX_cut 2 fun K1 hK1 => ?_
    simp only [ltb]
    simp only [hixs0,sl,go_sem,reduceIte,reduceAdd,reduceLT,reduceLeDiff,reduceMul,reduceEqDiff,reduceSub,reduceCtorEq,List.take_length]
    refine callF_ex (words_ex _ (by omega)) ?_
    rintro _ rfl
    try simp only [hixs0,sl,go_sem,reduceIte,reduceAdd,reduceLT,reduceLeDiff,reduceMul,reduceEqDiff,reduceSub,reduceCtorEq,List.take_length]
    refine hK1 _ ?_
    refine runX_cut 2 fun K1 hK1 => ?_
    simp only [ltb]
    simp only [hixs0,sl,go_sem,reduceIte,reduceAdd,reduceLT,reduceLeDiff,reduceMul,reduceEqDiff,reduceSub,reduceCtorEq,List.take_length]
    refine hK1 _ ?_
    refine runX_case 20 (by rfl) fun b hb1_17 => ?_
    cases b
    ·try simp only [ltb]
     simp only [hixs0,sl,go_sem,reduceIte,reduceAdd,reduceLT,reduceLeDiff,reduceMul,reduceEqDiff,reduceSub,reduceCtorEq,List.take_length]
     refine hK _ _ rfl ?_
     simp only [mwb,reduceAdd,reduceEqDiff]
     exact ex_ret ⟨.inl rfl, _, ⟨_, rfl⟩, rfl⟩
    ·refine runX_cut 1 fun K1 hK1 => ?_
     simp only [ltb]
     simp only [hixs0,sl,go_sem,reduceIte,reduceAdd,reduceLT,reduceLeDiff,reduceMul,reduceEqDiff,reduceSub,reduceCtorEq,List.take_length]
     refine callF_ex (⟨_, rfl, keywords_ok⟩) ?_
     rintro _ rfl
     try simp only [hixs0,sl,go_sem,reduceIte,reduceAdd,reduceLT,reduceLeDiff,reduceMul,reduceEqDiff,reduceSub,reduceCtorEq,List.take_length]
     refine hK1 _ ?_
     refine runX_cut 2 fun K1 hK1 => ?_
     simp only [ltb]
     simp only [hixs0,sl,go_sem,reduceIte,reduceAdd,reduceLT,reduceLeDiff,reduceMul,reduceEqDiff,reduceSub,reduceCtorEq,List.take_length]
     refine callF_ex (has_tot kws s (by rw [kws_length]; omega)) ?_
     rintro _ ⟨r4, rfl⟩
     try simp only [hixs0,sl,go_sem,reduceIte,reduceAdd,reduceLT,reduceLeDiff,reduceMul,reduceEqDiff,reduceSub,reduceCtorEq,List.take_length]
     refine hK1 _ ?_
     try simp only [ltb]
     simp only [hixs0,sl,go_sem,reduceIte,reduceAdd,reduceLT,reduceLeDiff,reduceMul,reduceEqDiff,reduceSub,reduceCtorEq,List.take_length]
     refine hK _ _ rfl ?_
     simp only [mwb,reduceAdd,reduceEqDiff]
     exact ex_ret ⟨.inl rfl, _, ⟨_, rfl⟩, rfl⟩
theorem segment_tot (s : ByteArray) (hs : s.size ≤ 1048576) : ∃ r, isB r ∧ FnOk Tryz.prog 211 [str s] r := by
 refine fn_ex tt_ok (fn := Tryz.f211) Tryz.func211 rfl Tryz.call211 ?_
 simp only [ltb,startSt,Tryz.ntmps211,List.length_cons,List.length_nil,reduceAdd,reduceSub,List.replicate_succ,List.replicate_zero]
 have hT9 : Tryz.prog.underlying 9 = some .string := by kernel_rfl
 have sl : ∀ (a : ByteArray) (ty : TypeId), liftL Tryz.prog (Builtin.len_ #[9] ty) [.sc (.string a)] = some (num a.size) := fun a ty => ev_slen (P := Tryz.prog) (tt := tt) (T := 9) a hT9 ty
 refine ex_region_w tt_ok 24 [0,0,2] [] rfl rfl fun K hK => ?_
 try simp only [ltb]
 try simp only [ltb]
 simp only [sl,go_sem,reduceIte,reduceAdd,reduceLT,reduceLeDiff,reduceMul,reduceEqDiff,reduceSub,reduceCtorEq,List.take_length]
 refine hK _ _ rfl ?_
 simp only [mwb,reduceAdd,reduceEqDiff]
 refine ex_seq ?_
 refine ex_region_w tt_ok 24 [0,0,0,2] [] rfl rfl fun K hK => ?_
 try simp only [ltb]
 try simp only [ltb]
 simp only [sl,go_sem,reduceIte,reduceAdd,reduceLT,reduceLeDiff,reduceMul,reduceEqDiff,reduceSub,reduceCtorEq,List.take_length]
 refine hK _ _ rfl ?_
 simp only [mwb,reduceAdd,reduceEqDiff]
 refine ex_block ?_
 refine ex_range 3 (s.size) 0 [true,false,true,true] (by omega) (by simp only [maskFr,belowV,belowL,belowB,reduceLT,mkb]) (by simp only [maskFr,belowV,belowL,belowB,reduceLT,mkb]) (by rfl) fun i hii => ?_
 simp only [maskFr,belowV,belowL,belowB,reduceLT,List.set_cons_zero,List.set_cons_succ,mkb]
 refine ex_seq ?_
 refine ex_region_w tt_ok 24 [0,0,0,0,1,1,1,2] [] rfl rfl fun K hK => ?_
 try simp only [ltb]
 try simp only [ltb]
 simp only [sl,go_sem,reduceIte,reduceAdd,reduceLT,reduceLeDiff,reduceMul,reduceEqDiff,reduceSub,reduceCtorEq,List.take_length]
 refine hK _ _ rfl ?_
 simp only [mwb,reduceAdd,reduceEqDiff]
 refine ex_if rfl (fun hc7 => ?_) (fun hc7 => ?_)
 ·have hlti : i < (s.size) := by simpa using hc7
  refine ex_skip ?_
  show Go.Eng.Ex _ _ _ _ _ _
  refine ex_seq ?_
  refine ex_block ?_
  refine ex_region_w tt_ok 24 (rp 10 0 (rp 11 1 [2])) [(5, 15)] rfl rfl fun K hK => ?_
  try simp only [ltb]
  refine runX_cut 2 fun K1 hK1 => ?_
  simp only [ltb]
  simp only [hlti,sl,go_sem,reduceIte,reduceAdd,reduceLT,reduceLeDiff,reduceMul,reduceEqDiff,reduceSub,reduceCtorEq,List.take_length]
  refine hK1 _ ?_
  obtain ⟨c, hcb⟩ := get_byte (s := s) (i := i) hlti
  have hix := ev_index (P := Tryz.prog) s hT9 .i64 (i : Int) (by omega) (c := c) (show s[((i : Nat) : Int).toNat]? = some c from hcb)
  refine runX_cut 2 fun K1 hK1 => ?_
  simp only [ltb]
  simp only [hlti,hix,sl,go_sem,reduceIte,reduceAdd,reduceLT,reduceLeDiff,reduceMul,reduceEqDiff,reduceSub,reduceCtorEq,List.take_length]
  refine callF_ex (rsmall_ex _) ?_
  rintro _ rfl
  try simp only [hlti,hix,sl,go_sem,reduceIte,reduceAdd,reduceLT,reduceLeDiff,reduceMul,reduceEqDiff,reduceSub,reduceCtorEq,List.take_length]
  refine hK1 _ ?_
  refine runX_cut 2 fun K1 hK1 => ?_
  simp only [ltb]
  simp only [hlti,hix,sl,go_sem,reduceIte,reduceAdd,reduceLT,reduceLeDiff,reduceMul,reduceEqDiff,reduceSub,reduceCtorEq,List.take_length]
  refine hK1 _ ?_
  refine runX_case 15 (by rfl) fun b hb4_5 => ?_
  cases b
  ·try simp only [ltb]
   simp only [hlti,hix,sl,go_sem,reduceIte,reduceAdd,reduceLT,reduceLeDiff,reduceMul,reduceEqDiff,reduceSub,reduceCtorEq,List.take_length]
   refine hK _ _ rfl ?_
   simp only [mwb,reduceAdd,reduceEqDiff]
   refine ex_cond rfl ?_
   refine ex_skip ?_
   show Go.Eng.Ex _ _ _ _ _ _
   refine ex_last_region_w tt_ok 24 [0,0,0,2,0,0,0,0,2,2] [] (by kernel_rfl) rfl rfl fun K hK => ?_
   try simp only [ltb]
   try simp only [ltb]
   simp only [hlti,hix,sl,go_sem,reduceIte,reduceAdd,reduceLT,reduceLeDiff,reduceMul,reduceEqDiff,reduceSub,reduceCtorEq,List.take_length]
   refine hK _ _ rfl ?_
   simp only [mwb,reduceAdd,reduceEqDiff]
   have hwi := i64_succ i (by omega)
   refine ⟨hlti, 0, [true,false,true,true], by omega, by simp only [maskFr,belowV,belowL,belowB,reduceLT,mkb], by simp only [maskFr,belowV,belowL,belowB,reduceLT,mkb], ?_⟩
   simp only [hwi,maskFr,belowV,belowL,belowB,reduceLT,List.set_cons_zero,List.set_cons_succ,mkb]
  ·refine runX_cut 4 fun K1 hK1 => ?_
   simp only [ltb]
   simp only [hlti,hix,sl,go_sem,reduceIte,reduceAdd,reduceLT,reduceLeDiff,reduceMul,reduceEqDiff,reduceSub,reduceCtorEq,List.take_length]
   refine callF_ex (rdigit_ex _) ?_
   rintro _ rfl
   try simp only [hlti,hix,sl,go_sem,reduceIte,reduceAdd,reduceLT,reduceLeDiff,reduceMul,reduceEqDiff,reduceSub,reduceCtorEq,List.take_length]
   refine hK1 _ ?_
   try simp only [ltb]
   simp only [hlti,hix,sl,go_sem,reduceIte,reduceAdd,reduceLT,reduceLeDiff,reduceMul,reduceEqDiff,reduceSub,reduceCtorEq,List.take_length]
   refine hK _ _ rfl ?_
   simp only [mwb,reduceAdd,reduceEqDiff]
   refine ex_if rfl (fun hc21 => ?_) (fun hc21 => ?_)
   ·refine ex_region_w tt_ok 24 [0,0,2] [] rfl rfl fun K hK => ?_
    try simp only [ltb]
    try simp only [ltb]
    simp only [hlti,hix,sl,go_sem,reduceIte,reduceAdd,reduceLT,reduceLeDiff,reduceMul,reduceEqDiff,reduceSub,reduceCtorEq,List.take_length]
    refine hK _ _ rfl ?_
    simp only [mwb,reduceAdd,reduceEqDiff]
    exact ex_ret ⟨.inl rfl, _, ⟨_, rfl⟩, rfl⟩
   ·refine ex_skip ?_
    show Go.Eng.Ex _ _ _ _ _ _
    refine ex_last_region_w tt_ok 24 [0,0,0,2,0,0,0,0,2,2] [] (by kernel_rfl) rfl rfl fun K hK => ?_
    try simp only [ltb]
    try simp only [ltb]
    simp only [hlti,hix,sl,go_sem,reduceIte,reduceAdd,reduceLT,reduceLeDiff,reduceMul,reduceEqDiff,reduceSub,reduceCtorEq,List.take_length]
    refine hK _ _ rfl ?_
    simp only [mwb,reduceAdd,reduceEqDiff]
    have hwi := i64_succ i (by omega)
    refine ⟨hlti, 0, [true,false,true,true], by omega, by simp only [maskFr,belowV,belowL,belowB,reduceLT,mkb], by simp only [maskFr,belowV,belowL,belowB,reduceLT,mkb], ?_⟩
    simp only [hwi,maskFr,belowV,belowL,belowB,reduceLT,List.set_cons_zero,List.set_cons_succ,mkb]
 ·have hgei : ¬ i < (s.size) := by simpa using hc7
  refine ex_exit ?_
  show Go.Eng.Ex _ _ _ _ _ _
  refine ex_region_w tt_ok 24 (0::0::2::(rp 19 0 [1,1])) [] rfl rfl fun K hK => ?_
  try simp only [ltb]
  refine runX_cut 2 fun K1 hK1 => ?_
  simp only [ltb]
  simp only [sl,go_sem,reduceIte,reduceAdd,reduceLT,reduceLeDiff,reduceMul,reduceEqDiff,reduceSub,reduceCtorEq,List.take_length]
  refine callF_ex (risName_tot _) ?_
  rintro _ ⟨r3, rfl⟩
  try simp only [sl,go_sem,reduceIte,reduceAdd,reduceLT,reduceLeDiff,reduceMul,reduceEqDiff,reduceSub,reduceCtorEq,List.take_length]
  refine hK1 _ ?_
  try simp only [ltb]
  simp only [sl,go_sem,reduceIte,reduceAdd,reduceLT,reduceLeDiff,reduceMul,reduceEqDiff,reduceSub,reduceCtorEq,List.take_length]
  refine hK _ _ rfl ?_
  simp only [mwb,reduceAdd,reduceEqDiff]
  exact ex_ret ⟨.inl rfl, _, ⟨_, rfl⟩, rfl⟩
end Go.Proofs.YtpjdfcigadnhcaaGreatDoor
end

section
namespace Go.Proofs.YtpjdfcigadnhcaaGreatDoor
open Go.Eng
open Nat (reduceAdd reduceLT reduceLeDiff reduceMul reduceEqDiff reduceSub)
variable [Glob]
set_option maxHeartbeats 4000000
set_option maxRecDepth 100000
attribute [local irreducible] runM stepM valD stepOp stepD callF callS
theorem strNum_size (c : Int) : (strOfNums [c]).size = 1 := strOfNums_size [c]
theorem segments_tot (s : ByteArray) (hs : s.size ≤ 1048576) : ∃ r, (fun v => ∃ xs : List ByteArray, v = .slice (xs.map str) ∧ xs ≠ [] ∧ xs.length ≤ s.size + 1 ∧ ∀ x ∈ xs, x.size ≤ s.size) r ∧ FnOk Tryz.prog 210 [str s] r := by
 refine fn_ex tt_ok (fn := Tryz.f210) Tryz.func210 rfl Tryz.call210 ?_
 simp only [ltb,startSt,Tryz.ntmps210,List.length_cons,List.length_nil,reduceAdd,reduceSub,List.replicate_succ,List.replicate_zero]
 have hT9 : Tryz.prog.underlying 9 = some .string := by kernel_rfl
 have sl : ∀ (a : ByteArray) (ty : TypeId), liftL Tryz.prog (Builtin.len_ #[9] ty) [.sc (.string a)] = some (num a.size) := fun a ty => ev_slen (P := Tryz.prog) (tt := tt) (T := 9) a hT9 ty
 have hcv := fun (n : Int) => convV_slice (P := Tryz.prog) (mem := []) (s := 209) (d := 9) (e := 5) (rows := [.sc (.int .u8 n)]) (ns := [n]) (by kernel_rfl) (by kernel_rfl) hT9 rfl
 refine ex_region_w tt_ok 37 [0,0,2] [] rfl rfl fun K hK => ?_
 try simp only [ltb]
 try simp only [ltb]
 simp only [sl,hcv,tt209,go_sem,reduceIte,reduceAdd,reduceLT,reduceLeDiff,reduceMul,reduceEqDiff,reduceSub,reduceCtorEq,List.take_length]
 refine hK _ _ rfl ?_
 simp only [mwb,reduceAdd,reduceEqDiff]
 refine ex_region_w tt_ok 37 [0,0,0,2,0,1] [] rfl rfl fun K hK => ?_
 try simp only [ltb]
 try simp only [ltb]
 simp only [sl,hcv,tt209,go_sem,reduceIte,reduceAdd,reduceLT,reduceLeDiff,reduceMul,reduceEqDiff,reduceSub,reduceCtorEq,List.take_length]
 refine hK _ _ rfl ?_
 simp only [mwb,reduceAdd,reduceEqDiff]
 refine ex_seq ?_
 refine ex_region_w tt_ok 37 [0,0,0,0,2] [] rfl rfl fun K hK => ?_
 try simp only [ltb]
 try simp only [ltb]
 simp only [sl,hcv,tt209,go_sem,reduceIte,reduceAdd,reduceLT,reduceLeDiff,reduceMul,reduceEqDiff,reduceSub,reduceCtorEq,List.take_length]
 refine hK _ _ rfl ?_
 simp only [mwb,reduceAdd,reduceEqDiff]
 refine ex_block ?_
 refine ex_loopF (fun a : Nat × Nat × List ByteArray × ByteArray => { fr := [str s, .undef, .undef, .ms 0 a.2.1 0 (a.2.1 + 1), num a.1, .undef, .undef, .undef, .undef, .undef, .undef, .undef, .undef, .undef, .undef, .undef, .undef, .undef, .undef, .undef, .undef, .undef, .undef, .undef, .undef, .undef, .undef, .undef, .undef, .undef, .undef, .undef, .undef, .undef, .undef, .undef, .undef], mem := [.rows a.2.1 1 ((a.2.2.1 ++ [a.2.2.2]).map str)] }) (fun a => s.size - a.1) (fun a => a.1 ≤ s.size ∧ a.2.2.1.length = a.2.1 ∧ a.2.1 ≤ a.1 ∧ a.2.2.2.size ≤ a.1 ∧ ∀ x ∈ a.2.2.1, x.size ≤ s.size) ((0, 0, [], ⟨#[]⟩)) 1 [true,false,false,true,true] (by omega) (by simp only [maskFr,belowV,belowL,belowB,reduceLT,mkb]) (by simp only [maskFr,belowV,belowL,belowB,reduceLT,mkb]) (by simp only [maskFr,belowV,belowL,belowB,reduceLT,List.map_cons,List.map_nil,List.nil_append,mkb]; rfl) (⟨Nat.zero_le _, rfl, Nat.le_refl _, Nat.le_refl _, fun x hx => by cases hx⟩) ?_
 rintro ⟨i, k, xs, y⟩ ⟨hi, hxl, hki, hyi, hall⟩
 dsimp only at hi hxl hki hyi hall
 dsimp only
 refine ex_seq ?_
 refine ex_region_w tt_ok 37 [0,0,0,0,0,0,1,1,1,2] [] rfl rfl fun K hK => ?_
 try simp only [ltb]
 try simp only [ltb]
 simp only [sl,hcv,tt209,go_sem,reduceIte,reduceAdd,reduceLT,reduceLeDiff,reduceMul,reduceEqDiff,reduceSub,reduceCtorEq,List.take_length]
 refine hK _ _ rfl ?_
 simp only [mwb,reduceAdd,reduceEqDiff]
 refine ex_if rfl (fun hc9 => ?_) (fun hc9 => ?_)
 ·have hlt : i < s.size := by simpa using hc9
  have hw := i64_succ i (by omega)
  obtain ⟨c, hcb⟩ := get_byte (s := s) (i := i) hlt
  have hix := ev_index (P := Tryz.prog) s hT9 .i64 (i : Int) (by omega) (c := c) (show s[((i : Nat) : Int).toNat]? = some c from hcb)
  have hwm : IntKind.i64.wrap (((k + 1 : Nat) : Int) - 1) = ((k : Nat) : Int) := i64_c _ k (by omega) (by omega)
  have hk1 : ((k : Nat) : Int) < ((k + 1 : Nat) : Int) := by omega
  have hgy : (xs ++ [y])[k]? = some y := by rw [List.getElem?_append_right (by omega), hxl, Nat.sub_self]; rfl
  have hbd : k + 1 + 1 ≤ 34359738368 := by omega
  have hsa := fun a b => ev_sadd Tryz.prog 9 a b y (strOfNums [(c.toNat : Int)]) (by rw [strNum_size, show IntKind.i64.max = 9223372036854775807 from rfl]; omega)
  refine ex_skip ?_
  show Go.Eng.Ex _ _ _ _ _ _
  refine ex_seq ?_
  refine ex_block ?_
  refine ex_region_w tt_ok 37 (rp 12 0 [1,1,1,2]) [] rfl rfl fun K hK => ?_
  try simp only [ltb]
  try simp only [ltb]
  simp only [hw,hix,hwm,hk1,hbd,hxl,List.getElem?_map,hgy,hsa,List.length_map,List.length_append,List.length_cons,List.length_nil,Nat.zero_add,sl,hcv,tt209,go_sem,reduceIte,reduceAdd,reduceLT,reduceLeDiff,reduceMul,reduceEqDiff,reduceSub,reduceCtorEq,List.take_length]
  refine hK _ _ rfl ?_
  simp only [mwb,reduceAdd,reduceEqDiff]
  refine ex_if rfl (fun hc15 => ?_) (fun hc15 => ?_)
  ·let nv : Nat × Nat × List ByteArray × ByteArray := (i + 1, k + 1, xs ++ [y], ⟨#[]⟩)
   refine ex_last_region_w tt_ok 37 (0::0::0::2::(rp 12 0 [2,2,2])) [] (by kernel_rfl) rfl rfl fun K hK => ?_
   try simp only [ltb]
   try simp only [ltb]
   simp only [hw,hix,hwm,hk1,hbd,hxl,List.getElem?_map,hgy,hsa,List.length_map,List.length_append,List.length_cons,List.length_nil,Nat.zero_add,sl,hcv,tt209,go_sem,reduceIte,reduceAdd,reduceLT,reduceLeDiff,reduceMul,reduceEqDiff,reduceSub,reduceCtorEq,List.take_length]
   refine hK _ _ rfl ?_
   simp only [mwb,reduceAdd,reduceEqDiff]
   show Go.Eng.Ex _ _ _ _ _ _
   refine ex_last_region_w tt_ok 37 [0,0,0,0,2,0,0,0,0,0,2,2] [] (by kernel_rfl) rfl rfl fun K hK => ?_
   try simp only [ltb]
   try simp only [ltb]
   simp only [hw,hix,hwm,hk1,hbd,hxl,List.getElem?_map,hgy,hsa,List.length_map,List.length_append,List.length_cons,List.length_nil,Nat.zero_add,sl,hcv,tt209,go_sem,reduceIte,reduceAdd,reduceLT,reduceLeDiff,reduceMul,reduceEqDiff,reduceSub,reduceCtorEq,List.take_length]
   refine hK _ _ rfl ?_
   simp only [mwb,reduceAdd,reduceEqDiff]
   refine ⟨nv, ?_, ?_, 1, [true,false,false,true,true], by omega, by simp only [maskFr,belowV,belowL,belowB,reduceLT,mkb], by simp only [maskFr,belowV,belowL,belowB,reduceLT,mkb], by (simp [rp,nv, maskFr, List.map_append]; first | done | (rw [List.set_append_right _ _ (by rw [List.length_map]; omega), List.length_map, hxl, Nat.sub_self]; rfl))⟩
   ·refine ⟨hlt, ?_, ?_, ?_, ?_⟩
    ·dsimp only [nv]; first | exact hxl | (rw [List.length_append, hxl]; rfl)
    ·dsimp only [nv]; omega
    ·dsimp only [nv]; first | exact Nat.zero_le _ | (rw [ByteArray.size_append, strNum_size]; omega)
    ·intro x hx; dsimp only [nv] at hx; first | exact hall x hx | (rcases List.mem_append.1 hx with h | h; exact hall x h; rw [List.mem_singleton.1 h]; omega)
   ·dsimp only [nv]; omega
  ·let nv : Nat × Nat × List ByteArray × ByteArray := (i + 1, k, xs, y ++ strOfNums [(c.toNat : Int)])
   refine ex_last_mixed_w tt_ok mixed_ok 37 [0,0,0,0,0,0,0,0,0,0,0,0,0,0,0,0,0,0,0,2,2,2,2,2,2,2,2,2,2,2,2,2,2,2,2,2] (by kernel_rfl) (by kernel_rfl) [⟨.n, 0, [], []⟩, ⟨.n, 0, [], []⟩, ⟨.n, 0, [], []⟩, ⟨.n, 0, [], []⟩, ⟨.n, 0, [], []⟩, ⟨.n, 0, [], []⟩, ⟨.n, 0, [], []⟩, ⟨.n, 0, [], []⟩, ⟨.r, 0, [], []⟩, ⟨.r, 0, [], []⟩, ⟨.n, 0, [], []⟩, ⟨.n, 0, [], []⟩, ⟨.n, 0, [], []⟩, ⟨.n, 0, [], []⟩, ⟨.n, 0, [], []⟩, ⟨.n, 0, [], []⟩, ⟨.r, 0, [], []⟩, ⟨.w, 0, [], []⟩] 1 (by kernel_rfl) fun K hK => ?_
   try simp only [ltb,List.replicate_zero,List.replicate_succ]
   refine runM_cut 6 (by simp) (by simp) fun K1 hK1 => ?_
   try simp only [ltb]
   simp only [hw,hix,hwm,hk1,hbd,hxl,List.getElem?_map,hgy,hsa,List.length_map,List.length_append,List.length_cons,List.length_nil,Nat.zero_add,sl,hcv,tt209,go_sem,reduceIte,reduceAdd,reduceLT,reduceLeDiff,reduceMul,reduceEqDiff,reduceSub,reduceCtorEq,List.take_length,List.replicate]
   refine hK1 _ ?_
   refine runM_cut 6 (by simp) (by simp) fun K1 hK1 => ?_
   try simp only [ltb]
   simp only [hw,hix,hwm,hk1,hbd,hxl,List.getElem?_map,hgy,hsa,List.length_map,List.length_append,List.length_cons,List.length_nil,Nat.zero_add,sl,hcv,tt209,go_sem,reduceIte,reduceAdd,reduceLT,reduceLeDiff,reduceMul,reduceEqDiff,reduceSub,reduceCtorEq,List.take_length,List.replicate]
   refine hK1 _ ?_
   try simp only [ltb]
   simp only [hw,hix,hwm,hk1,hbd,hxl,List.getElem?_map,hgy,hsa,List.length_map,List.length_append,List.length_cons,List.length_nil,Nat.zero_add,sl,hcv,tt209,go_sem,reduceIte,reduceAdd,reduceLT,reduceLeDiff,reduceMul,reduceEqDiff,reduceSub,reduceCtorEq,List.take_length,List.replicate]
   refine hK _ _ rfl ?_
   simp only [mwb,reduceAdd,reduceEqDiff]
   show Go.Eng.Ex _ _ _ _ _ _
   refine ex_last_region_w tt_ok 37 [0,0,0,0,2,0,0,0,0,0,2,2] [] (by kernel_rfl) rfl rfl fun K hK => ?_
   try simp only [ltb]
   try simp only [ltb]
   simp only [hw,hix,hwm,hk1,hbd,hxl,List.getElem?_map,hgy,hsa,List.length_map,List.length_append,List.length_cons,List.length_nil,Nat.zero_add,sl,hcv,tt209,go_sem,reduceIte,reduceAdd,reduceLT,reduceLeDiff,reduceMul,reduceEqDiff,reduceSub,reduceCtorEq,List.take_length]
   refine hK _ _ rfl ?_
   simp only [mwb,reduceAdd,reduceEqDiff]
   refine ⟨nv, ?_, ?_, 1, [true,false,false,true,true], by omega, by simp only [maskFr,belowV,belowL,belowB,reduceLT,mkb], by simp only [maskFr,belowV,belowL,belowB,reduceLT,mkb], by (simp [rp,nv, maskFr, List.map_append]; first | done | (rw [List.set_append_right _ _ (by rw [List.length_map]; omega), List.length_map, hxl, Nat.sub_self]; rfl))⟩
   ·refine ⟨hlt, ?_, ?_, ?_, ?_⟩
    ·dsimp only [nv]; first | exact hxl | (rw [List.length_append, hxl]; rfl)
    ·dsimp only [nv]; omega
    ·dsimp only [nv]; first | exact Nat.zero_le _ | (rw [ByteArray.size_append, strNum_size]; omega)
    ·intro x hx; dsimp only [nv] at hx; first | exact hall x hx | (rcases List.mem_append.1 hx with h | h; exact hall x h; rw [List.mem_singleton.1 h]; omega)
   ·dsimp only [nv]; omega
 ·refine ex_exit ?_
  show Go.Eng.Ex _ _ _ _ _ _
  refine ex_region_w tt_ok 37 (0::0::2::(rp 33 0 [1])) [] rfl rfl fun K hK => ?_
  try simp only [ltb]
  try simp only [ltb]
  simp only [sl,hcv,tt209,go_sem,reduceIte,reduceAdd,reduceLT,reduceLeDiff,reduceMul,reduceEqDiff,reduceSub,reduceCtorEq,List.take_length]
  refine hK _ _ rfl ?_
  simp only [mwb,reduceAdd,reduceEqDiff]
  refine ex_ret ?_
  refine ⟨.inl rfl, .slice ((xs ++ [y]).map str), ⟨_, rfl, by simp, by rw [List.length_append, hxl]; simp; omega, fun x hx => ?_⟩, ?_⟩
  ·rcases List.mem_append.1 hx with h | h
   ·exact hall x h
   ·rw [List.mem_singleton.1 h]; omega
  ·simp [retV, resL, resV, pur, pur1, purCell, hxl]
   exact List.take_of_length_le (by simp; omega)
theorem rmajorOf_tot (s : ByteArray) : ∃ r, (fun v => ∃ a b : Int, v = .tup [num a, num b]) r ∧ FnOk Tryz.prog 202 [str s] r := by
 refine fn_ex tt_ok (fn := Tryz.f202) Tryz.func202 rfl Tryz.call202 ?_
 simp only [ltb,startSt,Tryz.ntmps202,List.length_cons,List.length_nil,reduceAdd,reduceSub,List.replicate_succ,List.replicate_zero]
 have hT9 : Tryz.prog.underlying 9 = some .string := by kernel_rfl
 have sl : ∀ (a : ByteArray) (ty : TypeId), liftL Tryz.prog (Builtin.len_ #[9] ty) [.sc (.string a)] = some (num a.size) := fun a ty => ev_slen (P := Tryz.prog) (tt := tt) (T := 9) a hT9 ty
 refine ex_region_w tt_ok 39 [0,0,2,2] [] rfl rfl fun K hK => ?_
 try simp only [ltb]
 try simp only [ltb]
 simp only [sl,List.length_map,go_sem,reduceIte,reduceAdd,reduceLT,reduceLeDiff,reduceMul,reduceEqDiff,reduceSub,reduceCtorEq,List.take_length]
 refine hK _ _ rfl ?_
 simp only [mwb,reduceAdd,reduceEqDiff]
 refine ex_seq ?_
 refine ex_region_w tt_ok 39 [0,0,0,0,0,0,0,1,1,2] [] rfl rfl fun K hK => ?_
 try simp only [ltb]
 try simp only [ltb]
 simp only [sl,List.length_map,go_sem,reduceIte,reduceAdd,reduceLT,reduceLeDiff,reduceMul,reduceEqDiff,reduceSub,reduceCtorEq,List.take_length]
 refine hK _ _ rfl ?_
 simp only [mwb,reduceAdd,reduceEqDiff]
 refine ex_if rfl (fun hc9 => ?_) (fun hc9 => ?_)
 ·refine ex_region_w tt_ok 39 [0,0,2,2] [] rfl rfl fun K hK => ?_
  try simp only [ltb]
  try simp only [ltb]
  simp only [sl,List.length_map,go_sem,reduceIte,reduceAdd,reduceLT,reduceLeDiff,reduceMul,reduceEqDiff,reduceSub,reduceCtorEq,List.take_length]
  refine hK _ _ rfl ?_
  simp only [mwb,reduceAdd,reduceEqDiff]
  exact ex_ret ⟨.inl rfl, _, ⟨_, _, rfl⟩, rfl⟩
 ·have hs64 : s.size ≤ 64 := by have := of_decide_eq_false hc9; omega
  refine ex_skip ?_
  show Go.Eng.Ex _ _ _ _ _ _
  refine ex_region_w tt_ok 39 [0,0,0,0,2,0,0,0,0,0,1,1] [] rfl rfl fun K hK => ?_
  try simp only [ltb]
  refine runX_cut 2 fun K1 hK1 => ?_
  simp only [ltb]
  simp only [sl,List.length_map,go_sem,reduceIte,reduceAdd,reduceLT,reduceLeDiff,reduceMul,reduceEqDiff,reduceSub,reduceCtorEq,List.take_length]
  refine callF_ex (segments_tot s (by omega)) ?_
  rintro _ ⟨xs, rfl, hne, hxl, hxs⟩
  try simp only [sl,List.length_map,go_sem,reduceIte,reduceAdd,reduceLT,reduceLeDiff,reduceMul,reduceEqDiff,reduceSub,reduceCtorEq,List.take_length]
  have hpos : 0 < xs.length := List.length_pos_iff.2 hne
  refine hK1 _ ?_
  try simp only [ltb]
  simp only [sl,List.length_map,go_sem,reduceIte,reduceAdd,reduceLT,reduceLeDiff,reduceMul,reduceEqDiff,reduceSub,reduceCtorEq,List.take_length]
  refine hK _ _ rfl ?_
  simp only [mwb,reduceAdd,reduceEqDiff]
  refine ex_seq ?_
  refine ex_region_w tt_ok 39 [0,0,0,0,0,2] [] rfl rfl fun K hK => ?_
  try simp only [ltb]
  try simp only [ltb]
  simp only [sl,List.length_map,go_sem,reduceIte,reduceAdd,reduceLT,reduceLeDiff,reduceMul,reduceEqDiff,reduceSub,reduceCtorEq,List.take_length]
  refine hK _ _ rfl ?_
  simp only [mwb,reduceAdd,reduceEqDiff]
  refine ex_block ?_
  refine ex_range 5 (xs.length) 0 [false,false,true,true,true,true,false,false,false,true] (by omega) (by simp only [maskFr,belowV,belowL,belowB,reduceLT,mkb]) (by simp only [maskFr,belowV,belowL,belowB,reduceLT,mkb]) (by rfl) fun i hii => ?_
  simp only [maskFr,belowV,belowL,belowB,reduceLT,List.set_cons_zero,List.set_cons_succ,mkb]
  refine ex_seq ?_
  refine ex_region_w tt_ok 39 (rp 12 0 [1,1,1,2]) [] rfl rfl fun K hK => ?_
  try simp only [ltb]
  try simp only [ltb]
  simp only [sl,List.length_map,go_sem,reduceIte,reduceAdd,reduceLT,reduceLeDiff,reduceMul,reduceEqDiff,reduceSub,reduceCtorEq,List.take_length]
  refine hK _ _ rfl ?_
  simp only [mwb,reduceAdd,reduceEqDiff]
  refine ex_if rfl (fun hc15 => ?_) (fun hc15 => ?_)
  ·have hlti : i < (xs.length) := by simpa using hc15
   refine ex_skip ?_
   show Go.Eng.Ex _ _ _ _ _ _
   refine ex_seq ?_
   refine ex_block ?_
   refine ex_region_w tt_ok 39 (rp 18 0 [1,1,1,1,1,2]) [] rfl rfl fun K hK => ?_
   try simp only [ltb]
   refine runX_cut 2 fun K1 hK1 => ?_
   simp only [ltb]
   simp only [hlti,sl,List.length_map,go_sem,reduceIte,reduceAdd,reduceLT,reduceLeDiff,reduceMul,reduceEqDiff,reduceSub,reduceCtorEq,List.take_length]
   refine hK1 _ ?_
   obtain ⟨x, hx⟩ : ∃ x, xs[i]? = some x := ⟨_, List.getElem?_eq_getElem hlti⟩
   refine runX_cut 3 fun K1 hK1 => ?_
   simp only [ltb]
   simp only [hlti,List.getElem?_map,hx,sl,List.length_map,go_sem,reduceIte,reduceAdd,reduceLT,reduceLeDiff,reduceMul,reduceEqDiff,reduceSub,reduceCtorEq,List.take_length]
   refine callF_ex (segment_tot x (by have := hxs x (List.mem_of_getElem? hx); omega)) ?_
   rintro _ ⟨r2, rfl⟩
   try simp only [hlti,List.getElem?_map,hx,sl,List.length_map,go_sem,reduceIte,reduceAdd,reduceLT,reduceLeDiff,reduceMul,reduceEqDiff,reduceSub,reduceCtorEq,List.take_length]
   refine hK1 _ ?_
   try simp only [ltb]
   simp only [hlti,List.getElem?_map,hx,sl,List.length_map,go_sem,reduceIte,reduceAdd,reduceLT,reduceLeDiff,reduceMul,reduceEqDiff,reduceSub,reduceCtorEq,List.take_length]
   refine hK _ _ rfl ?_
   simp only [mwb,reduceAdd,reduceEqDiff]
   refine ex_if rfl (fun hc23 => ?_) (fun hc23 => ?_)
   ·refine ex_region_w tt_ok 39 [0,0,2,2] [] rfl rfl fun K hK => ?_
    try simp only [ltb]
    try simp only [ltb]
    simp only [hlti,List.getElem?_map,hx,sl,List.length_map,go_sem,reduceIte,reduceAdd,reduceLT,reduceLeDiff,reduceMul,reduceEqDiff,reduceSub,reduceCtorEq,List.take_length]
    refine hK _ _ rfl ?_
    simp only [mwb,reduceAdd,reduceEqDiff]
    exact ex_ret ⟨.inl rfl, _, ⟨_, _, rfl⟩, rfl⟩
   ·refine ex_skip ?_
    show Go.Eng.Ex _ _ _ _ _ _
    refine ex_last_region_w tt_ok 39 [0,0,0,0,0,2,0,0,0,0,0,0,0,0,0,0,2,2] [] (by kernel_rfl) rfl rfl fun K hK => ?_
    try simp only [ltb]
    try simp only [ltb]
    simp only [hlti,List.getElem?_map,hx,sl,List.length_map,go_sem,reduceIte,reduceAdd,reduceLT,reduceLeDiff,reduceMul,reduceEqDiff,reduceSub,reduceCtorEq,List.take_length]
    refine hK _ _ rfl ?_
    simp only [mwb,reduceAdd,reduceEqDiff]
    have hwi := i64_succ i (by omega)
    refine ⟨hlti, 0, [false,false,true,true,true,true,false,false,false,true], by omega, by simp only [maskFr,belowV,belowL,belowB,reduceLT,mkb], by simp only [maskFr,belowV,belowL,belowB,reduceLT,mkb], ?_⟩
    simp only [hwi,maskFr,belowV,belowL,belowB,reduceLT,List.set_cons_zero,List.set_cons_succ,mkb]
  ·have hgei : ¬ i < (xs.length) := by simpa using hc15
   refine ex_exit ?_
   show Go.Eng.Ex _ _ _ _ _ _
   obtain ⟨z, hz⟩ : ∃ z, xs[xs.length - 1]? = some z := ⟨_, List.getElem?_eq_getElem (by omega)⟩
   have hwm : IntKind.i64.wrap ((xs.length : Int) - 1) = ((xs.length - 1 : Nat) : Int) := i64_c _ _ (by omega) (by omega)
   refine ex_region_w tt_ok 39 (0::0::0::0::0::0::2::(rp 17 0 [1,1,1,1,1,1,1])) [] rfl rfl fun K hK => ?_
   try simp only [ltb]
   refine runX_cut 7 fun K1 hK1 => ?_
   simp only [ltb]
   simp only [List.getElem?_map,hz,hwm,sl,List.length_map,go_sem,reduceIte,reduceAdd,reduceLT,reduceLeDiff,reduceMul,reduceEqDiff,reduceSub,reduceCtorEq,List.take_length]
   refine callF_ex (rmajor_tot _) ?_
   rintro _ ⟨mj, rfl⟩
   try simp only [List.getElem?_map,hz,hwm,sl,List.length_map,go_sem,reduceIte,reduceAdd,reduceLT,reduceLeDiff,reduceMul,reduceEqDiff,reduceSub,reduceCtorEq,List.take_length]
   refine hK1 _ ?_
   try simp only [ltb]
   simp only [List.getElem?_map,hz,hwm,sl,List.length_map,go_sem,reduceIte,reduceAdd,reduceLT,reduceLeDiff,reduceMul,reduceEqDiff,reduceSub,reduceCtorEq,List.take_length]
   refine hK _ _ rfl ?_
   simp only [mwb,reduceAdd,reduceEqDiff]
   refine ex_seq ?_
   refine ex_region_w tt_ok 39 (rp 31 0 [1,1,1,1,1,1,2]) [(3, 34)] rfl rfl fun K hK => ?_
   try simp only [ltb]
   refine runX_cut 4 fun K1 hK1 => ?_
   simp only [ltb]
   simp only [List.getElem?_map,hz,hwm,sl,List.length_map,go_sem,reduceIte,reduceAdd,reduceLT,reduceLeDiff,reduceMul,reduceEqDiff,reduceSub,reduceCtorEq,List.take_length]
   refine hK1 _ ?_
   refine runX_case 34 (by rfl) fun b hb10_3 => ?_
   cases b
   ·try simp only [ltb]
    simp only [List.getElem?_map,hz,hwm,sl,List.length_map,go_sem,reduceIte,reduceAdd,reduceLT,reduceLeDiff,reduceMul,reduceEqDiff,reduceSub,reduceCtorEq,List.take_length]
    refine hK _ _ rfl ?_
    simp only [mwb,reduceAdd,reduceEqDiff]
    refine ex_if rfl (fun hc37 => ?_) (fun hc37 => ?_)
    ·refine ex_region_w tt_ok 39 [0,0,2,2] [] rfl rfl fun K hK => ?_
     try simp only [ltb]
     try simp only [ltb]
     simp only [List.getElem?_map,hz,hwm,sl,List.length_map,go_sem,reduceIte,reduceAdd,reduceLT,reduceLeDiff,reduceMul,reduceEqDiff,reduceSub,reduceCtorEq,List.take_length]
     refine hK _ _ rfl ?_
     simp only [mwb,reduceAdd,reduceEqDiff]
     exact ex_ret ⟨.inl rfl, _, ⟨_, _, rfl⟩, rfl⟩
    ·refine ex_skip ?_
     show Go.Eng.Ex _ _ _ _ _ _
     refine ex_region_w tt_ok 39 (0::0::2::2::(rp 34 0 [1])) [] rfl rfl fun K hK => ?_
     try simp only [ltb]
     try simp only [ltb]
     simp only [List.getElem?_map,hz,hwm,sl,List.length_map,go_sem,reduceIte,reduceAdd,reduceLT,reduceLeDiff,reduceMul,reduceEqDiff,reduceSub,reduceCtorEq,List.take_length]
     refine hK _ _ rfl ?_
     simp only [mwb,reduceAdd,reduceEqDiff]
     exact ex_ret ⟨.inl rfl, _, ⟨_, _, rfl⟩, rfl⟩
   ·try simp only [ltb]
    simp only [List.getElem?_map,hz,hwm,sl,List.length_map,go_sem,reduceIte,reduceAdd,reduceLT,reduceLeDiff,reduceMul,reduceEqDiff,reduceSub,reduceCtorEq,List.take_length]
    refine hK _ _ rfl ?_
    simp only [mwb,reduceAdd,reduceEqDiff]
    refine ex_cond rfl ?_
    refine ex_region_w tt_ok 39 [0,0,2,2] [] rfl rfl fun K hK => ?_
    try simp only [ltb]
    try simp only [ltb]
    simp only [List.getElem?_map,hz,hwm,sl,List.length_map,go_sem,reduceIte,reduceAdd,reduceLT,reduceLeDiff,reduceMul,reduceEqDiff,reduceSub,reduceCtorEq,List.take_length]
    refine hK _ _ rfl ?_
    simp only [mwb,reduceAdd,reduceEqDiff]
    exact ex_ret ⟨.inl rfl, _, ⟨_, _, rfl⟩, rfl⟩
theorem risPath_tot (s : ByteArray) : ∃ r, isB r ∧ FnOk Tryz.prog 193 [str s] r := by
 refine fn_ex tt_ok (fn := Tryz.f193) Tryz.func193 rfl Tryz.call193 ?_
 simp only [ltb,startSt,Tryz.ntmps193,List.length_cons,List.length_nil,reduceAdd,reduceSub,List.replicate_succ,List.replicate_zero]
 refine ex_region_w tt_ok 12 [0,0,2] [] rfl rfl fun K hK => ?_
 try simp only [ltb]
 simp only [ltb,go_sem,reduceIte,reduceAdd,reduceLT,reduceLeDiff,reduceMul,reduceEqDiff,reduceSub,reduceCtorEq,List.take_length]
 refine hK _ _ rfl ?_
 simp only [mwb,reduceAdd,reduceEqDiff]
 refine ex_region_w tt_ok 12 [0,0,0,1,2,1,1,1,1,1] [] rfl rfl fun K hK => ?_
 try simp only [ltb]
 refine runX_cut 2 fun K1 hK1 => ?_
 simp only [ltb,go_sem,reduceIte,reduceAdd,reduceLT,reduceLeDiff,reduceMul,reduceEqDiff,reduceSub,reduceCtorEq,List.take_length]
 refine callF_ex (rmajorOf_tot s) ?_
 rintro _ ⟨a, b, rfl⟩
 try simp only [go_sem,reduceIte,reduceAdd,reduceLT,reduceLeDiff,reduceMul,reduceEqDiff,reduceSub,reduceCtorEq,List.take_length]
 refine hK1 _ ?_
 simp only [ltb,go_sem,reduceIte,reduceAdd,reduceLT,reduceLeDiff,reduceMul,reduceEqDiff,reduceSub,reduceCtorEq,List.take_length]
 refine hK _ _ rfl ?_
 simp only [mwb,reduceAdd,reduceEqDiff]
 refine ex_region_w tt_ok 12 [0,0,2,0,0,0,0,0,0,0,1,1] [] rfl rfl fun K hK => ?_
 try simp only [ltb]
 simp only [ltb,go_sem,reduceIte,reduceAdd,reduceLT,reduceLeDiff,reduceMul,reduceEqDiff,reduceSub,reduceCtorEq,List.take_length]
 refine hK _ _ rfl ?_
 simp only [mwb,reduceAdd,reduceEqDiff]
 exact ex_ret ⟨.inl rfl, _, ⟨_, rfl⟩, rfl⟩
theorem rmodule_tot (s : ByteArray) : ∃ r, isB r ∧ FnOk Tryz.prog 172 [str s] r := by
 refine fn_ex tt_ok (fn := Tryz.f172) Tryz.func172 rfl Tryz.call172 ?_
 simp only [ltb,startSt,Tryz.ntmps172,List.length_cons,List.length_nil,reduceAdd,reduceSub,List.replicate_succ,List.replicate_zero]
 refine ex_region_w tt_ok 13 [0,0,2] [] rfl rfl fun K hK => ?_
 try simp only [ltb]
 simp only [ltb,go_sem,reduceIte,reduceAdd,reduceLT,reduceLeDiff,reduceMul,reduceEqDiff,reduceSub,reduceCtorEq,List.take_length]
 refine hK _ _ rfl ?_
 simp only [mwb,reduceAdd,reduceEqDiff]
 refine ex_region_w tt_ok 13 [0,0,2,1,1,1,1,1,1,1,1,1,1] [(2, 5), (6, 9)] rfl rfl fun K hK => ?_
 try simp only [ltb]
 refine runX_cut 3 fun K1 hK1 => ?_
 simp only [ltb,go_sem,reduceIte,reduceAdd,reduceLT,reduceLeDiff,reduceMul,reduceEqDiff,reduceSub,reduceCtorEq,List.take_length]
 refine hK1 _ ?_
 refine runX_case 5 (by rfl) fun b hb1_2 => ?_
 cases b
 ·refine runX_cut 2 fun K1 hK1 => ?_
  simp only [ltb,go_sem,reduceIte,reduceAdd,reduceLT,reduceLeDiff,reduceMul,reduceEqDiff,reduceSub,reduceCtorEq,List.take_length]
  refine callF_ex (risName_tot _) ?_
  rintro _ ⟨r1, rfl⟩
  try simp only [go_sem,reduceIte,reduceAdd,reduceLT,reduceLeDiff,reduceMul,reduceEqDiff,reduceSub,reduceCtorEq,List.take_length]
  refine hK1 _ ?_
  refine runX_cut 2 fun K1 hK1 => ?_
  simp only [ltb,go_sem,reduceIte,reduceAdd,reduceLT,reduceLeDiff,reduceMul,reduceEqDiff,reduceSub,reduceCtorEq,List.take_length]
  refine hK1 _ ?_
  refine runX_case 9 (by rfl) fun b hb1_6 => ?_
  cases b
  ·refine runX_cut 2 fun K1 hK1 => ?_
   simp only [ltb,go_sem,reduceIte,reduceAdd,reduceLT,reduceLeDiff,reduceMul,reduceEqDiff,reduceSub,reduceCtorEq,List.take_length]
   refine callF_ex (risPath_tot _) ?_
   rintro _ ⟨r2, rfl⟩
   try simp only [go_sem,reduceIte,reduceAdd,reduceLT,reduceLeDiff,reduceMul,reduceEqDiff,reduceSub,reduceCtorEq,List.take_length]
   refine hK1 _ ?_
   simp only [ltb,go_sem,reduceIte,reduceAdd,reduceLT,reduceLeDiff,reduceMul,reduceEqDiff,reduceSub,reduceCtorEq,List.take_length]
   refine hK _ _ rfl ?_
   simp only [mwb,reduceAdd,reduceEqDiff]
   exact ex_ret ⟨.inl rfl, _, ⟨_, rfl⟩, rfl⟩
  ·simp only [ltb,go_sem,reduceIte,reduceAdd,reduceLT,reduceLeDiff,reduceMul,reduceEqDiff,reduceSub,reduceCtorEq,List.take_length]
   refine hK _ _ rfl ?_
   simp only [mwb,reduceAdd,reduceEqDiff]
   exact ex_ret ⟨.inl rfl, _, ⟨_, rfl⟩, rfl⟩
 ·simp only [ltb,go_sem,reduceIte,reduceAdd,reduceLT,reduceLeDiff,reduceMul,reduceEqDiff,reduceSub,reduceCtorEq,List.take_length]
  refine hK _ _ rfl ?_
  simp only [mwb,reduceAdd,reduceEqDiff]
  exact ex_ret ⟨.inl rfl, _, ⟨_, rfl⟩, rfl⟩
end Go.Proofs.YtpjdfcigadnhcaaGreatDoor
end

section
namespace Go.Proofs.YtpjdfcigadnhcaaGreatDoor
open Go.Eng
open Nat (reduceAdd reduceLT reduceLeDiff reduceMul reduceEqDiff reduceSub)
variable [Glob]
set_option maxHeartbeats 4000000
set_option maxRecDepth 100000
attribute [local irreducible] runM stepM valD stepOp stepD callF callS
theorem rtnode_tot (t : Ty) (hl : t.flds.length ≤ 1048576) : ∃ r, (fun v => ∃ c : Int, v = num c ∧ (c = 0 → t.kind = 9 → t.args = [] ∧ t.flds = [])) r ∧ FnOk Tryz.prog 126 [encTy t] r := by
 refine fn_ex tt_ok (fn := Tryz.f126) Tryz.func126 rfl Tryz.call126 ?_
 simp only [ltb,startSt,Tryz.ntmps126,List.length_cons,List.length_nil,reduceAdd,reduceSub,List.replicate_succ,List.replicate_zero]
 simp only [encTy_eq,tyCells]
 refine ex_region_w tt_ok 176 [0,2,2] [] rfl rfl fun K hK => ?_
 try simp only [ltb]
 try simp only [ltb]
 simp only [length_encFds,length_encTys,go_sem,reduceIte,reduceAdd,reduceLT,reduceLeDiff,reduceMul,reduceEqDiff,reduceSub,reduceCtorEq,List.take_length]
 refine hK _ _ rfl ?_
 simp only [mwb,reduceAdd,reduceEqDiff]
 refine ex_region_w tt_ok 176 [0,0,0,2,2] [] rfl rfl fun K hK => ?_
 try simp only [ltb]
 try simp only [ltb]
 simp only [length_encFds,length_encTys,go_sem,reduceIte,reduceAdd,reduceLT,reduceLeDiff,reduceMul,reduceEqDiff,reduceSub,reduceCtorEq,List.take_length]
 refine hK _ _ rfl ?_
 simp only [mwb,reduceAdd,reduceEqDiff]
 refine ex_seq_joinK [] 1 [false,true,false,true,true] (fun vs => vs = []) ?_ ?_
 ·refine ex_region_w tt_ok 176 (rp 9 0 [1,1,1,1,1,1,1,2]) [(3, 12)] rfl rfl fun K hK => ?_
  try simp only [ltb]
  refine runX_cut 4 fun K1 hK1 => ?_
  simp only [ltb]
  simp only [length_encFds,length_encTys,go_sem,reduceIte,reduceAdd,reduceLT,reduceLeDiff,reduceMul,reduceEqDiff,reduceSub,reduceCtorEq,List.take_length]
  refine hK1 _ ?_
  refine runX_case 12 (by rfl) fun b hb2_3 => ?_
  cases b
  ·try simp only [ltb]
   simp only [length_encFds,length_encTys,go_sem,reduceIte,reduceAdd,reduceLT,reduceLeDiff,reduceMul,reduceEqDiff,reduceSub,reduceCtorEq,List.take_length]
   refine hK _ _ rfl ?_
   simp only [mwb,reduceAdd,reduceEqDiff]
   refine ex_if rfl (fun hc16 => ?_) (fun hc16 => ?_)
   ·refine ex_region_w tt_ok 176 [0,0,2] [] rfl rfl fun K hK => ?_
    try simp only [ltb]
    try simp only [ltb]
    simp only [length_encFds,length_encTys,go_sem,reduceIte,reduceAdd,reduceLT,reduceLeDiff,reduceMul,reduceEqDiff,reduceSub,reduceCtorEq,List.take_length]
    refine hK _ _ rfl ?_
    simp only [mwb,reduceAdd,reduceEqDiff]
    refine ex_ret ?_
    first
     | exact ⟨.inl rfl, _, ⟨1, rfl, fun h => absurd h (by decide)⟩, rfl⟩
     | exact ⟨.inl rfl, _, ⟨7, rfl, fun h => absurd h (by decide)⟩, rfl⟩
     | exact ⟨.inl rfl, _, ⟨4, rfl, fun h => absurd h (by decide)⟩, rfl⟩
     | exact ⟨.inl rfl, _, ⟨0, rfl, fun _ => h9⟩, rfl⟩
     | exact ⟨.inl rfl, _, ⟨_, rfl, fun h => by simp_all⟩, rfl⟩
   ·refine ex_skip ?_
    refine ⟨[], ?_, 1, [false,true,false,true,true], by omega, by simp only [maskFr,belowV,belowL,belowB,reduceLT,mkb], by simp only [maskFr,belowV,belowL,belowB,reduceLT,mkb], by simp only [maskFr,belowV,belowL,belowB,reduceLT,putAll,List.set_cons_zero,List.set_cons_succ,mkb]⟩
    rfl
  ·try simp only [ltb]
   simp only [length_encFds,length_encTys,go_sem,reduceIte,reduceAdd,reduceLT,reduceLeDiff,reduceMul,reduceEqDiff,reduceSub,reduceCtorEq,List.take_length]
   refine hK _ _ rfl ?_
   simp only [mwb,reduceAdd,reduceEqDiff]
   refine ex_cond rfl ?_
   refine ex_region_w tt_ok 176 [0,0,2] [] rfl rfl fun K hK => ?_
   try simp only [ltb]
   try simp only [ltb]
   simp only [length_encFds,length_encTys,go_sem,reduceIte,reduceAdd,reduceLT,reduceLeDiff,reduceMul,reduceEqDiff,reduceSub,reduceCtorEq,List.take_length]
   refine hK _ _ rfl ?_
   simp only [mwb,reduceAdd,reduceEqDiff]
   refine ex_ret ?_
   first
    | exact ⟨.inl rfl, _, ⟨1, rfl, fun h => absurd h (by decide)⟩, rfl⟩
    | exact ⟨.inl rfl, _, ⟨7, rfl, fun h => absurd h (by decide)⟩, rfl⟩
    | exact ⟨.inl rfl, _, ⟨4, rfl, fun h => absurd h (by decide)⟩, rfl⟩
    | exact ⟨.inl rfl, _, ⟨0, rfl, fun _ => h9⟩, rfl⟩
    | exact ⟨.inl rfl, _, ⟨_, rfl, fun h => by simp_all⟩, rfl⟩
 ·intro vs hJ
  obtain rfl := hJ
  simp only [maskFr,belowV,belowL,belowB,reduceLT,putAll,List.set_cons_zero,List.set_cons_succ,mkb]
  refine ex_seq_joinK [3] 1 (false::true::true::true::true::(rp 11 false [true])) (fun vs => ∃ n : Int, vs = [num n] ∧ (t.kind = 9 → n = 0)) ?_ ?_
  ·refine ex_region_w tt_ok 176 (rp 17 0 [1,1,1,1,1,1,1,2]) [(3, 20)] rfl rfl fun K hK => ?_
   try simp only [ltb]
   refine runX_cut 4 fun K1 hK1 => ?_
   simp only [ltb]
   simp only [length_encFds,length_encTys,go_sem,reduceIte,reduceAdd,reduceLT,reduceLeDiff,reduceMul,reduceEqDiff,reduceSub,reduceCtorEq,List.take_length]
   refine hK1 _ ?_
   refine runX_case 20 (by rfl) fun b hb4_3 => ?_
   cases b
   ·try simp only [ltb]
    simp only [length_encFds,length_encTys,go_sem,reduceIte,reduceAdd,reduceLT,reduceLeDiff,reduceMul,reduceEqDiff,reduceSub,reduceCtorEq,List.take_length]
    refine hK _ _ rfl ?_
    simp only [mwb,reduceAdd,reduceEqDiff]
    refine ex_if rfl (fun hc24 => ?_) (fun hc24 => ?_)
    ·refine ex_last_region_w tt_ok 176 [0,0,0,2] [] (by kernel_rfl) rfl rfl fun K hK => ?_
     try simp only [ltb]
     try simp only [ltb]
     simp only [length_encFds,length_encTys,go_sem,reduceIte,reduceAdd,reduceLT,reduceLeDiff,reduceMul,reduceEqDiff,reduceSub,reduceCtorEq,List.take_length]
     refine hK _ _ rfl ?_
     simp only [mwb,reduceAdd,reduceEqDiff]
     refine ⟨[_], ?_, 1, (false::true::true::true::true::(rp 11 false [true])), by omega, by simp only [maskFr,belowV,belowL,belowB,reduceLT,mkb], by simp only [maskFr,belowV,belowL,belowB,reduceLT,mkb], by simp only [maskFr,belowV,belowL,belowB,reduceLT,putAll,List.set_cons_zero,List.set_cons_succ,mkb]; rfl⟩
     first | exact ⟨_, rfl, fun _ => rfl⟩ | exact ⟨_, rfl, fun h9 => by exfalso; simp_all⟩
    ·refine ex_skip ?_
     refine ⟨[_], ?_, 1, (false::true::true::true::true::(rp 11 false [true])), by omega, by simp only [maskFr,belowV,belowL,belowB,reduceLT,mkb], by simp only [maskFr,belowV,belowL,belowB,reduceLT,mkb], by simp only [maskFr,belowV,belowL,belowB,reduceLT,putAll,List.set_cons_zero,List.set_cons_succ,mkb]; rfl⟩
     first | exact ⟨_, rfl, fun _ => rfl⟩ | exact ⟨_, rfl, fun h9 => by exfalso; simp_all⟩
   ·try simp only [ltb]
    simp only [length_encFds,length_encTys,go_sem,reduceIte,reduceAdd,reduceLT,reduceLeDiff,reduceMul,reduceEqDiff,reduceSub,reduceCtorEq,List.take_length]
    refine hK _ _ rfl ?_
    simp only [mwb,reduceAdd,reduceEqDiff]
    refine ex_cond rfl ?_
    refine ex_last_region_w tt_ok 176 [0,0,0,2] [] (by kernel_rfl) rfl rfl fun K hK => ?_
    try simp only [ltb]
    try simp only [ltb]
    simp only [length_encFds,length_encTys,go_sem,reduceIte,reduceAdd,reduceLT,reduceLeDiff,reduceMul,reduceEqDiff,reduceSub,reduceCtorEq,List.take_length]
    refine hK _ _ rfl ?_
    simp only [mwb,reduceAdd,reduceEqDiff]
    refine ⟨[_], ?_, 1, (false::true::true::true::true::(rp 11 false [true])), by omega, by simp only [maskFr,belowV,belowL,belowB,reduceLT,mkb], by simp only [maskFr,belowV,belowL,belowB,reduceLT,mkb], by simp only [maskFr,belowV,belowL,belowB,reduceLT,putAll,List.set_cons_zero,List.set_cons_succ,mkb]; rfl⟩
    first | exact ⟨_, rfl, fun _ => rfl⟩ | exact ⟨_, rfl, fun h9 => by exfalso; simp_all⟩
  ·intro vs hJ
   obtain ⟨n3, rfl, hn3⟩ := hJ
   simp only [maskFr,belowV,belowL,belowB,reduceLT,putAll,List.set_cons_zero,List.set_cons_succ,mkb]
   refine ex_seq_joinK [4] 1 (false::true::true::true::true::(rp 11 false [true,false,false,false,false,false,false,false,true])) (fun vs => ∃ b : Bool, vs = [bl b] ∧ (t.kind = 9 → b = false)) ?_ ?_
   ·refine ex_region_w tt_ok 176 (rp 25 0 (rp 12 1 [2])) [(3, 28), (8, 33)] rfl rfl fun K hK => ?_
    try simp only [ltb]
    refine runX_cut 4 fun K1 hK1 => ?_
    simp only [ltb]
    simp only [length_encFds,length_encTys,go_sem,reduceIte,reduceAdd,reduceLT,reduceLeDiff,reduceMul,reduceEqDiff,reduceSub,reduceCtorEq,List.take_length]
    refine hK1 _ ?_
    refine runX_case 28 (by rfl) fun b hb6_3 => ?_
    cases b
    ·refine runX_cut 5 fun K1 hK1 => ?_
     simp only [ltb]
     simp only [length_encFds,length_encTys,go_sem,reduceIte,reduceAdd,reduceLT,reduceLeDiff,reduceMul,reduceEqDiff,reduceSub,reduceCtorEq,List.take_length]
     refine hK1 _ ?_
     refine runX_case 33 (by rfl) fun b hb6_8 => ?_
     cases b
     ·try simp only [ltb]
      simp only [length_encFds,length_encTys,go_sem,reduceIte,reduceAdd,reduceLT,reduceLeDiff,reduceMul,reduceEqDiff,reduceSub,reduceCtorEq,List.take_length]
      refine hK _ _ rfl ?_
      simp only [mwb,reduceAdd,reduceEqDiff]
      refine ex_if rfl (fun hc37 => ?_) (fun hc37 => ?_)
      ·refine ex_last_region_w tt_ok 176 [0,0,0,0,2] [] (by kernel_rfl) rfl rfl fun K hK => ?_
       try simp only [ltb]
       try simp only [ltb]
       simp only [length_encFds,length_encTys,go_sem,reduceIte,reduceAdd,reduceLT,reduceLeDiff,reduceMul,reduceEqDiff,reduceSub,reduceCtorEq,List.take_length]
       refine hK _ _ rfl ?_
       simp only [mwb,reduceAdd,reduceEqDiff]
       refine ⟨[_], ?_, 1, (false::true::true::true::true::(rp 11 false [true,false,false,false,false,false,false,false,true])), by omega, by simp only [maskFr,belowV,belowL,belowB,reduceLT,mkb], by simp only [maskFr,belowV,belowL,belowB,reduceLT,mkb], by simp only [maskFr,belowV,belowL,belowB,reduceLT,putAll,List.set_cons_zero,List.set_cons_succ,mkb]; rfl⟩
       first | exact ⟨_, rfl, fun _ => rfl⟩ | exact ⟨_, rfl, fun h9 => by exfalso; simp_all⟩
      ·refine ex_skip ?_
       refine ⟨[_], ?_, 1, (false::true::true::true::true::(rp 11 false [true,false,false,false,false,false,false,false,true])), by omega, by simp only [maskFr,belowV,belowL,belowB,reduceLT,mkb], by simp only [maskFr,belowV,belowL,belowB,reduceLT,mkb], by simp only [maskFr,belowV,belowL,belowB,reduceLT,putAll,List.set_cons_zero,List.set_cons_succ,mkb]; rfl⟩
       first | exact ⟨_, rfl, fun _ => rfl⟩ | exact ⟨_, rfl, fun h9 => by exfalso; simp_all⟩
     ·try simp only [ltb]
      simp only [length_encFds,length_encTys,go_sem,reduceIte,reduceAdd,reduceLT,reduceLeDiff,reduceMul,reduceEqDiff,reduceSub,reduceCtorEq,List.take_length]
      refine hK _ _ rfl ?_
      simp only [mwb,reduceAdd,reduceEqDiff]
      refine ex_cond rfl ?_
      refine ex_last_region_w tt_ok 176 [0,0,0,0,2] [] (by kernel_rfl) rfl rfl fun K hK => ?_
      try simp only [ltb]
      try simp only [ltb]
      simp only [length_encFds,length_encTys,go_sem,reduceIte,reduceAdd,reduceLT,reduceLeDiff,reduceMul,reduceEqDiff,reduceSub,reduceCtorEq,List.take_length]
      refine hK _ _ rfl ?_
      simp only [mwb,reduceAdd,reduceEqDiff]
      refine ⟨[_], ?_, 1, (false::true::true::true::true::(rp 11 false [true,false,false,false,false,false,false,false,true])), by omega, by simp only [maskFr,belowV,belowL,belowB,reduceLT,mkb], by simp only [maskFr,belowV,belowL,belowB,reduceLT,mkb], by simp only [maskFr,belowV,belowL,belowB,reduceLT,putAll,List.set_cons_zero,List.set_cons_succ,mkb]; rfl⟩
      first | exact ⟨_, rfl, fun _ => rfl⟩ | exact ⟨_, rfl, fun h9 => by exfalso; simp_all⟩
    ·refine runX_cut 8 fun K1 hK1 => ?_
     simp only [ltb]
     simp only [length_encFds,length_encTys,go_sem,reduceIte,reduceAdd,reduceLT,reduceLeDiff,reduceMul,reduceEqDiff,reduceSub,reduceCtorEq,List.take_length]
     refine hK1 _ ?_
     try simp only [ltb]
     simp only [length_encFds,length_encTys,go_sem,reduceIte,reduceAdd,reduceLT,reduceLeDiff,reduceMul,reduceEqDiff,reduceSub,reduceCtorEq,List.take_length]
     refine hK _ _ rfl ?_
     simp only [mwb,reduceAdd,reduceEqDiff]
     refine ex_cond rfl ?_
     refine ex_last_region_w tt_ok 176 [0,0,0,0,2] [] (by kernel_rfl) rfl rfl fun K hK => ?_
     try simp only [ltb]
     try simp only [ltb]
     simp only [length_encFds,length_encTys,go_sem,reduceIte,reduceAdd,reduceLT,reduceLeDiff,reduceMul,reduceEqDiff,reduceSub,reduceCtorEq,List.take_length]
     refine hK _ _ rfl ?_
     simp only [mwb,reduceAdd,reduceEqDiff]
     refine ⟨[_], ?_, 1, (false::true::true::true::true::(rp 11 false [true,false,false,false,false,false,false,false,true])), by omega, by simp only [maskFr,belowV,belowL,belowB,reduceLT,mkb], by simp only [maskFr,belowV,belowL,belowB,reduceLT,mkb], by simp only [maskFr,belowV,belowL,belowB,reduceLT,putAll,List.set_cons_zero,List.set_cons_succ,mkb]; rfl⟩
     first | exact ⟨_, rfl, fun _ => rfl⟩ | exact ⟨_, rfl, fun h9 => by exfalso; simp_all⟩
   ·intro vs hJ
    obtain ⟨b4, rfl, hb4⟩ := hJ
    simp only [maskFr,belowV,belowL,belowB,reduceLT,putAll,List.set_cons_zero,List.set_cons_succ,mkb]
    refine ex_seq_joinK [] 1 (false::true::false::true::true::(rp 11 false (true::false::false::false::false::false::false::false::true::(rp 12 false [true])))) (fun vs => vs = [] ∧ (t.kind = 9 → t.args = [] ∧ t.flds = [])) ?_ ?_
    ·refine ex_region_w tt_ok 176 (rp 38 0 (rp 39 1 [2])) [(3, 41), (9, 47), (15, 53), (18, 56), (25, 63), (29, 67), (34, 72)] rfl rfl fun K hK => ?_
     try simp only [ltb]
     refine runX_cut 4 fun K1 hK1 => ?_
     simp only [ltb]
     simp only [length_encFds,length_encTys,go_sem,reduceIte,reduceAdd,reduceLT,reduceLeDiff,reduceMul,reduceEqDiff,reduceSub,reduceCtorEq,List.take_length]
     refine hK1 _ ?_
     refine runX_case 41 (by rfl) fun b hb8_3 => ?_
     cases b
     ·refine runX_cut 8 fun K1 hK1 => ?_
      simp only [ltb]
      simp only [length_encFds,length_encTys,go_sem,reduceIte,reduceAdd,reduceLT,reduceLeDiff,reduceMul,reduceEqDiff,reduceSub,reduceCtorEq,List.take_length]
      refine hK1 _ ?_
      refine runX_cut 7 fun K1 hK1 => ?_
      simp only [ltb]
      simp only [length_encFds,length_encTys,go_sem,reduceIte,reduceAdd,reduceLT,reduceLeDiff,reduceMul,reduceEqDiff,reduceSub,reduceCtorEq,List.take_length]
      refine hK1 _ ?_
      refine runX_case 56 (by rfl) fun b hb8_18 => ?_
      cases b
      ·refine runX_cut 8 fun K1 hK1 => ?_
       simp only [ltb]
       simp only [length_encFds,length_encTys,go_sem,reduceIte,reduceAdd,reduceLT,reduceLeDiff,reduceMul,reduceEqDiff,reduceSub,reduceCtorEq,List.take_length]
       refine hK1 _ ?_
       refine runX_cut 3 fun K1 hK1 => ?_
       simp only [ltb]
       simp only [length_encFds,length_encTys,go_sem,reduceIte,reduceAdd,reduceLT,reduceLeDiff,reduceMul,reduceEqDiff,reduceSub,reduceCtorEq,List.take_length]
       refine hK1 _ ?_
       refine runX_case 67 (by rfl) fun b hb8_29 => ?_
       cases b
       ·refine runX_cut 8 fun K1 hK1 => ?_
        simp only [ltb]
        simp only [length_encFds,length_encTys,go_sem,reduceIte,reduceAdd,reduceLT,reduceLeDiff,reduceMul,reduceEqDiff,reduceSub,reduceCtorEq,List.take_length]
        refine hK1 _ ?_
        try simp only [ltb]
        simp only [length_encFds,length_encTys,go_sem,reduceIte,reduceAdd,reduceLT,reduceLeDiff,reduceMul,reduceEqDiff,reduceSub,reduceCtorEq,List.take_length]
        refine hK _ _ rfl ?_
        simp only [mwb,reduceAdd,reduceEqDiff]
        refine ex_cond rfl ?_
        refine ex_skip ?_
        refine ⟨[], ?_, 1, (false::true::false::true::true::(rp 11 false (true::false::false::false::false::false::false::false::true::(rp 12 false [true])))), by omega, by simp only [maskFr,belowV,belowL,belowB,reduceLT,mkb], by simp only [maskFr,belowV,belowL,belowB,reduceLT,mkb], by simp only [maskFr,belowV,belowL,belowB,reduceLT,putAll,List.set_cons_zero,List.set_cons_succ,mkb]⟩
        refine ⟨rfl, fun h9 => ?_⟩
        have e3 := hn3 h9
        have e4 := hb4 h9
        subst e3
        subst e4
        simp_all
       ·refine runX_cut 5 fun K1 hK1 => ?_
        simp only [ltb]
        simp only [length_encFds,length_encTys,go_sem,reduceIte,reduceAdd,reduceLT,reduceLeDiff,reduceMul,reduceEqDiff,reduceSub,reduceCtorEq,List.take_length]
        refine hK1 _ ?_
        refine runX_case 72 (by rfl) fun b hb8_34 => ?_
        cases b
        ·try simp only [ltb]
         simp only [length_encFds,length_encTys,go_sem,reduceIte,reduceAdd,reduceLT,reduceLeDiff,reduceMul,reduceEqDiff,reduceSub,reduceCtorEq,List.take_length]
         refine hK _ _ rfl ?_
         simp only [mwb,reduceAdd,reduceEqDiff]
         refine ex_cond rfl ?_
         refine ex_skip ?_
         refine ⟨[], ?_, 1, (false::true::false::true::true::(rp 11 false (true::false::false::false::false::false::false::false::true::(rp 12 false [true])))), by omega, by simp only [maskFr,belowV,belowL,belowB,reduceLT,mkb], by simp only [maskFr,belowV,belowL,belowB,reduceLT,mkb], by simp only [maskFr,belowV,belowL,belowB,reduceLT,putAll,List.set_cons_zero,List.set_cons_succ,mkb]⟩
         refine ⟨rfl, fun h9 => ?_⟩
         have e3 := hn3 h9
         have e4 := hb4 h9
         subst e3
         subst e4
         simp_all
        ·try simp only [ltb]
         simp only [length_encFds,length_encTys,go_sem,reduceIte,reduceAdd,reduceLT,reduceLeDiff,reduceMul,reduceEqDiff,reduceSub,reduceCtorEq,List.take_length]
         refine hK _ _ rfl ?_
         simp only [mwb,reduceAdd,reduceEqDiff]
         refine ex_if rfl (fun hc77 => ?_) (fun hc77 => ?_)
         ·refine ex_region_w tt_ok 176 [0,0,2] [] rfl rfl fun K hK => ?_
          try simp only [ltb]
          try simp only [ltb]
          simp only [length_encFds,length_encTys,go_sem,reduceIte,reduceAdd,reduceLT,reduceLeDiff,reduceMul,reduceEqDiff,reduceSub,reduceCtorEq,List.take_length]
          refine hK _ _ rfl ?_
          simp only [mwb,reduceAdd,reduceEqDiff]
          refine ex_ret ?_
          first
           | exact ⟨.inl rfl, _, ⟨1, rfl, fun h => absurd h (by decide)⟩, rfl⟩
           | exact ⟨.inl rfl, _, ⟨7, rfl, fun h => absurd h (by decide)⟩, rfl⟩
           | exact ⟨.inl rfl, _, ⟨4, rfl, fun h => absurd h (by decide)⟩, rfl⟩
           | exact ⟨.inl rfl, _, ⟨0, rfl, fun _ => h9⟩, rfl⟩
           | exact ⟨.inl rfl, _, ⟨_, rfl, fun h => by simp_all⟩, rfl⟩
         ·refine ex_skip ?_
          refine ⟨[], ?_, 1, (false::true::false::true::true::(rp 11 false (true::false::false::false::false::false::false::false::true::(rp 12 false [true])))), by omega, by simp only [maskFr,belowV,belowL,belowB,reduceLT,mkb], by simp only [maskFr,belowV,belowL,belowB,reduceLT,mkb], by simp only [maskFr,belowV,belowL,belowB,reduceLT,putAll,List.set_cons_zero,List.set_cons_succ,mkb]⟩
          refine ⟨rfl, fun h9 => ?_⟩
          have e3 := hn3 h9
          have e4 := hb4 h9
          subst e3
          subst e4
          simp_all
      ·refine runX_cut 7 fun K1 hK1 => ?_
       simp only [ltb]
       simp only [length_encFds,length_encTys,go_sem,reduceIte,reduceAdd,reduceLT,reduceLeDiff,reduceMul,reduceEqDiff,reduceSub,reduceCtorEq,List.take_length]
       refine hK1 _ ?_
       refine runX_case 63 (by rfl) fun b hb8_25 => ?_
       cases b
       ·refine runX_cut 4 fun K1 hK1 => ?_
        simp only [ltb]
        simp only [length_encFds,length_encTys,go_sem,reduceIte,reduceAdd,reduceLT,reduceLeDiff,reduceMul,reduceEqDiff,reduceSub,reduceCtorEq,List.take_length]
        refine hK1 _ ?_
        refine runX_case 67 (by rfl) fun b hb8_29 => ?_
        cases b
        ·refine runX_cut 8 fun K1 hK1 => ?_
         simp only [ltb]
         simp only [length_encFds,length_encTys,go_sem,reduceIte,reduceAdd,reduceLT,reduceLeDiff,reduceMul,reduceEqDiff,reduceSub,reduceCtorEq,List.take_length]
         refine hK1 _ ?_
         try simp only [ltb]
         simp only [length_encFds,length_encTys,go_sem,reduceIte,reduceAdd,reduceLT,reduceLeDiff,reduceMul,reduceEqDiff,reduceSub,reduceCtorEq,List.take_length]
         refine hK _ _ rfl ?_
         simp only [mwb,reduceAdd,reduceEqDiff]
         refine ex_cond rfl ?_
         refine ex_skip ?_
         refine ⟨[], ?_, 1, (false::true::false::true::true::(rp 11 false (true::false::false::false::false::false::false::false::true::(rp 12 false [true])))), by omega, by simp only [maskFr,belowV,belowL,belowB,reduceLT,mkb], by simp only [maskFr,belowV,belowL,belowB,reduceLT,mkb], by simp only [maskFr,belowV,belowL,belowB,reduceLT,putAll,List.set_cons_zero,List.set_cons_succ,mkb]⟩
         refine ⟨rfl, fun h9 => ?_⟩
         have e3 := hn3 h9
         have e4 := hb4 h9
         subst e3
         subst e4
         simp_all
        ·refine runX_cut 5 fun K1 hK1 => ?_
         simp only [ltb]
         simp only [length_encFds,length_encTys,go_sem,reduceIte,reduceAdd,reduceLT,reduceLeDiff,reduceMul,reduceEqDiff,reduceSub,reduceCtorEq,List.take_length]
         refine hK1 _ ?_
         refine runX_case 72 (by rfl) fun b hb8_34 => ?_
         cases b
         ·try simp only [ltb]
          simp only [length_encFds,length_encTys,go_sem,reduceIte,reduceAdd,reduceLT,reduceLeDiff,reduceMul,reduceEqDiff,reduceSub,reduceCtorEq,List.take_length]
          refine hK _ _ rfl ?_
          simp only [mwb,reduceAdd,reduceEqDiff]
          refine ex_cond rfl ?_
          refine ex_skip ?_
          refine ⟨[], ?_, 1, (false::true::false::true::true::(rp 11 false (true::false::false::false::false::false::false::false::true::(rp 12 false [true])))), by omega, by simp only [maskFr,belowV,belowL,belowB,reduceLT,mkb], by simp only [maskFr,belowV,belowL,belowB,reduceLT,mkb], by simp only [maskFr,belowV,belowL,belowB,reduceLT,putAll,List.set_cons_zero,List.set_cons_succ,mkb]⟩
          refine ⟨rfl, fun h9 => ?_⟩
          have e3 := hn3 h9
          have e4 := hb4 h9
          subst e3
          subst e4
          simp_all
         ·try simp only [ltb]
          simp only [length_encFds,length_encTys,go_sem,reduceIte,reduceAdd,reduceLT,reduceLeDiff,reduceMul,reduceEqDiff,reduceSub,reduceCtorEq,List.take_length]
          refine hK _ _ rfl ?_
          simp only [mwb,reduceAdd,reduceEqDiff]
          refine ex_if rfl (fun hc77 => ?_) (fun hc77 => ?_)
          ·refine ex_region_w tt_ok 176 [0,0,2] [] rfl rfl fun K hK => ?_
           try simp only [ltb]
           try simp only [ltb]
           simp only [length_encFds,length_encTys,go_sem,reduceIte,reduceAdd,reduceLT,reduceLeDiff,reduceMul,reduceEqDiff,reduceSub,reduceCtorEq,List.take_length]
           refine hK _ _ rfl ?_
           simp only [mwb,reduceAdd,reduceEqDiff]
           refine ex_ret ?_
           first
            | exact ⟨.inl rfl, _, ⟨1, rfl, fun h => absurd h (by decide)⟩, rfl⟩
            | exact ⟨.inl rfl, _, ⟨7, rfl, fun h => absurd h (by decide)⟩, rfl⟩
            | exact ⟨.inl rfl, _, ⟨4, rfl, fun h => absurd h (by decide)⟩, rfl⟩
            | exact ⟨.inl rfl, _, ⟨0, rfl, fun _ => h9⟩, rfl⟩
            | exact ⟨.inl rfl, _, ⟨_, rfl, fun h => by simp_all⟩, rfl⟩
          ·refine ex_skip ?_
           refine ⟨[], ?_, 1, (false::true::false::true::true::(rp 11 false (true::false::false::false::false::false::false::false::true::(rp 12 false [true])))), by omega, by simp only [maskFr,belowV,belowL,belowB,reduceLT,mkb], by simp only [maskFr,belowV,belowL,belowB,reduceLT,mkb], by simp only [maskFr,belowV,belowL,belowB,reduceLT,putAll,List.set_cons_zero,List.set_cons_succ,mkb]⟩
           refine ⟨rfl, fun h9 => ?_⟩
           have e3 := hn3 h9
           have e4 := hb4 h9
           subst e3
           subst e4
           simp_all
       ·refine runX_cut 8 fun K1 hK1 => ?_
        simp only [ltb]
        simp only [length_encFds,length_encTys,go_sem,reduceIte,reduceAdd,reduceLT,reduceLeDiff,reduceMul,reduceEqDiff,reduceSub,reduceCtorEq,List.take_length]
        refine hK1 _ ?_
        try simp only [ltb]
        simp only [length_encFds,length_encTys,go_sem,reduceIte,reduceAdd,reduceLT,reduceLeDiff,reduceMul,reduceEqDiff,reduceSub,reduceCtorEq,List.take_length]
        refine hK _ _ rfl ?_
        simp only [mwb,reduceAdd,reduceEqDiff]
        refine ex_cond rfl ?_
        refine ex_region_w tt_ok 176 [0,0,2] [] rfl rfl fun K hK => ?_
        try simp only [ltb]
        try simp only [ltb]
        simp only [length_encFds,length_encTys,go_sem,reduceIte,reduceAdd,reduceLT,reduceLeDiff,reduceMul,reduceEqDiff,reduceSub,reduceCtorEq,List.take_length]
        refine hK _ _ rfl ?_
        simp only [mwb,reduceAdd,reduceEqDiff]
        refine ex_ret ?_
        first
         | exact ⟨.inl rfl, _, ⟨1, rfl, fun h => absurd h (by decide)⟩, rfl⟩
         | exact ⟨.inl rfl, _, ⟨7, rfl, fun h => absurd h (by decide)⟩, rfl⟩
         | exact ⟨.inl rfl, _, ⟨4, rfl, fun h => absurd h (by decide)⟩, rfl⟩
         | exact ⟨.inl rfl, _, ⟨0, rfl, fun _ => h9⟩, rfl⟩
         | exact ⟨.inl rfl, _, ⟨_, rfl, fun h => by simp_all⟩, rfl⟩
     ·refine runX_cut 6 fun K1 hK1 => ?_
      simp only [ltb]
      simp only [length_encFds,length_encTys,go_sem,reduceIte,reduceAdd,reduceLT,reduceLeDiff,reduceMul,reduceEqDiff,reduceSub,reduceCtorEq,List.take_length]
      refine hK1 _ ?_
      refine runX_case 47 (by rfl) fun b hb8_9 => ?_
      cases b
      ·refine runX_cut 6 fun K1 hK1 => ?_
       simp only [ltb]
       simp only [length_encFds,length_encTys,go_sem,reduceIte,reduceAdd,reduceLT,reduceLeDiff,reduceMul,reduceEqDiff,reduceSub,reduceCtorEq,List.take_length]
       refine hK1 _ ?_
       refine runX_case 53 (by rfl) fun b hb8_15 => ?_
       cases b
       ·refine runX_cut 3 fun K1 hK1 => ?_
        simp only [ltb]
        simp only [length_encFds,length_encTys,go_sem,reduceIte,reduceAdd,reduceLT,reduceLeDiff,reduceMul,reduceEqDiff,reduceSub,reduceCtorEq,List.take_length]
        refine hK1 _ ?_
        refine runX_case 56 (by rfl) fun b hb8_18 => ?_
        cases b
        ·refine runX_cut 8 fun K1 hK1 => ?_
         simp only [ltb]
         simp only [length_encFds,length_encTys,go_sem,reduceIte,reduceAdd,reduceLT,reduceLeDiff,reduceMul,reduceEqDiff,reduceSub,reduceCtorEq,List.take_length]
         refine hK1 _ ?_
         refine runX_cut 3 fun K1 hK1 => ?_
         simp only [ltb]
         simp only [length_encFds,length_encTys,go_sem,reduceIte,reduceAdd,reduceLT,reduceLeDiff,reduceMul,reduceEqDiff,reduceSub,reduceCtorEq,List.take_length]
         refine hK1 _ ?_
         refine runX_case 67 (by rfl) fun b hb8_29 => ?_
         cases b
         ·refine runX_cut 8 fun K1 hK1 => ?_
          simp only [ltb]
          simp only [length_encFds,length_encTys,go_sem,reduceIte,reduceAdd,reduceLT,reduceLeDiff,reduceMul,reduceEqDiff,reduceSub,reduceCtorEq,List.take_length]
          refine hK1 _ ?_
          try simp only [ltb]
          simp only [length_encFds,length_encTys,go_sem,reduceIte,reduceAdd,reduceLT,reduceLeDiff,reduceMul,reduceEqDiff,reduceSub,reduceCtorEq,List.take_length]
          refine hK _ _ rfl ?_
          simp only [mwb,reduceAdd,reduceEqDiff]
          refine ex_cond rfl ?_
          refine ex_skip ?_
          refine ⟨[], ?_, 1, (false::true::false::true::true::(rp 11 false (true::false::false::false::false::false::false::false::true::(rp 12 false [true])))), by omega, by simp only [maskFr,belowV,belowL,belowB,reduceLT,mkb], by simp only [maskFr,belowV,belowL,belowB,reduceLT,mkb], by simp only [maskFr,belowV,belowL,belowB,reduceLT,putAll,List.set_cons_zero,List.set_cons_succ,mkb]⟩
          refine ⟨rfl, fun h9 => ?_⟩
          have e3 := hn3 h9
          have e4 := hb4 h9
          subst e3
          subst e4
          simp_all
         ·refine runX_cut 5 fun K1 hK1 => ?_
          simp only [ltb]
          simp only [length_encFds,length_encTys,go_sem,reduceIte,reduceAdd,reduceLT,reduceLeDiff,reduceMul,reduceEqDiff,reduceSub,reduceCtorEq,List.take_length]
          refine hK1 _ ?_
          refine runX_case 72 (by rfl) fun b hb8_34 => ?_
          cases b
          ·try simp only [ltb]
           simp only [length_encFds,length_encTys,go_sem,reduceIte,reduceAdd,reduceLT,reduceLeDiff,reduceMul,reduceEqDiff,reduceSub,reduceCtorEq,List.take_length]
           refine hK _ _ rfl ?_
           simp only [mwb,reduceAdd,reduceEqDiff]
           refine ex_cond rfl ?_
           refine ex_skip ?_
           refine ⟨[], ?_, 1, (false::true::false::true::true::(rp 11 false (true::false::false::false::false::false::false::false::true::(rp 12 false [true])))), by omega, by simp only [maskFr,belowV,belowL,belowB,reduceLT,mkb], by simp only [maskFr,belowV,belowL,belowB,reduceLT,mkb], by simp only [maskFr,belowV,belowL,belowB,reduceLT,putAll,List.set_cons_zero,List.set_cons_succ,mkb]⟩
           refine ⟨rfl, fun h9 => ?_⟩
           have e3 := hn3 h9
           have e4 := hb4 h9
           subst e3
           subst e4
           simp_all
          ·try simp only [ltb]
           simp only [length_encFds,length_encTys,go_sem,reduceIte,reduceAdd,reduceLT,reduceLeDiff,reduceMul,reduceEqDiff,reduceSub,reduceCtorEq,List.take_length]
           refine hK _ _ rfl ?_
           simp only [mwb,reduceAdd,reduceEqDiff]
           refine ex_if rfl (fun hc77 => ?_) (fun hc77 => ?_)
           ·refine ex_region_w tt_ok 176 [0,0,2] [] rfl rfl fun K hK => ?_
            try simp only [ltb]
            try simp only [ltb]
            simp only [length_encFds,length_encTys,go_sem,reduceIte,reduceAdd,reduceLT,reduceLeDiff,reduceMul,reduceEqDiff,reduceSub,reduceCtorEq,List.take_length]
            refine hK _ _ rfl ?_
            simp only [mwb,reduceAdd,reduceEqDiff]
            refine ex_ret ?_
            first
             | exact ⟨.inl rfl, _, ⟨1, rfl, fun h => absurd h (by decide)⟩, rfl⟩
             | exact ⟨.inl rfl, _, ⟨7, rfl, fun h => absurd h (by decide)⟩, rfl⟩
             | exact ⟨.inl rfl, _, ⟨4, rfl, fun h => absurd h (by decide)⟩, rfl⟩
             | exact ⟨.inl rfl, _, ⟨0, rfl, fun _ => h9⟩, rfl⟩
             | exact ⟨.inl rfl, _, ⟨_, rfl, fun h => by simp_all⟩, rfl⟩
           ·refine ex_skip ?_
            refine ⟨[], ?_, 1, (false::true::false::true::true::(rp 11 false (true::false::false::false::false::false::false::false::true::(rp 12 false [true])))), by omega, by simp only [maskFr,belowV,belowL,belowB,reduceLT,mkb], by simp only [maskFr,belowV,belowL,belowB,reduceLT,mkb], by simp only [maskFr,belowV,belowL,belowB,reduceLT,putAll,List.set_cons_zero,List.set_cons_succ,mkb]⟩
            refine ⟨rfl, fun h9 => ?_⟩
            have e3 := hn3 h9
            have e4 := hb4 h9
            subst e3
            subst e4
            simp_all
        ·refine runX_cut 7 fun K1 hK1 => ?_
         simp only [ltb]
         simp only [length_encFds,length_encTys,go_sem,reduceIte,reduceAdd,reduceLT,reduceLeDiff,reduceMul,reduceEqDiff,reduceSub,reduceCtorEq,List.take_length]
         refine hK1 _ ?_
         refine runX_case 63 (by rfl) fun b hb8_25 => ?_
         cases b
         ·refine runX_cut 4 fun K1 hK1 => ?_
          simp only [ltb]
          simp only [length_encFds,length_encTys,go_sem,reduceIte,reduceAdd,reduceLT,reduceLeDiff,reduceMul,reduceEqDiff,reduceSub,reduceCtorEq,List.take_length]
          refine hK1 _ ?_
          refine runX_case 67 (by rfl) fun b hb8_29 => ?_
          cases b
          ·refine runX_cut 8 fun K1 hK1 => ?_
           simp only [ltb]
           simp only [length_encFds,length_encTys,go_sem,reduceIte,reduceAdd,reduceLT,reduceLeDiff,reduceMul,reduceEqDiff,reduceSub,reduceCtorEq,List.take_length]
           refine hK1 _ ?_
           try simp only [ltb]
           simp only [length_encFds,length_encTys,go_sem,reduceIte,reduceAdd,reduceLT,reduceLeDiff,reduceMul,reduceEqDiff,reduceSub,reduceCtorEq,List.take_length]
           refine hK _ _ rfl ?_
           simp only [mwb,reduceAdd,reduceEqDiff]
           refine ex_cond rfl ?_
           refine ex_skip ?_
           refine ⟨[], ?_, 1, (false::true::false::true::true::(rp 11 false (true::false::false::false::false::false::false::false::true::(rp 12 false [true])))), by omega, by simp only [maskFr,belowV,belowL,belowB,reduceLT,mkb], by simp only [maskFr,belowV,belowL,belowB,reduceLT,mkb], by simp only [maskFr,belowV,belowL,belowB,reduceLT,putAll,List.set_cons_zero,List.set_cons_succ,mkb]⟩
           refine ⟨rfl, fun h9 => ?_⟩
           have e3 := hn3 h9
           have e4 := hb4 h9
           subst e3
           subst e4
           simp_all
          ·refine runX_cut 5 fun K1 hK1 => ?_
           simp only [ltb]
           simp only [length_encFds,length_encTys,go_sem,reduceIte,reduceAdd,reduceLT,reduceLeDiff,reduceMul,reduceEqDiff,reduceSub,reduceCtorEq,List.take_length]
           refine hK1 _ ?_
           refine runX_case 72 (by rfl) fun b hb8_34 => ?_
           cases b
           ·try simp only [ltb]
            simp only [length_encFds,length_encTys,go_sem,reduceIte,reduceAdd,reduceLT,reduceLeDiff,reduceMul,reduceEqDiff,reduceSub,reduceCtorEq,List.take_length]
            refine hK _ _ rfl ?_
            simp only [mwb,reduceAdd,reduceEqDiff]
            refine ex_cond rfl ?_
            refine ex_skip ?_
            refine ⟨[], ?_, 1, (false::true::false::true::true::(rp 11 false (true::false::false::false::false::false::false::false::true::(rp 12 false [true])))), by omega, by simp only [maskFr,belowV,belowL,belowB,reduceLT,mkb], by simp only [maskFr,belowV,belowL,belowB,reduceLT,mkb], by simp only [maskFr,belowV,belowL,belowB,reduceLT,putAll,List.set_cons_zero,List.set_cons_succ,mkb]⟩
            refine ⟨rfl, fun h9 => ?_⟩
            have e3 := hn3 h9
            have e4 := hb4 h9
            subst e3
            subst e4
            simp_all
           ·try simp only [ltb]
            simp only [length_encFds,length_encTys,go_sem,reduceIte,reduceAdd,reduceLT,reduceLeDiff,reduceMul,reduceEqDiff,reduceSub,reduceCtorEq,List.take_length]
            refine hK _ _ rfl ?_
            simp only [mwb,reduceAdd,reduceEqDiff]
            refine ex_if rfl (fun hc77 => ?_) (fun hc77 => ?_)
            ·refine ex_region_w tt_ok 176 [0,0,2] [] rfl rfl fun K hK => ?_
             try simp only [ltb]
             try simp only [ltb]
             simp only [length_encFds,length_encTys,go_sem,reduceIte,reduceAdd,reduceLT,reduceLeDiff,reduceMul,reduceEqDiff,reduceSub,reduceCtorEq,List.take_length]
             refine hK _ _ rfl ?_
             simp only [mwb,reduceAdd,reduceEqDiff]
             refine ex_ret ?_
             first
              | exact ⟨.inl rfl, _, ⟨1, rfl, fun h => absurd h (by decide)⟩, rfl⟩
              | exact ⟨.inl rfl, _, ⟨7, rfl, fun h => absurd h (by decide)⟩, rfl⟩
              | exact ⟨.inl rfl, _, ⟨4, rfl, fun h => absurd h (by decide)⟩, rfl⟩
              | exact ⟨.inl rfl, _, ⟨0, rfl, fun _ => h9⟩, rfl⟩
              | exact ⟨.inl rfl, _, ⟨_, rfl, fun h => by simp_all⟩, rfl⟩
            ·refine ex_skip ?_
             refine ⟨[], ?_, 1, (false::true::false::true::true::(rp 11 false (true::false::false::false::false::false::false::false::true::(rp 12 false [true])))), by omega, by simp only [maskFr,belowV,belowL,belowB,reduceLT,mkb], by simp only [maskFr,belowV,belowL,belowB,reduceLT,mkb], by simp only [maskFr,belowV,belowL,belowB,reduceLT,putAll,List.set_cons_zero,List.set_cons_succ,mkb]⟩
             refine ⟨rfl, fun h9 => ?_⟩
             have e3 := hn3 h9
             have e4 := hb4 h9
             subst e3
             subst e4
             simp_all
         ·refine runX_cut 8 fun K1 hK1 => ?_
          simp only [ltb]
          simp only [length_encFds,length_encTys,go_sem,reduceIte,reduceAdd,reduceLT,reduceLeDiff,reduceMul,reduceEqDiff,reduceSub,reduceCtorEq,List.take_length]
          refine hK1 _ ?_
          try simp only [ltb]
          simp only [length_encFds,length_encTys,go_sem,reduceIte,reduceAdd,reduceLT,reduceLeDiff,reduceMul,reduceEqDiff,reduceSub,reduceCtorEq,List.take_length]
          refine hK _ _ rfl ?_
          simp only [mwb,reduceAdd,reduceEqDiff]
          refine ex_cond rfl ?_
          refine ex_region_w tt_ok 176 [0,0,2] [] rfl rfl fun K hK => ?_
          try simp only [ltb]
          try simp only [ltb]
          simp only [length_encFds,length_encTys,go_sem,reduceIte,reduceAdd,reduceLT,reduceLeDiff,reduceMul,reduceEqDiff,reduceSub,reduceCtorEq,List.take_length]
          refine hK _ _ rfl ?_
          simp only [mwb,reduceAdd,reduceEqDiff]
          refine ex_ret ?_
          first
           | exact ⟨.inl rfl, _, ⟨1, rfl, fun h => absurd h (by decide)⟩, rfl⟩
           | exact ⟨.inl rfl, _, ⟨7, rfl, fun h => absurd h (by decide)⟩, rfl⟩
           | exact ⟨.inl rfl, _, ⟨4, rfl, fun h => absurd h (by decide)⟩, rfl⟩
           | exact ⟨.inl rfl, _, ⟨0, rfl, fun _ => h9⟩, rfl⟩
           | exact ⟨.inl rfl, _, ⟨_, rfl, fun h => by simp_all⟩, rfl⟩
       ·refine runX_cut 8 fun K1 hK1 => ?_
        simp only [ltb]
        simp only [length_encFds,length_encTys,go_sem,reduceIte,reduceAdd,reduceLT,reduceLeDiff,reduceMul,reduceEqDiff,reduceSub,reduceCtorEq,List.take_length]
        refine hK1 _ ?_
        refine runX_cut 8 fun K1 hK1 => ?_
        simp only [ltb]
        simp only [length_encFds,length_encTys,go_sem,reduceIte,reduceAdd,reduceLT,reduceLeDiff,reduceMul,reduceEqDiff,reduceSub,reduceCtorEq,List.take_length]
        refine hK1 _ ?_
        try simp only [ltb]
        simp only [length_encFds,length_encTys,go_sem,reduceIte,reduceAdd,reduceLT,reduceLeDiff,reduceMul,reduceEqDiff,reduceSub,reduceCtorEq,List.take_length]
        refine hK _ _ rfl ?_
        simp only [mwb,reduceAdd,reduceEqDiff]
        refine ex_cond rfl ?_
        refine ex_region_w tt_ok 176 [0,0,2] [] rfl rfl fun K hK => ?_
        try simp only [ltb]
        try simp only [ltb]
        simp only [length_encFds,length_encTys,go_sem,reduceIte,reduceAdd,reduceLT,reduceLeDiff,reduceMul,reduceEqDiff,reduceSub,reduceCtorEq,List.take_length]
        refine hK _ _ rfl ?_
        simp only [mwb,reduceAdd,reduceEqDiff]
        refine ex_ret ?_
        first
         | exact ⟨.inl rfl, _, ⟨1, rfl, fun h => absurd h (by decide)⟩, rfl⟩
         | exact ⟨.inl rfl, _, ⟨7, rfl, fun h => absurd h (by decide)⟩, rfl⟩
         | exact ⟨.inl rfl, _, ⟨4, rfl, fun h => absurd h (by decide)⟩, rfl⟩
         | exact ⟨.inl rfl, _, ⟨0, rfl, fun _ => h9⟩, rfl⟩
         | exact ⟨.inl rfl, _, ⟨_, rfl, fun h => by simp_all⟩, rfl⟩
      ·refine runX_cut 8 fun K1 hK1 => ?_
       simp only [ltb]
       simp only [length_encFds,length_encTys,go_sem,reduceIte,reduceAdd,reduceLT,reduceLeDiff,reduceMul,reduceEqDiff,reduceSub,reduceCtorEq,List.take_length]
       refine hK1 _ ?_
       refine runX_cut 8 fun K1 hK1 => ?_
       simp only [ltb]
       simp only [length_encFds,length_encTys,go_sem,reduceIte,reduceAdd,reduceLT,reduceLeDiff,reduceMul,reduceEqDiff,reduceSub,reduceCtorEq,List.take_length]
       refine hK1 _ ?_
       refine runX_cut 8 fun K1 hK1 => ?_
       simp only [ltb]
       simp only [length_encFds,length_encTys,go_sem,reduceIte,reduceAdd,reduceLT,reduceLeDiff,reduceMul,reduceEqDiff,reduceSub,reduceCtorEq,List.take_length]
       refine hK1 _ ?_
       try simp only [ltb]
       simp only [length_encFds,length_encTys,go_sem,reduceIte,reduceAdd,reduceLT,reduceLeDiff,reduceMul,reduceEqDiff,reduceSub,reduceCtorEq,List.take_length]
       refine hK _ _ rfl ?_
       simp only [mwb,reduceAdd,reduceEqDiff]
       refine ex_cond rfl ?_
       refine ex_region_w tt_ok 176 [0,0,2] [] rfl rfl fun K hK => ?_
       try simp only [ltb]
       try simp only [ltb]
       simp only [length_encFds,length_encTys,go_sem,reduceIte,reduceAdd,reduceLT,reduceLeDiff,reduceMul,reduceEqDiff,reduceSub,reduceCtorEq,List.take_length]
       refine hK _ _ rfl ?_
       simp only [mwb,reduceAdd,reduceEqDiff]
       refine ex_ret ?_
       first
        | exact ⟨.inl rfl, _, ⟨1, rfl, fun h => absurd h (by decide)⟩, rfl⟩
        | exact ⟨.inl rfl, _, ⟨7, rfl, fun h => absurd h (by decide)⟩, rfl⟩
        | exact ⟨.inl rfl, _, ⟨4, rfl, fun h => absurd h (by decide)⟩, rfl⟩
        | exact ⟨.inl rfl, _, ⟨0, rfl, fun _ => h9⟩, rfl⟩
        | exact ⟨.inl rfl, _, ⟨_, rfl, fun h => by simp_all⟩, rfl⟩
    ·intro vs hJ
     obtain ⟨rfl, h9⟩ := hJ
     simp only [maskFr,belowV,belowL,belowB,reduceLT,putAll,List.set_cons_zero,List.set_cons_succ,mkb]
     refine ex_seq_joinK [] 1 (false::true::(rp 14 false (true::false::false::false::false::false::false::false::true::(rp 12 false (true::(rp 39 false [true])))))) (fun vs => vs = []) ?_ ?_
     ·refine ex_region_w tt_ok 176 [0,0,0,0,0,2] [] rfl rfl fun K hK => ?_
      try simp only [ltb]
      try simp only [ltb]
      simp only [length_encFds,length_encTys,go_sem,reduceIte,reduceAdd,reduceLT,reduceLeDiff,reduceMul,reduceEqDiff,reduceSub,reduceCtorEq,List.take_length]
      refine hK _ _ rfl ?_
      simp only [mwb,reduceAdd,reduceEqDiff]
      refine ex_block ?_
      refine ex_range 5 (t.flds.length) 1 (false::true::true::false::false::true::(rp 10 false (true::false::false::false::false::false::false::false::true::(rp 12 false (true::(rp 39 false [true])))))) (by omega) (by simp only [maskFr,belowV,belowL,belowB,reduceLT,mkb]) (by simp only [maskFr,belowV,belowL,belowB,reduceLT,mkb]) (by rfl) fun i hii => ?_
      simp only [maskFr,belowV,belowL,belowB,reduceLT,List.set_cons_zero,List.set_cons_succ,mkb]
      refine ex_seq ?_
      refine ex_region_w tt_ok 176 (rp 78 0 [1,1,1,1,2]) [] rfl rfl fun K hK => ?_
      try simp only [ltb]
      try simp only [ltb]
      simp only [length_encFds,length_encTys,go_sem,reduceIte,reduceAdd,reduceLT,reduceLeDiff,reduceMul,reduceEqDiff,reduceSub,reduceCtorEq,List.take_length]
      refine hK _ _ rfl ?_
      simp only [mwb,reduceAdd,reduceEqDiff]
      refine ex_if rfl (fun hc82 => ?_) (fun hc82 => ?_)
      ·have hlti : i < (t.flds.length) := by simpa using hc82
       refine ex_skip ?_
       show Go.Eng.Ex _ _ _ _ _ _
       refine ex_seq ?_
       refine ex_block ?_
       refine ex_region_w tt_ok 176 (rp 85 0 (rp 10 1 [2])) [(6, 91)] rfl rfl fun K hK => ?_
       try simp only [ltb]
       refine runX_cut 3 fun K1 hK1 => ?_
       simp only [ltb]
       simp only [hlti,length_encFds,length_encTys,go_sem,reduceIte,reduceAdd,reduceLT,reduceLeDiff,reduceMul,reduceEqDiff,reduceSub,reduceCtorEq,List.take_length]
       refine hK1 _ ?_
       obtain ⟨f, hx⟩ : ∃ f, t.flds[i]? = some f := ⟨_, List.getElem?_eq_getElem hlti⟩
       refine runX_cut 4 fun K1 hK1 => ?_
       simp only [ltb]
       simp only [hlti,hx,get_encFds,encFd_eq,encTy_eq,tyCells,length_encFds,length_encTys,go_sem,reduceIte,reduceAdd,reduceLT,reduceLeDiff,reduceMul,reduceEqDiff,reduceSub,reduceCtorEq,List.take_length]
       refine hK1 _ ?_
       refine runX_case 91 (by rfl) fun b hb13_6 => ?_
       cases b
       ·try simp only [ltb]
        simp only [hlti,hx,get_encFds,encFd_eq,encTy_eq,tyCells,length_encFds,length_encTys,go_sem,reduceIte,reduceAdd,reduceLT,reduceLeDiff,reduceMul,reduceEqDiff,reduceSub,reduceCtorEq,List.take_length]
        refine hK _ _ rfl ?_
        simp only [mwb,reduceAdd,reduceEqDiff]
        refine ex_cond rfl ?_
        refine ex_skip ?_
        show Go.Eng.Ex _ _ _ _ _ _
        refine ex_last_region_w tt_ok 176 (0::0::0::0::0::2::(rp 77 0 [2,2])) [] (by kernel_rfl) rfl rfl fun K hK => ?_
        try simp only [ltb]
        try simp only [ltb]
        simp only [hlti,hx,get_encFds,encFd_eq,encTy_eq,tyCells,length_encFds,length_encTys,go_sem,reduceIte,reduceAdd,reduceLT,reduceLeDiff,reduceMul,reduceEqDiff,reduceSub,reduceCtorEq,List.take_length]
        refine hK _ _ rfl ?_
        simp only [mwb,reduceAdd,reduceEqDiff]
        have hwi := i64_succ i (by omega)
        refine ⟨hlti, 1, (false::true::true::false::false::true::(rp 10 false (true::false::false::false::false::false::false::false::true::(rp 12 false (true::(rp 39 false [true])))))), by omega, by simp only [maskFr,belowV,belowL,belowB,reduceLT,mkb], by simp only [maskFr,belowV,belowL,belowB,reduceLT,mkb], ?_⟩
        simp only [hwi,maskFr,belowV,belowL,belowB,reduceLT,List.set_cons_zero,List.set_cons_succ,mkb]
       ·try simp only [ltb]
        simp only [hlti,hx,get_encFds,encFd_eq,encTy_eq,tyCells,length_encFds,length_encTys,go_sem,reduceIte,reduceAdd,reduceLT,reduceLeDiff,reduceMul,reduceEqDiff,reduceSub,reduceCtorEq,List.take_length]
        refine hK _ _ rfl ?_
        simp only [mwb,reduceAdd,reduceEqDiff]
        refine ex_if rfl (fun hc95 => ?_) (fun hc95 => ?_)
        ·refine ex_region_w tt_ok 176 [0,0,2] [] rfl rfl fun K hK => ?_
         try simp only [ltb]
         try simp only [ltb]
         simp only [hlti,hx,get_encFds,encFd_eq,encTy_eq,tyCells,length_encFds,length_encTys,go_sem,reduceIte,reduceAdd,reduceLT,reduceLeDiff,reduceMul,reduceEqDiff,reduceSub,reduceCtorEq,List.take_length]
         refine hK _ _ rfl ?_
         simp only [mwb,reduceAdd,reduceEqDiff]
         refine ex_ret ?_
         first
          | exact ⟨.inl rfl, _, ⟨1, rfl, fun h => absurd h (by decide)⟩, rfl⟩
          | exact ⟨.inl rfl, _, ⟨7, rfl, fun h => absurd h (by decide)⟩, rfl⟩
          | exact ⟨.inl rfl, _, ⟨4, rfl, fun h => absurd h (by decide)⟩, rfl⟩
          | exact ⟨.inl rfl, _, ⟨0, rfl, fun _ => h9⟩, rfl⟩
          | exact ⟨.inl rfl, _, ⟨_, rfl, fun h => by simp_all⟩, rfl⟩
        ·refine ex_skip ?_
         show Go.Eng.Ex _ _ _ _ _ _
         refine ex_last_region_w tt_ok 176 (0::0::0::0::0::2::(rp 77 0 [2,2])) [] (by kernel_rfl) rfl rfl fun K hK => ?_
         try simp only [ltb]
         try simp only [ltb]
         simp only [hlti,hx,get_encFds,encFd_eq,encTy_eq,tyCells,length_encFds,length_encTys,go_sem,reduceIte,reduceAdd,reduceLT,reduceLeDiff,reduceMul,reduceEqDiff,reduceSub,reduceCtorEq,List.take_length]
         refine hK _ _ rfl ?_
         simp only [mwb,reduceAdd,reduceEqDiff]
         have hwi := i64_succ i (by omega)
         refine ⟨hlti, 1, (false::true::true::false::false::true::(rp 10 false (true::false::false::false::false::false::false::false::true::(rp 12 false (true::(rp 39 false [true])))))), by omega, by simp only [maskFr,belowV,belowL,belowB,reduceLT,mkb], by simp only [maskFr,belowV,belowL,belowB,reduceLT,mkb], ?_⟩
         simp only [hwi,maskFr,belowV,belowL,belowB,reduceLT,List.set_cons_zero,List.set_cons_succ,mkb]
      ·have hgei : ¬ i < (t.flds.length) := by simpa using hc82
       refine ex_exit ?_
       refine ⟨[], ?_, 1, (false::true::(rp 14 false (true::false::false::false::false::false::false::false::true::(rp 12 false (true::(rp 39 false [true])))))), by omega, by simp only [maskFr,belowV,belowL,belowB,reduceLT,mkb], by simp only [maskFr,belowV,belowL,belowB,reduceLT,mkb], by simp only [maskFr,belowV,belowL,belowB,reduceLT,putAll,List.set_cons_zero,List.set_cons_succ,mkb]⟩
       rfl
     ·intro vs hJ
      obtain rfl := hJ
      simp only [maskFr,belowV,belowL,belowB,reduceLT,putAll,List.set_cons_zero,List.set_cons_succ,mkb]
      refine ex_seq_joinK [] 1 (false::true::(rp 14 false (true::false::false::false::false::false::false::false::true::(rp 12 false (true::(rp 39 false (true::false::false::false::false::true::(rp 12 false [true])))))))) (fun vs => vs = []) ?_ ?_
      ·refine ex_region_w tt_ok 176 (rp 96 0 (rp 14 1 [2])) [(4, 100), (8, 104)] rfl rfl fun K hK => ?_
       try simp only [ltb]
       refine runX_cut 5 fun K1 hK1 => ?_
       simp only [ltb]
       simp only [length_encFds,length_encTys,go_sem,reduceIte,reduceAdd,reduceLT,reduceLeDiff,reduceMul,reduceEqDiff,reduceSub,reduceCtorEq,List.take_length]
       refine hK1 _ ?_
       refine runX_case 100 (by rfl) fun b hb15_4 => ?_
       cases b
       ·refine runX_cut 4 fun K1 hK1 => ?_
        simp only [ltb]
        simp only [length_encFds,length_encTys,go_sem,reduceIte,reduceAdd,reduceLT,reduceLeDiff,reduceMul,reduceEqDiff,reduceSub,reduceCtorEq,List.take_length]
        refine hK1 _ ?_
        refine runX_case 104 (by rfl) fun b hb15_8 => ?_
        cases b
        ·try simp only [ltb]
         simp only [length_encFds,length_encTys,go_sem,reduceIte,reduceAdd,reduceLT,reduceLeDiff,reduceMul,reduceEqDiff,reduceSub,reduceCtorEq,List.take_length]
         refine hK _ _ rfl ?_
         simp only [mwb,reduceAdd,reduceEqDiff]
         refine ex_cond rfl ?_
         refine ex_skip ?_
         refine ⟨[], ?_, 1, (false::true::(rp 14 false (true::false::false::false::false::false::false::false::true::(rp 12 false (true::(rp 39 false (true::false::false::false::false::true::(rp 12 false [true])))))))), by omega, by simp only [maskFr,belowV,belowL,belowB,reduceLT,mkb], by simp only [maskFr,belowV,belowL,belowB,reduceLT,mkb], by simp only [maskFr,belowV,belowL,belowB,reduceLT,putAll,List.set_cons_zero,List.set_cons_succ,mkb]⟩
         rfl
        ·try simp only [ltb]
         simp only [length_encFds,length_encTys,go_sem,reduceIte,reduceAdd,reduceLT,reduceLeDiff,reduceMul,reduceEqDiff,reduceSub,reduceCtorEq,List.take_length]
         refine hK _ _ rfl ?_
         simp only [mwb,reduceAdd,reduceEqDiff]
         refine ex_if rfl (fun hc110 => ?_) (fun hc110 => ?_)
         ·refine ex_region_w tt_ok 176 [0,0,2] [] rfl rfl fun K hK => ?_
          try simp only [ltb]
          try simp only [ltb]
          simp only [length_encFds,length_encTys,go_sem,reduceIte,reduceAdd,reduceLT,reduceLeDiff,reduceMul,reduceEqDiff,reduceSub,reduceCtorEq,List.take_length]
          refine hK _ _ rfl ?_
          simp only [mwb,reduceAdd,reduceEqDiff]
          refine ex_ret ?_
          first
           | exact ⟨.inl rfl, _, ⟨1, rfl, fun h => absurd h (by decide)⟩, rfl⟩
           | exact ⟨.inl rfl, _, ⟨7, rfl, fun h => absurd h (by decide)⟩, rfl⟩
           | exact ⟨.inl rfl, _, ⟨4, rfl, fun h => absurd h (by decide)⟩, rfl⟩
           | exact ⟨.inl rfl, _, ⟨0, rfl, fun _ => h9⟩, rfl⟩
           | exact ⟨.inl rfl, _, ⟨_, rfl, fun h => by simp_all⟩, rfl⟩
         ·refine ex_skip ?_
          refine ⟨[], ?_, 1, (false::true::(rp 14 false (true::false::false::false::false::false::false::false::true::(rp 12 false (true::(rp 39 false (true::false::false::false::false::true::(rp 12 false [true])))))))), by omega, by simp only [maskFr,belowV,belowL,belowB,reduceLT,mkb], by simp only [maskFr,belowV,belowL,belowB,reduceLT,mkb], by simp only [maskFr,belowV,belowL,belowB,reduceLT,putAll,List.set_cons_zero,List.set_cons_succ,mkb]⟩
          rfl
       ·refine runX_cut 8 fun K1 hK1 => ?_
        simp only [ltb]
        simp only [length_encFds,length_encTys,go_sem,reduceIte,reduceAdd,reduceLT,reduceLeDiff,reduceMul,reduceEqDiff,reduceSub,reduceCtorEq,List.take_length]
        refine hK1 _ ?_
        try simp only [ltb]
        simp only [length_encFds,length_encTys,go_sem,reduceIte,reduceAdd,reduceLT,reduceLeDiff,reduceMul,reduceEqDiff,reduceSub,reduceCtorEq,List.take_length]
        refine hK _ _ rfl ?_
        simp only [mwb,reduceAdd,reduceEqDiff]
        refine ex_cond rfl ?_
        refine ex_region_w tt_ok 176 [0,0,2] [] rfl rfl fun K hK => ?_
        try simp only [ltb]
        try simp only [ltb]
        simp only [length_encFds,length_encTys,go_sem,reduceIte,reduceAdd,reduceLT,reduceLeDiff,reduceMul,reduceEqDiff,reduceSub,reduceCtorEq,List.take_length]
        refine hK _ _ rfl ?_
        simp only [mwb,reduceAdd,reduceEqDiff]
        refine ex_ret ?_
        first
         | exact ⟨.inl rfl, _, ⟨1, rfl, fun h => absurd h (by decide)⟩, rfl⟩
         | exact ⟨.inl rfl, _, ⟨7, rfl, fun h => absurd h (by decide)⟩, rfl⟩
         | exact ⟨.inl rfl, _, ⟨4, rfl, fun h => absurd h (by decide)⟩, rfl⟩
         | exact ⟨.inl rfl, _, ⟨0, rfl, fun _ => h9⟩, rfl⟩
         | exact ⟨.inl rfl, _, ⟨_, rfl, fun h => by simp_all⟩, rfl⟩
      ·intro vs hJ
       obtain rfl := hJ
       simp only [maskFr,belowV,belowL,belowB,reduceLT,putAll,List.set_cons_zero,List.set_cons_succ,mkb]
       refine ex_seq_joinK [] 1 (false::true::(rp 14 false (true::false::false::false::false::false::false::false::true::(rp 12 false (true::(rp 39 false (true::false::false::false::false::true::(rp 12 false (true::(rp 14 false [true])))))))))) (fun vs => vs = []) ?_ ?_
       ·refine ex_region_w tt_ok 176 (rp 111 0 (rp 25 1 [2])) [(3, 114), (9, 120), (13, 124), (18, 129)] rfl rfl fun K hK => ?_
        try simp only [ltb]
        refine runX_cut 4 fun K1 hK1 => ?_
        simp only [ltb]
        simp only [length_encFds,length_encTys,go_sem,reduceIte,reduceAdd,reduceLT,reduceLeDiff,reduceMul,reduceEqDiff,reduceSub,reduceCtorEq,List.take_length]
        refine hK1 _ ?_
        refine runX_case 114 (by rfl) fun b hb17_3 => ?_
        cases b
        ·refine runX_cut 8 fun K1 hK1 => ?_
         simp only [ltb]
         simp only [length_encFds,length_encTys,go_sem,reduceIte,reduceAdd,reduceLT,reduceLeDiff,reduceMul,reduceEqDiff,reduceSub,reduceCtorEq,List.take_length]
         refine hK1 _ ?_
         refine runX_cut 2 fun K1 hK1 => ?_
         simp only [ltb]
         simp only [length_encFds,length_encTys,go_sem,reduceIte,reduceAdd,reduceLT,reduceLeDiff,reduceMul,reduceEqDiff,reduceSub,reduceCtorEq,List.take_length]
         refine hK1 _ ?_
         refine runX_case 124 (by rfl) fun b hb17_13 => ?_
         cases b
         ·refine runX_cut 8 fun K1 hK1 => ?_
          simp only [ltb]
          simp only [length_encFds,length_encTys,go_sem,reduceIte,reduceAdd,reduceLT,reduceLeDiff,reduceMul,reduceEqDiff,reduceSub,reduceCtorEq,List.take_length]
          refine hK1 _ ?_
          try simp only [ltb]
          simp only [length_encFds,length_encTys,go_sem,reduceIte,reduceAdd,reduceLT,reduceLeDiff,reduceMul,reduceEqDiff,reduceSub,reduceCtorEq,List.take_length]
          refine hK _ _ rfl ?_
          simp only [mwb,reduceAdd,reduceEqDiff]
          refine ex_cond rfl ?_
          refine ex_skip ?_
          refine ⟨[], ?_, 1, (false::true::(rp 14 false (true::false::false::false::false::false::false::false::true::(rp 12 false (true::(rp 39 false (true::false::false::false::false::true::(rp 12 false (true::(rp 14 false [true])))))))))), by omega, by simp only [maskFr,belowV,belowL,belowB,reduceLT,mkb], by simp only [maskFr,belowV,belowL,belowB,reduceLT,mkb], by simp only [maskFr,belowV,belowL,belowB,reduceLT,putAll,List.set_cons_zero,List.set_cons_succ,mkb]⟩
          rfl
         ·refine runX_cut 3 fun K1 hK1 => ?_
          simp only [ltb]
          simp only [length_encFds,length_encTys,go_sem,reduceIte,reduceAdd,reduceLT,reduceLeDiff,reduceMul,reduceEqDiff,reduceSub,reduceCtorEq,List.take_length]
          refine callF_ex (rmodule_tot _) ?_
          rintro _ ⟨r1, rfl⟩
          try simp only [length_encFds,length_encTys,go_sem,reduceIte,reduceAdd,reduceLT,reduceLeDiff,reduceMul,reduceEqDiff,reduceSub,reduceCtorEq,List.take_length]
          refine hK1 _ ?_
          refine runX_cut 2 fun K1 hK1 => ?_
          simp only [ltb]
          simp only [length_encFds,length_encTys,go_sem,reduceIte,reduceAdd,reduceLT,reduceLeDiff,reduceMul,reduceEqDiff,reduceSub,reduceCtorEq,List.take_length]
          refine hK1 _ ?_
          refine runX_case 129 (by rfl) fun b hb17_18 => ?_
          cases b
          ·refine runX_cut 3 fun K1 hK1 => ?_
           simp only [ltb]
           simp only [length_encFds,length_encTys,go_sem,reduceIte,reduceAdd,reduceLT,reduceLeDiff,reduceMul,reduceEqDiff,reduceSub,reduceCtorEq,List.take_length]
           refine callF_ex (risType_ex _) ?_
           rintro _ rfl
           try simp only [length_encFds,length_encTys,go_sem,reduceIte,reduceAdd,reduceLT,reduceLeDiff,reduceMul,reduceEqDiff,reduceSub,reduceCtorEq,List.take_length]
           refine hK1 _ ?_
           try simp only [ltb]
           simp only [length_encFds,length_encTys,go_sem,reduceIte,reduceAdd,reduceLT,reduceLeDiff,reduceMul,reduceEqDiff,reduceSub,reduceCtorEq,List.take_length]
           refine hK _ _ rfl ?_
           simp only [mwb,reduceAdd,reduceEqDiff]
           refine ex_if rfl (fun hc136 => ?_) (fun hc136 => ?_)
           ·refine ex_region_w tt_ok 176 [0,0,2] [] rfl rfl fun K hK => ?_
            try simp only [ltb]
            try simp only [ltb]
            simp only [length_encFds,length_encTys,go_sem,reduceIte,reduceAdd,reduceLT,reduceLeDiff,reduceMul,reduceEqDiff,reduceSub,reduceCtorEq,List.take_length]
            refine hK _ _ rfl ?_
            simp only [mwb,reduceAdd,reduceEqDiff]
            refine ex_ret ?_
            first
             | exact ⟨.inl rfl, _, ⟨1, rfl, fun h => absurd h (by decide)⟩, rfl⟩
             | exact ⟨.inl rfl, _, ⟨7, rfl, fun h => absurd h (by decide)⟩, rfl⟩
             | exact ⟨.inl rfl, _, ⟨4, rfl, fun h => absurd h (by decide)⟩, rfl⟩
             | exact ⟨.inl rfl, _, ⟨0, rfl, fun _ => h9⟩, rfl⟩
             | exact ⟨.inl rfl, _, ⟨_, rfl, fun h => by simp_all⟩, rfl⟩
           ·refine ex_skip ?_
            refine ⟨[], ?_, 1, (false::true::(rp 14 false (true::false::false::false::false::false::false::false::true::(rp 12 false (true::(rp 39 false (true::false::false::false::false::true::(rp 12 false (true::(rp 14 false [true])))))))))), by omega, by simp only [maskFr,belowV,belowL,belowB,reduceLT,mkb], by simp only [maskFr,belowV,belowL,belowB,reduceLT,mkb], by simp only [maskFr,belowV,belowL,belowB,reduceLT,putAll,List.set_cons_zero,List.set_cons_succ,mkb]⟩
            rfl
          ·try simp only [ltb]
           simp only [length_encFds,length_encTys,go_sem,reduceIte,reduceAdd,reduceLT,reduceLeDiff,reduceMul,reduceEqDiff,reduceSub,reduceCtorEq,List.take_length]
           refine hK _ _ rfl ?_
           simp only [mwb,reduceAdd,reduceEqDiff]
           refine ex_cond rfl ?_
           refine ex_region_w tt_ok 176 [0,0,2] [] rfl rfl fun K hK => ?_
           try simp only [ltb]
           try simp only [ltb]
           simp only [length_encFds,length_encTys,go_sem,reduceIte,reduceAdd,reduceLT,reduceLeDiff,reduceMul,reduceEqDiff,reduceSub,reduceCtorEq,List.take_length]
           refine hK _ _ rfl ?_
           simp only [mwb,reduceAdd,reduceEqDiff]
           refine ex_ret ?_
           first
            | exact ⟨.inl rfl, _, ⟨1, rfl, fun h => absurd h (by decide)⟩, rfl⟩
            | exact ⟨.inl rfl, _, ⟨7, rfl, fun h => absurd h (by decide)⟩, rfl⟩
            | exact ⟨.inl rfl, _, ⟨4, rfl, fun h => absurd h (by decide)⟩, rfl⟩
            | exact ⟨.inl rfl, _, ⟨0, rfl, fun _ => h9⟩, rfl⟩
            | exact ⟨.inl rfl, _, ⟨_, rfl, fun h => by simp_all⟩, rfl⟩
        ·refine runX_cut 3 fun K1 hK1 => ?_
         simp only [ltb]
         simp only [length_encFds,length_encTys,go_sem,reduceIte,reduceAdd,reduceLT,reduceLeDiff,reduceMul,reduceEqDiff,reduceSub,reduceCtorEq,List.take_length]
         refine callF_ex (rvariable_ex _) ?_
         rintro _ rfl
         try simp only [length_encFds,length_encTys,go_sem,reduceIte,reduceAdd,reduceLT,reduceLeDiff,reduceMul,reduceEqDiff,reduceSub,reduceCtorEq,List.take_length]
         refine hK1 _ ?_
         refine runX_cut 3 fun K1 hK1 => ?_
         simp only [ltb]
         simp only [length_encFds,length_encTys,go_sem,reduceIte,reduceAdd,reduceLT,reduceLeDiff,reduceMul,reduceEqDiff,reduceSub,reduceCtorEq,List.take_length]
         refine hK1 _ ?_
         refine runX_case 120 (by rfl) fun b hb17_9 => ?_
         cases b
         ·refine runX_cut 4 fun K1 hK1 => ?_
          simp only [ltb]
          simp only [length_encFds,length_encTys,go_sem,reduceIte,reduceAdd,reduceLT,reduceLeDiff,reduceMul,reduceEqDiff,reduceSub,reduceCtorEq,List.take_length]
          refine hK1 _ ?_
          refine runX_case 124 (by rfl) fun b hb17_13 => ?_
          cases b
          ·refine runX_cut 8 fun K1 hK1 => ?_
           simp only [ltb]
           simp only [length_encFds,length_encTys,go_sem,reduceIte,reduceAdd,reduceLT,reduceLeDiff,reduceMul,reduceEqDiff,reduceSub,reduceCtorEq,List.take_length]
           refine hK1 _ ?_
           try simp only [ltb]
           simp only [length_encFds,length_encTys,go_sem,reduceIte,reduceAdd,reduceLT,reduceLeDiff,reduceMul,reduceEqDiff,reduceSub,reduceCtorEq,List.take_length]
           refine hK _ _ rfl ?_
           simp only [mwb,reduceAdd,reduceEqDiff]
           refine ex_cond rfl ?_
           refine ex_skip ?_
           refine ⟨[], ?_, 1, (false::true::(rp 14 false (true::false::false::false::false::false::false::false::true::(rp 12 false (true::(rp 39 false (true::false::false::false::false::true::(rp 12 false (true::(rp 14 false [true])))))))))), by omega, by simp only [maskFr,belowV,belowL,belowB,reduceLT,mkb], by simp only [maskFr,belowV,belowL,belowB,reduceLT,mkb], by simp only [maskFr,belowV,belowL,belowB,reduceLT,putAll,List.set_cons_zero,List.set_cons_succ,mkb]⟩
           rfl
          ·refine runX_cut 3 fun K1 hK1 => ?_
           simp only [ltb]
           simp only [length_encFds,length_encTys,go_sem,reduceIte,reduceAdd,reduceLT,reduceLeDiff,reduceMul,reduceEqDiff,reduceSub,reduceCtorEq,List.take_length]
           refine callF_ex (rmodule_tot _) ?_
           rintro _ ⟨r4, rfl⟩
           try simp only [length_encFds,length_encTys,go_sem,reduceIte,reduceAdd,reduceLT,reduceLeDiff,reduceMul,reduceEqDiff,reduceSub,reduceCtorEq,List.take_length]
           refine hK1 _ ?_
           refine runX_cut 2 fun K1 hK1 => ?_
           simp only [ltb]
           simp only [length_encFds,length_encTys,go_sem,reduceIte,reduceAdd,reduceLT,reduceLeDiff,reduceMul,reduceEqDiff,reduceSub,reduceCtorEq,List.take_length]
           refine hK1 _ ?_
           refine runX_case 129 (by rfl) fun b hb17_18 => ?_
           cases b
           ·refine runX_cut 3 fun K1 hK1 => ?_
            simp only [ltb]
            simp only [length_encFds,length_encTys,go_sem,reduceIte,reduceAdd,reduceLT,reduceLeDiff,reduceMul,reduceEqDiff,reduceSub,reduceCtorEq,List.take_length]
            refine callF_ex (risType_ex _) ?_
            rintro _ rfl
            try simp only [length_encFds,length_encTys,go_sem,reduceIte,reduceAdd,reduceLT,reduceLeDiff,reduceMul,reduceEqDiff,reduceSub,reduceCtorEq,List.take_length]
            refine hK1 _ ?_
            try simp only [ltb]
            simp only [length_encFds,length_encTys,go_sem,reduceIte,reduceAdd,reduceLT,reduceLeDiff,reduceMul,reduceEqDiff,reduceSub,reduceCtorEq,List.take_length]
            refine hK _ _ rfl ?_
            simp only [mwb,reduceAdd,reduceEqDiff]
            refine ex_if rfl (fun hc136 => ?_) (fun hc136 => ?_)
            ·refine ex_region_w tt_ok 176 [0,0,2] [] rfl rfl fun K hK => ?_
             try simp only [ltb]
             try simp only [ltb]
             simp only [length_encFds,length_encTys,go_sem,reduceIte,reduceAdd,reduceLT,reduceLeDiff,reduceMul,reduceEqDiff,reduceSub,reduceCtorEq,List.take_length]
             refine hK _ _ rfl ?_
             simp only [mwb,reduceAdd,reduceEqDiff]
             refine ex_ret ?_
             first
              | exact ⟨.inl rfl, _, ⟨1, rfl, fun h => absurd h (by decide)⟩, rfl⟩
              | exact ⟨.inl rfl, _, ⟨7, rfl, fun h => absurd h (by decide)⟩, rfl⟩
              | exact ⟨.inl rfl, _, ⟨4, rfl, fun h => absurd h (by decide)⟩, rfl⟩
              | exact ⟨.inl rfl, _, ⟨0, rfl, fun _ => h9⟩, rfl⟩
              | exact ⟨.inl rfl, _, ⟨_, rfl, fun h => by simp_all⟩, rfl⟩
            ·refine ex_skip ?_
             refine ⟨[], ?_, 1, (false::true::(rp 14 false (true::false::false::false::false::false::false::false::true::(rp 12 false (true::(rp 39 false (true::false::false::false::false::true::(rp 12 false (true::(rp 14 false [true])))))))))), by omega, by simp only [maskFr,belowV,belowL,belowB,reduceLT,mkb], by simp only [maskFr,belowV,belowL,belowB,reduceLT,mkb], by simp only [maskFr,belowV,belowL,belowB,reduceLT,putAll,List.set_cons_zero,List.set_cons_succ,mkb]⟩
             rfl
           ·try simp only [ltb]
            simp only [length_encFds,length_encTys,go_sem,reduceIte,reduceAdd,reduceLT,reduceLeDiff,reduceMul,reduceEqDiff,reduceSub,reduceCtorEq,List.take_length]
            refine hK _ _ rfl ?_
            simp only [mwb,reduceAdd,reduceEqDiff]
            refine ex_cond rfl ?_
            refine ex_region_w tt_ok 176 [0,0,2] [] rfl rfl fun K hK => ?_
            try simp only [ltb]
            try simp only [ltb]
            simp only [length_encFds,length_encTys,go_sem,reduceIte,reduceAdd,reduceLT,reduceLeDiff,reduceMul,reduceEqDiff,reduceSub,reduceCtorEq,List.take_length]
            refine hK _ _ rfl ?_
            simp only [mwb,reduceAdd,reduceEqDiff]
            refine ex_ret ?_
            first
             | exact ⟨.inl rfl, _, ⟨1, rfl, fun h => absurd h (by decide)⟩, rfl⟩
             | exact ⟨.inl rfl, _, ⟨7, rfl, fun h => absurd h (by decide)⟩, rfl⟩
             | exact ⟨.inl rfl, _, ⟨4, rfl, fun h => absurd h (by decide)⟩, rfl⟩
             | exact ⟨.inl rfl, _, ⟨0, rfl, fun _ => h9⟩, rfl⟩
             | exact ⟨.inl rfl, _, ⟨_, rfl, fun h => by simp_all⟩, rfl⟩
         ·refine runX_cut 8 fun K1 hK1 => ?_
          simp only [ltb]
          simp only [length_encFds,length_encTys,go_sem,reduceIte,reduceAdd,reduceLT,reduceLeDiff,reduceMul,reduceEqDiff,reduceSub,reduceCtorEq,List.take_length]
          refine hK1 _ ?_
          try simp only [ltb]
          simp only [length_encFds,length_encTys,go_sem,reduceIte,reduceAdd,reduceLT,reduceLeDiff,reduceMul,reduceEqDiff,reduceSub,reduceCtorEq,List.take_length]
          refine hK _ _ rfl ?_
          simp only [mwb,reduceAdd,reduceEqDiff]
          refine ex_cond rfl ?_
          refine ex_region_w tt_ok 176 [0,0,2] [] rfl rfl fun K hK => ?_
          try simp only [ltb]
          try simp only [ltb]
          simp only [length_encFds,length_encTys,go_sem,reduceIte,reduceAdd,reduceLT,reduceLeDiff,reduceMul,reduceEqDiff,reduceSub,reduceCtorEq,List.take_length]
          refine hK _ _ rfl ?_
          simp only [mwb,reduceAdd,reduceEqDiff]
          refine ex_ret ?_
          first
           | exact ⟨.inl rfl, _, ⟨1, rfl, fun h => absurd h (by decide)⟩, rfl⟩
           | exact ⟨.inl rfl, _, ⟨7, rfl, fun h => absurd h (by decide)⟩, rfl⟩
           | exact ⟨.inl rfl, _, ⟨4, rfl, fun h => absurd h (by decide)⟩, rfl⟩
           | exact ⟨.inl rfl, _, ⟨0, rfl, fun _ => h9⟩, rfl⟩
           | exact ⟨.inl rfl, _, ⟨_, rfl, fun h => by simp_all⟩, rfl⟩
       ·intro vs hJ
        obtain rfl := hJ
        simp only [maskFr,belowV,belowL,belowB,reduceLT,putAll,List.set_cons_zero,List.set_cons_succ,mkb]
        refine ex_seq_joinK [] 1 (false::true::(rp 14 false (true::false::false::false::false::false::false::false::true::(rp 12 false (true::(rp 39 false (true::false::false::false::false::true::(rp 12 false (true::(rp 14 false (true::(rp 25 false [true])))))))))))) (fun vs => vs = []) ?_ ?_
        ·refine ex_region_w tt_ok 176 [0,0,0,0,0,0,2] [] rfl rfl fun K hK => ?_
         try simp only [ltb]
         try simp only [ltb]
         simp only [length_encFds,length_encTys,go_sem,reduceIte,reduceAdd,reduceLT,reduceLeDiff,reduceMul,reduceEqDiff,reduceSub,reduceCtorEq,List.take_length]
         refine hK _ _ rfl ?_
         simp only [mwb,reduceAdd,reduceEqDiff]
         refine ex_block ?_
         refine ex_range 6 (t.flds.length) 1 (false::true::true::false::false::false::true::(rp 9 false (true::false::false::false::false::false::false::false::true::(rp 12 false (true::(rp 39 false (true::false::false::false::false::true::(rp 12 false (true::(rp 14 false (true::(rp 25 false [true])))))))))))) (by omega) (by simp only [maskFr,belowV,belowL,belowB,reduceLT,mkb]) (by simp only [maskFr,belowV,belowL,belowB,reduceLT,mkb]) (by rfl) fun i hii => ?_
         simp only [maskFr,belowV,belowL,belowB,reduceLT,List.set_cons_zero,List.set_cons_succ,mkb]
         refine ex_seq ?_
         refine ex_region_w tt_ok 176 (rp 137 0 [1,1,1,1,2]) [] rfl rfl fun K hK => ?_
         try simp only [ltb]
         try simp only [ltb]
         simp only [length_encFds,length_encTys,go_sem,reduceIte,reduceAdd,reduceLT,reduceLeDiff,reduceMul,reduceEqDiff,reduceSub,reduceCtorEq,List.take_length]
         refine hK _ _ rfl ?_
         simp only [mwb,reduceAdd,reduceEqDiff]
         refine ex_if rfl (fun hc141 => ?_) (fun hc141 => ?_)
         ·have hlti : i < (t.flds.length) := by simpa using hc141
          refine ex_skip ?_
          show Go.Eng.Ex _ _ _ _ _ _
          refine ex_seq ?_
          refine ex_block ?_
          refine ex_region_w tt_ok 176 (rp 144 0 [1,1,1,1,1,1,1,2]) [] rfl rfl fun K hK => ?_
          try simp only [ltb]
          refine runX_cut 3 fun K1 hK1 => ?_
          simp only [ltb]
          simp only [hlti,length_encFds,length_encTys,go_sem,reduceIte,reduceAdd,reduceLT,reduceLeDiff,reduceMul,reduceEqDiff,reduceSub,reduceCtorEq,List.take_length]
          refine hK1 _ ?_
          obtain ⟨f, hx⟩ : ∃ f, t.flds[i]? = some f := ⟨_, List.getElem?_eq_getElem hlti⟩
          refine runX_cut 4 fun K1 hK1 => ?_
          simp only [ltb]
          simp only [hlti,hx,get_encFds,encFd_eq,encTy_eq,tyCells,length_encFds,length_encTys,go_sem,reduceIte,reduceAdd,reduceLT,reduceLeDiff,reduceMul,reduceEqDiff,reduceSub,reduceCtorEq,List.take_length]
          refine callF_ex (risName_tot _) ?_
          rintro _ ⟨r6, rfl⟩
          try simp only [hlti,hx,get_encFds,encFd_eq,encTy_eq,tyCells,length_encFds,length_encTys,go_sem,reduceIte,reduceAdd,reduceLT,reduceLeDiff,reduceMul,reduceEqDiff,reduceSub,reduceCtorEq,List.take_length]
          refine hK1 _ ?_
          try simp only [ltb]
          simp only [hlti,hx,get_encFds,encFd_eq,encTy_eq,tyCells,length_encFds,length_encTys,go_sem,reduceIte,reduceAdd,reduceLT,reduceLeDiff,reduceMul,reduceEqDiff,reduceSub,reduceCtorEq,List.take_length]
          refine hK _ _ rfl ?_
          simp only [mwb,reduceAdd,reduceEqDiff]
          refine ex_if rfl (fun hc151 => ?_) (fun hc151 => ?_)
          ·refine ex_region_w tt_ok 176 [0,0,2] [] rfl rfl fun K hK => ?_
           try simp only [ltb]
           try simp only [ltb]
           simp only [hlti,hx,get_encFds,encFd_eq,encTy_eq,tyCells,length_encFds,length_encTys,go_sem,reduceIte,reduceAdd,reduceLT,reduceLeDiff,reduceMul,reduceEqDiff,reduceSub,reduceCtorEq,List.take_length]
           refine hK _ _ rfl ?_
           simp only [mwb,reduceAdd,reduceEqDiff]
           refine ex_ret ?_
           first
            | exact ⟨.inl rfl, _, ⟨1, rfl, fun h => absurd h (by decide)⟩, rfl⟩
            | exact ⟨.inl rfl, _, ⟨7, rfl, fun h => absurd h (by decide)⟩, rfl⟩
            | exact ⟨.inl rfl, _, ⟨4, rfl, fun h => absurd h (by decide)⟩, rfl⟩
            | exact ⟨.inl rfl, _, ⟨0, rfl, fun _ => h9⟩, rfl⟩
            | exact ⟨.inl rfl, _, ⟨_, rfl, fun h => by simp_all⟩, rfl⟩
          ·refine ex_skip ?_
           show Go.Eng.Ex _ _ _ _ _ _
           refine ex_last_region_w tt_ok 176 (0::0::0::0::0::0::2::(rp 135 0 [2,2])) [] (by kernel_rfl) rfl rfl fun K hK => ?_
           try simp only [ltb]
           try simp only [ltb]
           simp only [hlti,hx,get_encFds,encFd_eq,encTy_eq,tyCells,length_encFds,length_encTys,go_sem,reduceIte,reduceAdd,reduceLT,reduceLeDiff,reduceMul,reduceEqDiff,reduceSub,reduceCtorEq,List.take_length]
           refine hK _ _ rfl ?_
           simp only [mwb,reduceAdd,reduceEqDiff]
           have hwi := i64_succ i (by omega)
           refine ⟨hlti, 1, (false::true::true::false::false::false::true::(rp 9 false (true::false::false::false::false::false::false::false::true::(rp 12 false (true::(rp 39 false (true::false::false::false::false::true::(rp 12 false (true::(rp 14 false (true::(rp 25 false [true])))))))))))), by omega, by simp only [maskFr,belowV,belowL,belowB,reduceLT,mkb], by simp only [maskFr,belowV,belowL,belowB,reduceLT,mkb], ?_⟩
           simp only [hwi,maskFr,belowV,belowL,belowB,reduceLT,List.set_cons_zero,List.set_cons_succ,mkb]
         ·have hgei : ¬ i < (t.flds.length) := by simpa using hc141
          refine ex_exit ?_
          refine ⟨[], ?_, 1, (false::true::(rp 14 false (true::false::false::false::false::false::false::false::true::(rp 12 false (true::(rp 39 false (true::false::false::false::false::true::(rp 12 false (true::(rp 14 false (true::(rp 25 false [true])))))))))))), by omega, by simp only [maskFr,belowV,belowL,belowB,reduceLT,mkb], by simp only [maskFr,belowV,belowL,belowB,reduceLT,mkb], by simp only [maskFr,belowV,belowL,belowB,reduceLT,putAll,List.set_cons_zero,List.set_cons_succ,mkb]⟩
          rfl
        ·intro vs hJ
         obtain rfl := hJ
         simp only [maskFr,belowV,belowL,belowB,reduceLT,putAll,List.set_cons_zero,List.set_cons_succ,mkb]
         refine ex_seq_joinK [] 1 (false::true::(rp 14 false (true::false::false::false::false::false::false::false::true::(rp 12 false (true::(rp 39 false (true::false::false::false::false::true::(rp 12 false (true::(rp 14 false (true::(rp 25 false (true::false::false::false::false::true::(rp 9 false [true])))))))))))))) (fun vs => vs = []) ?_ ?_
         ·refine ex_region_w tt_ok 176 [0,0,0,0,0,0,0,2] [] rfl rfl fun K hK => ?_
          try simp only [ltb]
          try simp only [ltb]
          simp only [length_encFds,length_encTys,go_sem,reduceIte,reduceAdd,reduceLT,reduceLeDiff,reduceMul,reduceEqDiff,reduceSub,reduceCtorEq,List.take_length]
          refine hK _ _ rfl ?_
          simp only [mwb,reduceAdd,reduceEqDiff]
          refine ex_block ?_
          refine ex_loopK [7] [num 1] 1 (false::true::true::false::false::false::false::true::(rp 8 false (true::false::false::false::false::false::false::false::true::(rp 12 false (true::(rp 39 false (true::false::false::false::false::true::(rp 12 false (true::(rp 14 false (true::(rp 25 false (true::false::false::false::false::true::(rp 9 false [true])))))))))))))) (fun vs => ((t.flds.length : Int) - Go.Eng.intOf (vs.headD .undef)).toNat) (fun vs => ∃ i : Nat, vs = [num i] ∧ 1 ≤ i) (by omega) (by simp only [maskFr,belowV,belowL,belowB,reduceLT,mkb]) (by simp only [maskFr,belowV,belowL,belowB,reduceLT,mkb]) (by rfl) (⟨1, rfl, by omega⟩) fun vs hI => ?_
          obtain ⟨i, rfl, hi⟩ := hI
          simp only [maskFr,belowV,belowL,belowB,reduceLT,putAll,List.set_cons_zero,List.set_cons_succ,mkb]
          refine ex_seq ?_
          refine ex_region_w tt_ok 176 (rp 152 0 [1,1,1,1,2]) [] rfl rfl fun K hK => ?_
          try simp only [ltb]
          try simp only [ltb]
          simp only [length_encFds,length_encTys,go_sem,reduceIte,reduceAdd,reduceLT,reduceLeDiff,reduceMul,reduceEqDiff,reduceSub,reduceCtorEq,List.take_length]
          refine hK _ _ rfl ?_
          simp only [mwb,reduceAdd,reduceEqDiff]
          refine ex_if rfl (fun hc156 => ?_) (fun hc156 => ?_)
          ·have hlt : i < t.flds.length := by simpa using hc156
           obtain ⟨x, hx⟩ : ∃ x, t.flds[i - 1]? = some x := ⟨_, List.getElem?_eq_getElem (by omega)⟩
           obtain ⟨y, hy⟩ : ∃ y, t.flds[i]? = some y := ⟨_, List.getElem?_eq_getElem hlt⟩
           have hw := i64_succ i (by omega)
           have hwm : IntKind.i64.wrap ((i : Int) - 1) = ((i - 1 : Nat) : Int) := by rw [IntWalk.i64_in _ (by omega)]; omega
           refine ex_skip ?_
           show Go.Eng.Ex _ _ _ _ _ _
           refine ex_seq ?_
           refine ex_block ?_
           refine ex_mixed_w tt_ok mixed_ok 176 [0,0,0,0,0,0,0,0,2,0,0,0,0,0,0,0,0,0,0,0,0,0,0,0,0,0,0,0,0,0,0,0,0,0,0,0,0,0,0,0,0,0,0,0,0,0,0,0,0,0,0,0,0,0,0,0,0,0,0,0,0,0,0,0,0,0,0,0,0,0,0,0,0,0,0,0,0,0,0,0,0,0,0,0,0,0,0,0,0,0,0,0,0,0,0,0,0,0,0,0,0,0,0,0,0,0,0,0,0,0,0,0,0,0,0,0,0,0,0,0,0,0,0,0,0,0,0,0,0,0,0,0,0,0,0,0,0,0,0,0,0,0,0,0,0,0,0,0,0,0,0,0,0,0,0,0,0,0,0,1,1,1,1,1,1,1,1,1,1,1,1,1,1] (by kernel_rfl) [⟨.n, 0, [], []⟩, ⟨.r, 0, [], []⟩, ⟨.n, 0, [], []⟩, ⟨.n, 0, [], []⟩, ⟨.r, 0, [], []⟩, ⟨.n, 0, [], []⟩, ⟨.r, 0, [], []⟩, ⟨.n, 0, [], []⟩, ⟨.r, 0, [], []⟩, ⟨.n, 0, [], []⟩, ⟨.r, 0, [], []⟩, ⟨.n, 0, [], []⟩, ⟨.r, 0, [], []⟩, ⟨.n, 0, [], []⟩, ⟨.n, 0, [], []⟩] 0 (by kernel_rfl) fun K hK => ?_
           try simp only [ltb,List.replicate_zero,List.replicate_succ]
           refine runM_cut 6 (by simp) (by simp) fun K1 hK1 => ?_
           try simp only [ltb]
           simp only [hw,hwm,hx,hy,get_encFds,encFd_eq,encTy_eq,tyCells,length_encFds,length_encTys,go_sem,reduceIte,reduceAdd,reduceLT,reduceLeDiff,reduceMul,reduceEqDiff,reduceSub,reduceCtorEq,List.take_length,List.replicate]
           refine hK1 _ ?_
           refine runM_cut 6 (by simp) (by simp) fun K1 hK1 => ?_
           try simp only [ltb]
           simp only [hw,hwm,hx,hy,get_encFds,encFd_eq,encTy_eq,tyCells,length_encFds,length_encTys,go_sem,reduceIte,reduceAdd,reduceLT,reduceLeDiff,reduceMul,reduceEqDiff,reduceSub,reduceCtorEq,List.take_length,List.replicate]
           refine hK1 _ ?_
           refine runM_cut 2 (by simp) (by simp) fun K1 hK1 => ?_
           try simp only [ltb]
           simp only [hw,hwm,hx,hy,get_encFds,encFd_eq,encTy_eq,tyCells,length_encFds,length_encTys,go_sem,reduceIte,reduceAdd,reduceLT,reduceLeDiff,reduceMul,reduceEqDiff,reduceSub,reduceCtorEq,List.take_length,List.replicate]
           refine callD_ex rfl (neigh_tot _ _) ?_
           rintro _ ⟨r7, rfl⟩
           try simp only [hw,hwm,hx,hy,get_encFds,encFd_eq,encTy_eq,tyCells,length_encFds,length_encTys,go_sem,reduceIte,reduceAdd,reduceLT,reduceLeDiff,reduceMul,reduceEqDiff,reduceSub,reduceCtorEq,List.take_length,List.replicate]
           refine hK1 _ ?_
           try simp only [ltb]
           simp only [hw,hwm,hx,hy,get_encFds,encFd_eq,encTy_eq,tyCells,length_encFds,length_encTys,go_sem,reduceIte,reduceAdd,reduceLT,reduceLeDiff,reduceMul,reduceEqDiff,reduceSub,reduceCtorEq,List.take_length,List.replicate]
           refine hK _ _ rfl ?_
           simp only [mwb,reduceAdd,reduceEqDiff]
           refine ex_region_w tt_ok 176 (rp 173 0 [1,2]) [] rfl rfl fun K hK => ?_
           try simp only [ltb]
           try simp only [ltb]
           simp only [hw,hwm,hx,hy,get_encFds,encFd_eq,encTy_eq,tyCells,length_encFds,length_encTys,go_sem,reduceIte,reduceAdd,reduceLT,reduceLeDiff,reduceMul,reduceEqDiff,reduceSub,reduceCtorEq,List.take_length]
           refine hK _ _ rfl ?_
           simp only [mwb,reduceAdd,reduceEqDiff]
           refine ex_if rfl (fun hc174 => ?_) (fun hc174 => ?_)
           ·refine ex_region_w tt_ok 176 (0::0::2::(rp 172 0 [1])) [] rfl rfl fun K hK => ?_
            try simp only [ltb]
            try simp only [ltb]
            simp only [hw,hwm,hx,hy,get_encFds,encFd_eq,encTy_eq,tyCells,length_encFds,length_encTys,go_sem,reduceIte,reduceAdd,reduceLT,reduceLeDiff,reduceMul,reduceEqDiff,reduceSub,reduceCtorEq,List.take_length]
            refine hK _ _ rfl ?_
            simp only [mwb,reduceAdd,reduceEqDiff]
            refine ex_ret ?_
            first
             | exact ⟨.inl rfl, _, ⟨1, rfl, fun h => absurd h (by decide)⟩, rfl⟩
             | exact ⟨.inl rfl, _, ⟨7, rfl, fun h => absurd h (by decide)⟩, rfl⟩
             | exact ⟨.inl rfl, _, ⟨4, rfl, fun h => absurd h (by decide)⟩, rfl⟩
             | exact ⟨.inl rfl, _, ⟨0, rfl, fun _ => h9⟩, rfl⟩
             | exact ⟨.inl rfl, _, ⟨_, rfl, fun h => by simp_all⟩, rfl⟩
           ·refine ex_skip ?_
            show Go.Eng.Ex _ _ _ _ _ _
            refine ex_last_region_w tt_ok 176 (0::0::0::0::0::0::0::2::(rp 149 0 [2,2])) [] (by kernel_rfl) rfl rfl fun K hK => ?_
            try simp only [ltb]
            try simp only [ltb]
            simp only [hw,hwm,hx,hy,get_encFds,encFd_eq,encTy_eq,tyCells,length_encFds,length_encTys,go_sem,reduceIte,reduceAdd,reduceLT,reduceLeDiff,reduceMul,reduceEqDiff,reduceSub,reduceCtorEq,List.take_length]
            refine hK _ _ rfl ?_
            simp only [mwb,reduceAdd,reduceEqDiff]
            refine ⟨[_], ?_, ?_, 1, (false::true::true::false::false::false::false::true::(rp 8 false (true::false::false::false::false::false::false::false::true::(rp 12 false (true::(rp 39 false (true::false::false::false::false::true::(rp 12 false (true::(rp 14 false (true::(rp 25 false (true::false::false::false::false::true::(rp 9 false [true])))))))))))))), by omega, by simp only [maskFr,belowV,belowL,belowB,reduceLT,mkb], by simp only [maskFr,belowV,belowL,belowB,reduceLT,mkb], by simp only [maskFr,belowV,belowL,belowB,reduceLT,putAll,List.set_cons_zero,List.set_cons_succ,mkb]; rfl⟩
            ·exact ⟨i + 1, rfl, by omega⟩
            ·simp only [Go.Eng.intOf,List.headD_cons]; omega
          ·refine ex_exit ?_
           refine ⟨[], ?_, 1, (false::true::(rp 14 false (true::false::false::false::false::false::false::false::true::(rp 12 false (true::(rp 39 false (true::false::false::false::false::true::(rp 12 false (true::(rp 14 false (true::(rp 25 false (true::false::false::false::false::true::(rp 9 false [true])))))))))))))), by omega, by simp only [maskFr,belowV,belowL,belowB,reduceLT,mkb], by simp only [maskFr,belowV,belowL,belowB,reduceLT,mkb], by simp only [maskFr,belowV,belowL,belowB,reduceLT,putAll,List.set_cons_zero,List.set_cons_succ,mkb]⟩
           rfl
         ·intro vs hJ
          obtain rfl := hJ
          simp only [maskFr,belowV,belowL,belowB,reduceLT,putAll,List.set_cons_zero,List.set_cons_succ,mkb]
          refine ex_region_w tt_ok 176 [0,0,2] [] rfl rfl fun K hK => ?_
          try simp only [ltb]
          try simp only [ltb]
          simp only [length_encFds,length_encTys,go_sem,reduceIte,reduceAdd,reduceLT,reduceLeDiff,reduceMul,reduceEqDiff,reduceSub,reduceCtorEq,List.take_length]
          refine hK _ _ rfl ?_
          simp only [mwb,reduceAdd,reduceEqDiff]
          refine ex_ret ?_
          first
           | exact ⟨.inl rfl, _, ⟨1, rfl, fun h => absurd h (by decide)⟩, rfl⟩
           | exact ⟨.inl rfl, _, ⟨7, rfl, fun h => absurd h (by decide)⟩, rfl⟩
           | exact ⟨.inl rfl, _, ⟨4, rfl, fun h => absurd h (by decide)⟩, rfl⟩
           | exact ⟨.inl rfl, _, ⟨0, rfl, fun _ => h9⟩, rfl⟩
           | exact ⟨.inl rfl, _, ⟨_, rfl, fun h => by simp_all⟩, rfl⟩
end Go.Proofs.YtpjdfcigadnhcaaGreatDoor
end

section
namespace Go.Proofs.YtpjdfcigadnhcaaGreatDoor
open Go.Eng
variable [Glob]
def pickT (ns : List ByteArray) (us : List Ty) (n : ByteArray) : Option Ty := match ns.findIdx? (fun m => n.toList == m.toList) with
 | some i => us[i]?
 | none => none
mutual
def Ty.subst (ns : List ByteArray) (us : List Ty) : Ty → Ty
 | .mk k m n ts fs => match (if k = 9 then pickT ns us n else none) with
  | some u => u
  | none => .mk k m n (substTys ns us ts) (substFds ns us fs)
def substTys (ns : List ByteArray) (us : List Ty) : List Ty → List Ty
 | [] => []
 | t :: r => t.subst ns us :: substTys ns us r
def Fd.subst (ns : List ByteArray) (us : List Ty) : Fd → Fd
 | .mk n t o => .mk n (t.subst ns us) o
def substFds (ns : List ByteArray) (us : List Ty) : List Fd → List Fd
 | [] => []
 | f :: r => f.subst ns us :: substFds ns us r
end
theorem substTys_map (ns : List ByteArray) (us : List Ty) (ts : List Ty) : substTys ns us ts = ts.map (Ty.subst ns us) := by induction ts with | nil => rfl | cons t r ih => simp [substTys, ih]
theorem substFds_map (ns : List ByteArray) (us : List Ty) (fs : List Fd) : substFds ns us fs = fs.map (Fd.subst ns us) := by induction fs with | nil => rfl | cons t r ih => simp [substFds, ih]
theorem Ty.subst_eq (ns : List ByteArray) (us : List Ty) (t : Ty) : t.subst ns us = match (if t.kind = 9 then pickT ns us t.name else none) with
  | some u => u
  | none => .mk t.kind t.mod t.name (t.args.map (Ty.subst ns us)) (t.flds.map (Fd.subst ns us)) := by
 obtain ⟨k, m, n, ts, fs⟩ := t
 rw [Ty.subst, substTys_map, substFds_map]
 rfl
theorem Fd.subst_eq (ns : List ByteArray) (us : List Ty) (f : Fd) : f.subst ns us = .mk f.name (f.ty.subst ns us) f.opt := by
 obtain ⟨n, t, o⟩ := f
 rw [Fd.subst]; rfl
theorem Ty.eta (t : Ty) : Ty.mk t.kind t.mod t.name t.args t.flds = t := by obtain ⟨k, m, n, ts, fs⟩ := t; rfl
theorem Fd.eta (f : Fd) : Fd.mk f.name f.ty f.opt = f := by obtain ⟨n, t, o⟩ := f; rfl
theorem Ty.induct {p : Ty → Prop} (h : ∀ t : Ty, (∀ u ∈ t.parts, p u) → p t) : ∀ t, p t := by
 have key : ∀ (N : Nat) (t : Ty), t.size ≤ N → p t := by
  intro N
  induction N with
  | zero => intro t ht; have := t.size_pos; omega
  | succ N ih =>
   intro t ht
   refine h t fun u hu => ih u ?_
   obtain ⟨i, hi⟩ := List.mem_iff_getElem?.1 hu
   have e1 := sumBy_mem Ty.size hi
   have e2 := t.size_parts
   omega
 exact fun t => key t.size t (Nat.le_refl _)
theorem Ty.arg_part {t u : Ty} (h : u ∈ t.args) : u ∈ t.parts := List.mem_append_left _ h
theorem Ty.fld_part {t : Ty} {f : Fd} (h : f ∈ t.flds) : f.ty ∈ t.parts := List.mem_append_right _ (List.mem_map.2 ⟨f, h, rfl⟩)
def Ty.vars (t : Ty) : List ByteArray := (t.nodes.filter fun u => decide (u.kind = 9)).map Ty.name
theorem Ty.vars_eq (t : Ty) : t.vars = (if t.kind = 9 then [t.name] else []) ++ t.parts.flatMap Ty.vars := by
 unfold Ty.vars
 rw [t.nodes_eq, List.filter_cons]
 have h : (List.filter (fun u => decide (u.kind = 9)) (t.parts.flatMap Ty.nodes)).map Ty.name = t.parts.flatMap fun t => (t.nodes.filter fun u => decide (u.kind = 9)).map Ty.name := by
  induction t.parts with
  | nil => rfl
  | cons a r ih => simp only [List.flatMap_cons,List.filter_append,List.map_append,ih]
 split
 ·rename_i hk
  have hk := of_decide_eq_true hk
  rw [if_pos hk, List.map_cons, h]; rfl
 ·rename_i hk
  have hk : ¬ t.kind = 9 := fun e => hk (by rw [e]; rfl)
  rw [if_neg hk, h]; rfl
theorem tl_eq {a b : ByteArray} (h : a.toList = b.toList) : a = b := by
 rw [ByteArray.toList_eq, ByteArray.toList_eq] at h
 exact ByteArray.ext (Array.toList_inj.1 h)
theorem Ty.subst_id (ns : List ByteArray) (us : List Ty) : ∀ t : Ty, (∀ v ∈ t.vars, pickT ns us v = none) → t.subst ns us = t := by
 refine Ty.induct fun t ih h => ?_
 rw [t.vars_eq] at h
 have e0 : (if t.kind = 9 then pickT ns us t.name else none) = none := by
  split
  ·rename_i hk; exact h _ (by rw [if_pos hk]; simp)
  ·rfl
 have hp : ∀ u ∈ t.parts, u.subst ns us = u := fun u hu => ih u hu fun v hv => h v (List.mem_append_right _ (List.mem_flatMap.2 ⟨u, hu, hv⟩))
 rw [t.subst_eq, e0]
 dsimp only
 have e1 : t.args.map (Ty.subst ns us) = t.args := by
  conv => rhs; rw [← List.map_id t.args]
  exact List.map_congr_left fun u hu => hp u (Ty.arg_part hu)
 have e2 : t.flds.map (Fd.subst ns us) = t.flds := by
  conv => rhs; rw [← List.map_id t.flds]
  exact List.map_congr_left fun f hf => by rw [Fd.subst_eq, hp _ (Ty.fld_part hf), Fd.eta]; rfl
 rw [e1, e2, Ty.eta]
theorem Ty.subst_nil (t : Ty) (us : List Ty) : t.subst [] us = t := Ty.subst_id _ _ t fun v _ => rfl
theorem pickT_one (x n : ByteArray) (u : Ty) : pickT [x] [u] n = if (n.toList == x.toList) = true then some u else none := by
 unfold pickT
 by_cases h : (n.toList == x.toList) = true
 ·simp [h]
 ·simp [h]
end Go.Proofs.YtpjdfcigadnhcaaGreatDoor
end

section
namespace Go.Proofs.YtpjdfcigadnhcaaGreatDoor
open Go.Eng
open Nat (reduceAdd reduceLT reduceLeDiff reduceMul reduceEqDiff reduceSub)
variable [Glob]
set_option maxHeartbeats 4000000
set_option maxRecDepth 100000
attribute [local irreducible] runM stepM valD stepOp stepD callF callS
abbrev Us := ByteArray × ByteArray
def encU (u : Us) : V := .agg [str u.1, str u.2]
theorem scRunP_seq2 {P : Program} {T : TypeId} (hT : P.underlying T = some .string) (d : Nat) (a b : ByteArray) : scRunP P (Op.equalIn (d + 1) T (.string a) (.string b)) = some (a == b) := by
 rw [Op.equalIn, scRunP_bind, scRunP_underlying hT]
 rfl
theorem eq65 (a b c d : ByteArray) : scRunP Tryz.prog (Op.equal 65 (.agg #[.string a, .string b]) (.agg #[.string c, .string d])) = some (a == c && b == d) := by
 show scRunP Tryz.prog (Op.equalIn (9999 + 1) 65 _ _) = _
 have h1 := scRunP_seq2 Tryz.underlying9 9998 a c
 have h2 := scRunP_seq2 Tryz.underlying9 9998 b d
 have hs : Tryz.prog.stoodInHeld 65 = false := by kernel_rfl
 have hp1 : ∀ x y, scRunP Tryz.prog (part 9 #[x, y] 0) = some x := fun x y => by kernel_rfl
 have hp2 : ∀ x y, scRunP Tryz.prog (part 9 #[x, y] 1) = some y := fun x y => by kernel_rfl
 rw [Op.equalIn, scRunP_bind, scRunP_underlying Tryz.underlying65]
 dsimp only [Option.bind_some]
 rw [scRunP_bind]
 show ((some Tryz.prog).bind _) = _
 rw [Option.bind_some, if_neg (by rw [hs]; simp)]
 rw [← Array.forIn_toList]
 have n1 : ("Module" ≠ "_") := by decide
 have n2 : ("Name" ≠ "_") := by decide
 have q1 : scRunP Tryz.prog (Op.equalIn 9999 9 (Value.string a) (Value.string c)) = some (a == c) := h1
 have q2 : scRunP Tryz.prog (Op.equalIn 9999 9 (Value.string b) (Value.string d)) = some (b == d) := h2
 have pr : ∀ {α : Type} (x : α), scRunP Tryz.prog (pure x : Sem α) = some x := fun x => rfl
 simp only [List.forIn_cons,List.forIn_nil,scRunP_bind,if_pos n1,if_pos n2,hp1,hp2,Option.bind_some,q1,pr]
 cases hac : (a == c)
 ·simp [pr, Option.bind_some]
 ·simp only [Bool.not_true,Bool.false_eq_true,if_false,pr,Option.bind_some,scRunP_bind,if_pos n2,hp2,q2,Bool.true_and]
  cases hbd : (b == d) <;> simp [pr, scRunP_bind]
theorem us_beq (u v : Us) : (u.1 == v.1 && u.2 == v.2) = decide (u = v) := by
 rw [Bool.eq_iff_iff, Bool.and_eq_true, baBeq_iff, baBeq_iff, decide_eq_true_eq, Prod.ext_iff]
theorem ev_usneq (x y : Operand) (u v : Us) : lift2 Tryz.prog (opB .neq 65 x y) (.agg [str u.1, str u.2]) (.agg [str v.1, str v.2]) = some (bl (!decide (u = v))) := by
 have : scRunP Tryz.prog (do eqGuard .neq 65 x y (.agg #[.string u.1, .string u.2]) (.agg #[.string v.1, .string v.2]); binOp .neq 65 (.agg #[.string u.1, .string u.2]) (.agg #[.string v.1, .string v.2])) = some (.bool (!decide (u = v))) := by
  have hg : scRunP Tryz.prog (eqGuard .neq 65 x y (.agg #[.string u.1, .string u.2]) (.agg #[.string v.1, .string v.2])) = some () := by kernel_rfl
  rw [scRunP_bind, hg, Option.bind_some]
  have hb : ∀ u v : Array Value, binOp .neq 65 (.agg u) (.agg v) = (Op.equal 65 (.agg u) (.agg v) >>= fun r => Pure.pure (Value.bool !r)) := fun u v => rfl
  rw [hb, scRunP_bind, eq65, us_beq]; rfl
 simp only [lift2,toVal,allSc,opB]
 rw [this]; rfl
theorem ev_useql (x y : Operand) (u v : Us) : lift2 Tryz.prog (opB .eql 65 x y) (.agg [str u.1, str u.2]) (.agg [str v.1, str v.2]) = some (bl (decide (u = v))) := by
 have : scRunP Tryz.prog (do eqGuard .eql 65 x y (.agg #[.string u.1, .string u.2]) (.agg #[.string v.1, .string v.2]); binOp .eql 65 (.agg #[.string u.1, .string u.2]) (.agg #[.string v.1, .string v.2])) = some (.bool (decide (u = v))) := by
  have hg : scRunP Tryz.prog (eqGuard .eql 65 x y (.agg #[.string u.1, .string u.2]) (.agg #[.string v.1, .string v.2])) = some () := by kernel_rfl
  rw [scRunP_bind, hg, Option.bind_some]
  have hb : ∀ u v : Array Value, binOp .eql 65 (.agg u) (.agg v) = (Op.equal 65 (.agg u) (.agg v) >>= fun r => Pure.pure (Value.bool r)) := fun u v => rfl
  rw [hb, scRunP_bind, eq65, us_beq]; rfl
 simp only [lift2,toVal,allSc,opB]
 rw [this]; rfl
theorem eq_of_get {α : Type} {xs ys : List α} (hl : xs.length = ys.length) (h : ∀ j < xs.length, xs[j]? = ys[j]?) : xs = ys := by
 apply List.ext_getElem?
 intro j
 rcases Nat.lt_or_ge j xs.length with hj | hj
 ·exact h j hj
 ·rw [List.getElem?_eq_none hj, List.getElem?_eq_none (by omega)]
def ltS (a b : ByteArray) : Bool := Op.bytesLess a.toList b.toList
def ltU (u v : Us) : Bool := ltS u.1 v.1 || decide (u.1 = v.1) && ltS u.2 v.2
theorem str_beq (a b : ByteArray) : (a.toList == b.toList) = decide (a = b) := by
 rw [Bool.eq_iff_iff, beq_iff_eq, decide_eq_true_eq]
 exact ⟨tl_eq, fun e => by rw [e]⟩
theorem sEqual_ex (xs ys : List ByteArray) (hl : xs.length ≤ 1048576) : ∃ r, (fun v => v = bl (decide (xs = ys))) r ∧ FnOk Tryz.prog 36 [.slice (xs.map str), .slice (ys.map str)] r := by
 refine fn_ex tt_ok (fn := Tryz.f36) Tryz.func36 rfl Tryz.call36 ?_
 simp only [ltb,startSt,Tryz.ntmps36,List.length_cons,List.length_nil,reduceAdd,reduceSub,List.replicate_succ,List.replicate_zero]
 refine ex_region_w tt_ok 26 [0,0,0,0,2] [] rfl rfl fun K hK => ?_
 try simp only [ltb]
 try simp only [ltb]
 simp only [List.length_map,go_sem,reduceIte,reduceAdd,reduceLT,reduceLeDiff,reduceMul,reduceEqDiff,reduceSub,reduceCtorEq,List.take_length]
 refine hK _ _ rfl ?_
 simp only [mwb,reduceAdd,reduceEqDiff]
 refine ex_seq ?_
 refine ex_region_w tt_ok 26 [0,0,0,0,0,0,1,1,1,1,2] [] rfl rfl fun K hK => ?_
 try simp only [ltb]
 try simp only [ltb]
 simp only [List.length_map,go_sem,reduceIte,reduceAdd,reduceLT,reduceLeDiff,reduceMul,reduceEqDiff,reduceSub,reduceCtorEq,List.take_length]
 refine hK _ _ rfl ?_
 simp only [mwb,reduceAdd,reduceEqDiff]
 refine ex_if rfl (fun hc10 => ?_) (fun hc10 => ?_)
 ·have hres : false = decide (xs = ys) := (decide_eq_false fun e => by subst e; simp at hc10).symm
  refine ex_region_w tt_ok 26 [0,0,0,0,2] [] rfl rfl fun K hK => ?_
  try simp only [ltb]
  try simp only [ltb]
  simp only [List.length_map,go_sem,reduceIte,reduceAdd,reduceLT,reduceLeDiff,reduceMul,reduceEqDiff,reduceSub,reduceCtorEq,List.take_length]
  refine hK _ _ rfl ?_
  simp only [mwb,reduceAdd,reduceEqDiff]
  exact ex_ret ⟨.inl rfl, _, congrArg bl hres, rfl⟩
 ·have hlen : xs.length = ys.length := by have h := hc10; simp at h; omega
  refine ex_skip ?_
  show Go.Eng.Ex _ _ _ _ _ _
  refine ex_seq ?_
  refine ex_region_w tt_ok 26 (rp 11 0 [1,2,2]) [] rfl rfl fun K hK => ?_
  try simp only [ltb]
  try simp only [ltb]
  simp only [List.length_map,go_sem,reduceIte,reduceAdd,reduceLT,reduceLeDiff,reduceMul,reduceEqDiff,reduceSub,reduceCtorEq,List.take_length]
  refine hK _ _ rfl ?_
  simp only [mwb,reduceAdd,reduceEqDiff]
  refine ex_block ?_
  refine ex_loopK [13] [num 0] 0 [true,true,false,false,true,false,false,false,false,false,true,false,true,true] (fun vs => ((xs.length : Int) - intOf (vs.headD .undef)).toNat) (fun vs => ∃ i : Nat, vs = [num i] ∧ i ≤ xs.length ∧ ∀ j < i, xs[j]? = ys[j]?) (by omega) (by simp only [maskFr,belowV,belowL,belowB,reduceLT,mkb]) (by simp only [maskFr,belowV,belowL,belowB,reduceLT,mkb]) (by rfl) (⟨0, rfl, Nat.zero_le _, fun j hj => absurd hj (Nat.not_lt_zero j)⟩) fun vs hI => ?_
  obtain ⟨i, rfl, hi, hno⟩ := hI
  simp only [maskFr,belowV,belowL,belowB,reduceLT,putAll,List.set_cons_zero,List.set_cons_succ,mkb]
  refine ex_region_w tt_ok 26 (rp 14 0 [2]) [] rfl rfl fun K hK => ?_
  try simp only [ltb]
  try simp only [ltb]
  simp only [List.length_map,go_sem,reduceIte,reduceAdd,reduceLT,reduceLeDiff,reduceMul,reduceEqDiff,reduceSub,reduceCtorEq,List.take_length]
  refine hK _ _ rfl ?_
  simp only [mwb,reduceAdd,reduceEqDiff]
  refine ex_seq ?_
  refine ex_if rfl (fun hc14 => ?_) (fun hc14 => ?_)
  ·have hlt : i < xs.length := by simpa using hc14
   obtain ⟨x, hx⟩ : ∃ x, xs[i]? = some x := ⟨_, List.getElem?_eq_getElem hlt⟩
   obtain ⟨y, hy⟩ : ∃ y, ys[i]? = some y := ⟨_, List.getElem?_eq_getElem (by omega)⟩
   have hw := i64_succ i (by omega)
   refine ex_skip ?_
   show Go.Eng.Ex _ _ _ _ _ _
   refine ex_seq ?_
   refine ex_block ?_
   refine ex_region_w tt_ok 26 [0,0,0,0,0,2,0,0,0,0,0,0,0,0,0,1] [] rfl rfl fun K hK => ?_
   try simp only [ltb]
   try simp only [ltb]
   simp only [List.getElem?_map,hx,hy,hw,List.length_map,go_sem,reduceIte,reduceAdd,reduceLT,reduceLeDiff,reduceMul,reduceEqDiff,reduceSub,reduceCtorEq,List.take_length]
   refine hK _ _ rfl ?_
   simp only [mwb,reduceAdd,reduceEqDiff]
   refine ex_mixed_w tt_ok mixed_ok 26 [0,0,0,0,0,0,0,0,0,0,0,0,0,0,0,0,1,1,1,1,1,1,1,1,2] (by kernel_rfl) [⟨.n, 0, [], []⟩, ⟨.n, 0, [], []⟩, ⟨.r, 0, [], []⟩, ⟨.r, 0, [], []⟩, ⟨.n, 0, [], []⟩, ⟨.n, 0, [], []⟩, ⟨.r, 0, [], []⟩, ⟨.r, 0, [], []⟩, ⟨.n, 0, [], []⟩] 0 (by kernel_rfl) fun K hK => ?_
   try simp only [ltb,List.replicate_zero,List.replicate_succ]
   refine runM_cut 6 (by simp) (by simp) fun K1 hK1 => ?_
   try simp only [ltb]
   simp only [List.getElem?_map,hx,hy,hw,List.length_map,go_sem,reduceIte,reduceAdd,reduceLT,reduceLeDiff,reduceMul,reduceEqDiff,reduceSub,reduceCtorEq,List.take_length,List.replicate]
   refine hK1 _ ?_
   try simp only [ltb]
   simp only [List.getElem?_map,hx,hy,hw,List.length_map,go_sem,reduceIte,reduceAdd,reduceLT,reduceLeDiff,reduceMul,reduceEqDiff,reduceSub,reduceCtorEq,List.take_length,List.replicate]
   refine hK _ _ rfl ?_
   simp only [mwb,reduceAdd,reduceEqDiff]
   refine ex_if rfl (fun hc24 => ?_) (fun hc24 => ?_)
   ·have hxy : ¬ x = y := by have h := hc24; rw [str_beq] at h; simpa using h
    have hres : false = decide (xs = ys) := (decide_eq_false fun e => by subst e; rw [hx] at hy; exact hxy (Option.some.inj hy)).symm
    refine ex_region_w tt_ok 26 [0,0,0,0,2] [] rfl rfl fun K hK => ?_
    try simp only [ltb]
    try simp only [ltb]
    simp only [List.getElem?_map,hx,hy,hw,List.length_map,go_sem,reduceIte,reduceAdd,reduceLT,reduceLeDiff,reduceMul,reduceEqDiff,reduceSub,reduceCtorEq,List.take_length]
    refine hK _ _ rfl ?_
    simp only [mwb,reduceAdd,reduceEqDiff]
    exact ex_ret ⟨.inl rfl, _, congrArg bl hres, rfl⟩
   ·have hxy : x = y := by have h := hc24; rw [str_beq] at h; simpa using h
    refine ex_skip ?_
    show Go.Eng.Ex _ _ _ _ _ _
    refine ex_last_region_w tt_ok 26 (rp 13 0 (2::(rp 11 0 [2]))) [] (by kernel_rfl) rfl rfl fun K hK => ?_
    try simp only [ltb]
    try simp only [ltb]
    simp only [List.getElem?_map,hx,hy,hw,List.length_map,go_sem,reduceIte,reduceAdd,reduceLT,reduceLeDiff,reduceMul,reduceEqDiff,reduceSub,reduceCtorEq,List.take_length]
    refine hK _ _ rfl ?_
    simp only [mwb,reduceAdd,reduceEqDiff]
    refine ⟨[_], ?_, ?_, 0, [true,true,false,false,true,false,false,false,false,false,true,false,true,true], by omega, by simp only [maskFr,belowV,belowL,belowB,reduceLT,mkb], by simp only [maskFr,belowV,belowL,belowB,reduceLT,mkb], by simp only [maskFr,belowV,belowL,belowB,reduceLT,putAll,List.set_cons_zero,List.set_cons_succ,mkb]; rfl⟩
    ·refine ⟨i + 1, rfl, hlt, fun j hj => ?_⟩
     rcases Nat.lt_or_ge j i with h | h
     ·exact hno j h
     ·obtain rfl : j = i := by omega
      rw [hx, hy, hxy]
    ·simp only [intOf,List.headD_cons]; omega
  ·have hge : ¬ i < xs.length := by simpa using hc14
   have hres : true = decide (xs = ys) := (decide_eq_true (eq_of_get hlen fun j hj => hno j (by omega))).symm
   refine ex_exit ?_
   show Go.Eng.Ex _ _ _ _ _ _
   refine ex_region_w tt_ok 26 [0,0,0,0,2] [] rfl rfl fun K hK => ?_
   try simp only [ltb]
   try simp only [ltb]
   simp only [List.length_map,go_sem,reduceIte,reduceAdd,reduceLT,reduceLeDiff,reduceMul,reduceEqDiff,reduceSub,reduceCtorEq,List.take_length]
   refine hK _ _ rfl ?_
   simp only [mwb,reduceAdd,reduceEqDiff]
   exact ex_ret ⟨.inl rfl, _, congrArg bl hres, rfl⟩
theorem useEq_ex (xs ys : List Us) (hl : xs.length ≤ 1048576) : ∃ r, (fun v => v = bl (decide (xs = ys))) r ∧ FnOk Tryz.prog 38 [.slice (xs.map encU), .slice (ys.map encU)] r := by
 refine fn_ex tt_ok (fn := Tryz.f38) Tryz.func38 rfl Tryz.call38 ?_
 simp only [ltb,startSt,Tryz.ntmps38,List.length_cons,List.length_nil,reduceAdd,reduceSub,List.replicate_succ,List.replicate_zero]
 refine ex_region_w tt_ok 26 [0,0,0,0,2] [] rfl rfl fun K hK => ?_
 try simp only [ltb]
 try simp only [ltb]
 simp only [List.length_map,go_sem,reduceIte,reduceAdd,reduceLT,reduceLeDiff,reduceMul,reduceEqDiff,reduceSub,reduceCtorEq,List.take_length]
 refine hK _ _ rfl ?_
 simp only [mwb,reduceAdd,reduceEqDiff]
 refine ex_seq ?_
 refine ex_region_w tt_ok 26 [0,0,0,0,0,0,1,1,1,1,2] [] rfl rfl fun K hK => ?_
 try simp only [ltb]
 try simp only [ltb]
 simp only [List.length_map,go_sem,reduceIte,reduceAdd,reduceLT,reduceLeDiff,reduceMul,reduceEqDiff,reduceSub,reduceCtorEq,List.take_length]
 refine hK _ _ rfl ?_
 simp only [mwb,reduceAdd,reduceEqDiff]
 refine ex_if rfl (fun hc10 => ?_) (fun hc10 => ?_)
 ·have hres : false = decide (xs = ys) := (decide_eq_false fun e => by subst e; simp at hc10).symm
  refine ex_region_w tt_ok 26 [0,0,0,0,2] [] rfl rfl fun K hK => ?_
  try simp only [ltb]
  try simp only [ltb]
  simp only [List.length_map,go_sem,reduceIte,reduceAdd,reduceLT,reduceLeDiff,reduceMul,reduceEqDiff,reduceSub,reduceCtorEq,List.take_length]
  refine hK _ _ rfl ?_
  simp only [mwb,reduceAdd,reduceEqDiff]
  exact ex_ret ⟨.inl rfl, _, congrArg bl hres, rfl⟩
 ·have hlen : xs.length = ys.length := by have h := hc10; simp at h; omega
  refine ex_skip ?_
  show Go.Eng.Ex _ _ _ _ _ _
  refine ex_seq ?_
  refine ex_region_w tt_ok 26 [0,0,0,0,0,2] [] rfl rfl fun K hK => ?_
  try simp only [ltb]
  try simp only [ltb]
  simp only [List.length_map,go_sem,reduceIte,reduceAdd,reduceLT,reduceLeDiff,reduceMul,reduceEqDiff,reduceSub,reduceCtorEq,List.take_length]
  refine hK _ _ rfl ?_
  simp only [mwb,reduceAdd,reduceEqDiff]
  refine ex_block ?_
  refine ex_loopK [5] [num 0] 0 [true,true,false,false,true,true,false,false,false,false,true] (fun vs => ((xs.length : Int) - intOf (vs.headD .undef)).toNat) (fun vs => ∃ i : Nat, vs = [num i] ∧ i ≤ xs.length ∧ ∀ j < i, xs[j]? = ys[j]?) (by omega) (by simp only [maskFr,belowV,belowL,belowB,reduceLT,mkb]) (by simp only [maskFr,belowV,belowL,belowB,reduceLT,mkb]) (by rfl) (⟨0, rfl, Nat.zero_le _, fun j hj => absurd hj (Nat.not_lt_zero j)⟩) fun vs hI => ?_
  obtain ⟨i, rfl, hi, hno⟩ := hI
  simp only [maskFr,belowV,belowL,belowB,reduceLT,putAll,List.set_cons_zero,List.set_cons_succ,mkb]
  refine ex_seq ?_
  refine ex_region_w tt_ok 26 (rp 11 0 [1,1,1,2]) [] rfl rfl fun K hK => ?_
  try simp only [ltb]
  try simp only [ltb]
  simp only [List.length_map,go_sem,reduceIte,reduceAdd,reduceLT,reduceLeDiff,reduceMul,reduceEqDiff,reduceSub,reduceCtorEq,List.take_length]
  refine hK _ _ rfl ?_
  simp only [mwb,reduceAdd,reduceEqDiff]
  refine ex_if rfl (fun hc14 => ?_) (fun hc14 => ?_)
  ·have hlt : i < xs.length := by simpa using hc14
   obtain ⟨x, hx⟩ : ∃ x, xs[i]? = some x := ⟨_, List.getElem?_eq_getElem hlt⟩
   obtain ⟨y, hy⟩ : ∃ y, ys[i]? = some y := ⟨_, List.getElem?_eq_getElem (by omega)⟩
   have hw := i64_succ i (by omega)
   refine ex_skip ?_
   show Go.Eng.Ex _ _ _ _ _ _
   refine ex_seq ?_
   refine ex_block ?_
   refine ex_mixed_w tt_ok mixed_ok 26 [0,0,0,0,0,0,0,0,0,0,0,0,0,0,0,0,0,1,1,1,1,1,1,1,1,2] (by kernel_rfl) [⟨.n, 0, [], []⟩, ⟨.n, 0, [], []⟩, ⟨.r, 0, [], []⟩, ⟨.r, 0, [], []⟩, ⟨.n, 0, [], []⟩, ⟨.n, 0, [], []⟩, ⟨.r, 0, [], []⟩, ⟨.r, 0, [], []⟩, ⟨.n, 0, [], []⟩] 0 (by kernel_rfl) fun K hK => ?_
   try simp only [ltb,List.replicate_zero,List.replicate_succ]
   refine runM_cut 6 (by simp) (by simp) fun K1 hK1 => ?_
   try simp only [ltb]
   simp only [List.getElem?_map,hx,hy,hw,encU,ev_usneq,List.length_map,go_sem,reduceIte,reduceAdd,reduceLT,reduceLeDiff,reduceMul,reduceEqDiff,reduceSub,reduceCtorEq,List.take_length,List.replicate]
   refine hK1 _ ?_
   try simp only [ltb]
   simp only [List.getElem?_map,hx,hy,hw,encU,ev_usneq,List.length_map,go_sem,reduceIte,reduceAdd,reduceLT,reduceLeDiff,reduceMul,reduceEqDiff,reduceSub,reduceCtorEq,List.take_length,List.replicate]
   refine hK _ _ rfl ?_
   simp only [mwb,reduceAdd,reduceEqDiff]
   refine ex_if rfl (fun hc25 => ?_) (fun hc25 => ?_)
   ·have hxy : ¬ x = y := by have h := hc25; simpa using h
    have hres : false = decide (xs = ys) := (decide_eq_false fun e => by subst e; rw [hx] at hy; exact hxy (Option.some.inj hy)).symm
    refine ex_region_w tt_ok 26 [0,0,0,0,2] [] rfl rfl fun K hK => ?_
    try simp only [ltb]
    try simp only [ltb]
    simp only [List.getElem?_map,hx,hy,hw,encU,ev_usneq,List.length_map,go_sem,reduceIte,reduceAdd,reduceLT,reduceLeDiff,reduceMul,reduceEqDiff,reduceSub,reduceCtorEq,List.take_length]
    refine hK _ _ rfl ?_
    simp only [mwb,reduceAdd,reduceEqDiff]
    exact ex_ret ⟨.inl rfl, _, congrArg bl hres, rfl⟩
   ·have hxy : x = y := by have h := hc25; simpa using h
    refine ex_skip ?_
    show Go.Eng.Ex _ _ _ _ _ _
    refine ex_last_region_w tt_ok 26 [0,0,0,0,0,2,0,0,0,0,0,0,0,0,0,2,2] [] (by kernel_rfl) rfl rfl fun K hK => ?_
    try simp only [ltb]
    try simp only [ltb]
    simp only [List.getElem?_map,hx,hy,hw,encU,ev_usneq,List.length_map,go_sem,reduceIte,reduceAdd,reduceLT,reduceLeDiff,reduceMul,reduceEqDiff,reduceSub,reduceCtorEq,List.take_length]
    refine hK _ _ rfl ?_
    simp only [mwb,reduceAdd,reduceEqDiff]
    refine ⟨[_], ?_, ?_, 0, [true,true,false,false,true,true,false,false,false,false,true], by omega, by simp only [maskFr,belowV,belowL,belowB,reduceLT,mkb], by simp only [maskFr,belowV,belowL,belowB,reduceLT,mkb], by simp only [maskFr,belowV,belowL,belowB,reduceLT,putAll,List.set_cons_zero,List.set_cons_succ,mkb]; rfl⟩
    ·refine ⟨i + 1, rfl, hlt, fun j hj => ?_⟩
     rcases Nat.lt_or_ge j i with h | h
     ·exact hno j h
     ·obtain rfl : j = i := by omega
      rw [hx, hy, hxy]
    ·simp only [intOf,List.headD_cons]; omega
  ·have hge : ¬ i < xs.length := by simpa using hc14
   have hres : true = decide (xs = ys) := (decide_eq_true (eq_of_get hlen fun j hj => hno j (by omega))).symm
   refine ex_exit ?_
   show Go.Eng.Ex _ _ _ _ _ _
   refine ex_region_w tt_ok 26 [0,0,0,0,2] [] rfl rfl fun K hK => ?_
   try simp only [ltb]
   try simp only [ltb]
   simp only [List.length_map,go_sem,reduceIte,reduceAdd,reduceLT,reduceLeDiff,reduceMul,reduceEqDiff,reduceSub,reduceCtorEq,List.take_length]
   refine hK _ _ rfl ?_
   simp only [mwb,reduceAdd,reduceEqDiff]
   exact ex_ret ⟨.inl rfl, _, congrArg bl hres, rfl⟩
end Go.Proofs.YtpjdfcigadnhcaaGreatDoor
end
