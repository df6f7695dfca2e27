/-
  CLOSED CALLS: the example of the chapter: what its names come to, whatever MaxLen is.
  CLOSED CALLS: names, by computing.
  CLOSED CALLS: names, by computing.
  CLOSED CALLS: names, by computing.
  CLOSED CALLS: names, by computing.
  CLOSED CALLS: names, by computing.
  CLOSED CALLS: names, by computing.
  CLOSED CALLS: names, by computing.
  CLOSED CALLS: names, by computing.
  CLOSED CALLS: names, by computing.
  CLOSED CALLS: the example of the chapter, by computing.
  THE LAW SyntaxSizes, A: what it does at every argument of the bound, in every world of the shape.
  CONTRACTS: slices.EqualFunc on expressions, labels, parameters and declarations.
  CONTRACTS: the comparisons of labels, parameters, expressions.
  CONTRACTS: the EqualExprs of the reference.
  CONTRACTS: equality of expressions by size; parameters and declarations.
-/
import Derived.Test.YtpjdfcigadnhcaaGreatDoorSyntaxEquals4
import Derived.WalkKit
import Derived.ProofKit
import Derived.OpenShut
import Derived.WideKeyArgs
import Derived.Deep.DeepHandedRow
set_option linter.all false
section
namespace Go.Proofs.YtpjdfcigadnhcaaGreatDoor
open Go.Eng
/-- MaxLen at least 4, 3, less than 3. -/
@[reducible] def gGe (n : Int) (h : 4 ≤ n) : Glob := { n := n, κ := fun j => if j ≤ 4 then some true else none, ok := fun j b hb => by split at hb <;> simp at hb; subst hb; simp; omega, g := some 0, tabs := fun _ => none }
@[reducible] def gEq : Glob := { n := 3, κ := fun j => some (decide (j ≤ 3)), ok := fun j b hb => by simpa using hb, g := some 0, tabs := fun _ => none }
@[reducible] def gLt (n : Int) (h : n < 3) : Glob := { n := n, κ := fun j => if 3 ≤ j then some false else none, ok := fun j b hb => by split at hb <;> simp at hb; subst hb; simp; omega, g := some 0, tabs := fun _ => none }
def noOrc : FuncId → List V → Option V := fun _ _ => none
theorem noOrc_ok [Glob] : OrcOk Tryz.prog noOrc := fun f vs r h => by cases h
abbrev sA : V := .sc (.string ⟨#[97]⟩)
abbrev sB : V := .sc (.string ⟨#[98]⟩)
abbrev sV1 : V := .sc (.string ⟨#[118, 49]⟩)
abbrev tru : V := .sc (.bool true)
abbrev sP : V := .sc (.string ⟨#[97, 47, 118, 49]⟩)
/-- The text between whose blanks the keywords stand. -/
def kw : ByteArray := ⟨#[32, 97, 110, 100, 32, 97, 110, 121, 32, 97, 115, 32, 98, 111, 111, 108, 32, 100, 101, 112, 114, 101, 99, 97, 116, 101, 100, 32, 101, 108, 115, 101, 32, 101, 120, 112, 111, 114, 116, 32, 102, 97, 108, 115, 101, 32, 102, 110, 32, 102, 111, 108, 100, 32, 102, 114, 111, 109, 32, 105, 102, 32, 105, 109, 112, 111, 114, 116, 32, 105, 110, 32, 105, 110, 116, 32, 108, 101, 110, 103, 116, 104, 32, 108, 101, 116, 32, 108, 105, 115, 116, 32, 109, 97, 116, 99, 104, 32, 109, 111, 100, 117, 108, 101, 32, 110, 111, 110, 101, 32, 110, 111, 116, 32, 111, 114, 32, 116, 101, 120, 116, 32, 116, 104, 101, 110, 32, 116, 114, 117, 101, 32, 116, 121, 112, 101, 32, 117, 115, 101, 32]⟩
abbrev tA : ByteArray := ⟨#[32, 97, 32]⟩
abbrev tB : ByteArray := ⟨#[32, 98, 32]⟩
abbrev tV : ByteArray := ⟨#[32, 118, 49, 32]⟩
def isStr (v : V) (l : ByteArray) : Bool := match v with | .sc (.string s) => s.data.toList == l.data.toList | _ => false
theorem isStr_eq {v : V} {l : ByteArray} (h : isStr v l = true) : v = .sc (.string l) := by
  unfold isStr at h
  split at h
  · rename_i s
    have h1 : s.data.toList = l.data.toList := by simpa using h
    have h2 : s = l := ByteArray.ext (Array.toList_inj.1 h1)
    rw [h2]
  · cases h
def orcRK : FuncId → List V → Option V := fun f vs =>
  if f = 206 then (match vs with
    | [.sc (.string s), b] => if decide (s.size ≤ 1152921504606846975) then
        (if isStr b tA && decide (3 ≤ s.size) then some (num (rkRun s tA 558884339 1055306571))
        else if isStr b tB && decide (3 ≤ s.size) then some (num (rkRun s tB 575661958 1055306571))
        else if isStr b tV && decide (4 ≤ s.size) then some (num (rkRun s tV 2465932041 1345077009)) else none) else none
    | _ => none) else none
section
variable [Glob] (hG : Glob.g = some 0)
include hG
theorem h214A : FnOk Tryz.prog 214 [str tA] (.tup [u32 558884339, u32 1055306571]) := ev_call noOrc_ok (natS_ok hG) 2000 (by kernel_rfl)
theorem h214B : FnOk Tryz.prog 214 [str tB] (.tup [u32 575661958, u32 1055306571]) := ev_call noOrc_ok (natS_ok hG) 2000 (by kernel_rfl)
theorem h214V : FnOk Tryz.prog 214 [str tV] (.tup [u32 2465932041, u32 1345077009]) := ev_call noOrc_ok (natS_ok hG) 2000 (by kernel_rfl)
theorem orcRK_ok : OrcOk Tryz.prog orcRK := fun f vs r h => by
  unfold orcRK at h
  split at h
  · rename_i hf
    subst hf
    split at h
    · rename_i s b
      split at h
      · rename_i hs
        have hs := of_decide_eq_true hs
        split at h
        · rename_i hc
          simp only [Bool.and_eq_true, decide_eq_true_eq] at hc
          cases h
          rw [isStr_eq hc.1]
          exact rk_ok s tA _ _ (h214A hG) hc.2 hs
        · split at h
          · rename_i hc
            simp only [Bool.and_eq_true, decide_eq_true_eq] at hc
            cases h
            rw [isStr_eq hc.1]
            exact rk_ok s tB _ _ (h214B hG) hc.2 hs
          · split at h
            · rename_i hc
              simp only [Bool.and_eq_true, decide_eq_true_eq] at hc
              cases h
              rw [isStr_eq hc.1]
              exact rk_ok s tV _ _ (h214V hG) hc.2 hs
            · cases h
      · cases h
    · cases h
  · cases h
end
end Go.Proofs.YtpjdfcigadnhcaaGreatDoor
end

section
namespace Go.Proofs.YtpjdfcigadnhcaaGreatDoor
open Go.Eng
theorem a_ge (n : Int) (h : 4 ≤ n) : @FnOk (gGe n h) Tryz.prog 99 [sA] tru := @ev_call (gGe n h) _ _ (@orcRK_ok (gGe n h) rfl) (@natS_ok (gGe n h) rfl) 3000 _ _ _ (by kernel_rfl)
end Go.Proofs.YtpjdfcigadnhcaaGreatDoor
end

section
namespace Go.Proofs.YtpjdfcigadnhcaaGreatDoor
open Go.Eng
theorem b_ge (n : Int) (h : 4 ≤ n) : @FnOk (gGe n h) Tryz.prog 99 [sB] tru := @ev_call (gGe n h) _ _ (@orcRK_ok (gGe n h) rfl) (@natS_ok (gGe n h) rfl) 3000 _ _ _ (by kernel_rfl)
end Go.Proofs.YtpjdfcigadnhcaaGreatDoor
end

section
namespace Go.Proofs.YtpjdfcigadnhcaaGreatDoor
open Go.Eng
theorem v_ge (n : Int) (h : 4 ≤ n) : @FnOk (gGe n h) Tryz.prog 99 [sV1] tru := @ev_call (gGe n h) _ _ (@orcRK_ok (gGe n h) rfl) (@natS_ok (gGe n h) rfl) 3000 _ _ _ (by kernel_rfl)
end Go.Proofs.YtpjdfcigadnhcaaGreatDoor
end

section
namespace Go.Proofs.YtpjdfcigadnhcaaGreatDoor
open Go.Eng
theorem a_eq : @FnOk gEq Tryz.prog 99 [sA] tru := @ev_call gEq _ _ (@orcRK_ok gEq rfl) (@natS_ok gEq rfl) 3000 _ _ _ (by kernel_rfl)
end Go.Proofs.YtpjdfcigadnhcaaGreatDoor
end

section
namespace Go.Proofs.YtpjdfcigadnhcaaGreatDoor
open Go.Eng
theorem b_eq : @FnOk gEq Tryz.prog 99 [sB] tru := @ev_call gEq _ _ (@orcRK_ok gEq rfl) (@natS_ok gEq rfl) 3000 _ _ _ (by kernel_rfl)
end Go.Proofs.YtpjdfcigadnhcaaGreatDoor
end

section
namespace Go.Proofs.YtpjdfcigadnhcaaGreatDoor
open Go.Eng
theorem v_eq : @FnOk gEq Tryz.prog 99 [sV1] tru := @ev_call gEq _ _ (@orcRK_ok gEq rfl) (@natS_ok gEq rfl) 3000 _ _ _ (by kernel_rfl)
end Go.Proofs.YtpjdfcigadnhcaaGreatDoor
end

section
namespace Go.Proofs.YtpjdfcigadnhcaaGreatDoor
open Go.Eng
theorem a_lt (n : Int) (h : n < 3) : @FnOk (gLt n h) Tryz.prog 99 [sA] tru := @ev_call (gLt n h) _ _ (@orcRK_ok (gLt n h) rfl) (@natS_ok (gLt n h) rfl) 3000 _ _ _ (by kernel_rfl)
end Go.Proofs.YtpjdfcigadnhcaaGreatDoor
end

section
namespace Go.Proofs.YtpjdfcigadnhcaaGreatDoor
open Go.Eng
theorem b_lt (n : Int) (h : n < 3) : @FnOk (gLt n h) Tryz.prog 99 [sB] tru := @ev_call (gLt n h) _ _ (@orcRK_ok (gLt n h) rfl) (@natS_ok (gLt n h) rfl) 3000 _ _ _ (by kernel_rfl)
end Go.Proofs.YtpjdfcigadnhcaaGreatDoor
end

section
namespace Go.Proofs.YtpjdfcigadnhcaaGreatDoor
open Go.Eng
theorem v_lt (n : Int) (h : n < 3) : @FnOk (gLt n h) Tryz.prog 99 [sV1] tru := @ev_call (gLt n h) _ _ (@orcRK_ok (gLt n h) rfl) (@natS_ok (gLt n h) rfl) 3000 _ _ _ (by kernel_rfl)
end Go.Proofs.YtpjdfcigadnhcaaGreatDoor
end

section
namespace Go.Proofs.YtpjdfcigadnhcaaGreatDoor
open Go.Eng
def orcN : FuncId → List V → Option V := fun f vs =>
  if f = 99 then (match vs with
    | [a] => if isStr a ⟨#[97]⟩ || isStr a ⟨#[98]⟩ || isStr a ⟨#[118, 49]⟩ then some tru else none
    | _ => none) else none
theorem orcN_ok [Glob] (ha : FnOk Tryz.prog 99 [sA] tru) (hb : FnOk Tryz.prog 99 [sB] tru) (hv : FnOk Tryz.prog 99 [sV1] tru) : OrcOk Tryz.prog orcN := fun f vs r h => by
  unfold orcN at h
  split at h
  · rename_i hf
    subst hf
    split at h
    · split at h
      · rename_i hc
        cases h
        simp only [Bool.or_eq_true] at hc
        rcases hc with (h2 | h2) | h2
        · rw [isStr_eq h2]; exact ha
        · rw [isStr_eq h2]; exact hb
        · rw [isStr_eq h2]; exact hv
      · cases h
    · cases h
  · cases h
theorem awake_ge (n : Int) (h : 4 ≤ n) : @FnOk (gGe n h) Tryz.prog 10 [] tru := @ev_call (gGe n h) _ _ (@orcN_ok (gGe n h) (a_ge n h) (b_ge n h) (v_ge n h)) (@natS_ok (gGe n h) rfl) 3000 _ _ _ (by kernel_rfl)
theorem awake_eq : @FnOk gEq Tryz.prog 10 [] tru := @ev_call gEq _ _ (@orcN_ok gEq (a_eq ) (b_eq ) (v_eq )) (@natS_ok gEq rfl) 3000 _ _ _ (by kernel_rfl)
theorem awake_lt (n : Int) (h : n < 3) : @FnOk (gLt n h) Tryz.prog 10 [] tru := @ev_call (gLt n h) _ _ (@orcN_ok (gLt n h) (a_lt n h) (b_lt n h) (v_lt n h)) (@natS_ok (gLt n h) rfl) 3000 _ _ _ (by kernel_rfl)
end Go.Proofs.YtpjdfcigadnhcaaGreatDoor
end

section
namespace Go.Proofs.YtpjdfcigadnhcaaGreatDoor
open Go.Eng
set_option maxRecDepth 100000
open Go.ChangeShapes Go.WideShapes Go.ChangeAt Go.RowKit
theorem cell_int {W : World} {v : Value} (hok : Cell.ok Tryz.prog W .any 0 3 v) : ∃ n : Int, v = .int .i64 n := by
  unfold Cell.ok at hok
  rw [Tryz.underlying3] at hok
  cases v with
  | int k n => exact ⟨n, by rw [show k = .i64 from hok.1]⟩
  | _ => exact hok.elim
theorem maxLen_at {W : World} (hS : W.ShapedOpen Tryz.prog) : ∃ n : Int, W.cell? ⟨0, 0, none⟩ = some (.int .i64 n) := by
  have h0 : (((begin Tryz.prog (fun _ _ => 0) default).world.heap[0]?).bind Obj.row?) = some (#[.int .i64 0], 3) := by kernel_rfl
  obtain ⟨cs, hc, hz, hr⟩ := hS.1 0 _ _ (of_decide_eq_true (by kernel_rfl)) h0
  obtain ⟨ts, h1, -, h3⟩ := hr (by kernel_rfl)
  obtain rfl : [3] = ts := Option.some.inj ((show Tryz.prog.cellTypes Tryz.prog.depth 3 = some [3] by kernel_rfl).symm.trans h1)
  have hz' : cs.size = 1 := hz
  obtain ⟨v, hv⟩ : ∃ v, cs[0]? = some v := ⟨cs[0], Array.getElem?_eq_getElem (by omega)⟩
  obtain ⟨u, hu, hok⟩ := h3 0 v hv
  obtain rfl : 3 = u := by simpa using hu
  obtain ⟨n, rfl⟩ := cell_int hok
  exact ⟨n, by simp [World.cell?, hc, hv]⟩
theorem rep_one {F : Addr → Option Value} [Glob] {hg : Gl F} {cs : List V} {v : Value} (hne : cs.length ≠ 1) (h : Rd F hg cs v.cells.toList) : Rep ⟨F, fun _ _ => none, hg⟩ (.agg cs) v := by
  cases v with
  | agg xs => exact .agg _ _ _ (by simpa [Value.cells] using h.1.1) fun i c x hc hx => h.1.2 i c x hc (by simpa [Value.cells] using hx)
  | _ => exact absurd h.1.1 (by simpa [Value.cells] using hne)
/-- What a call that wrote nothing of what was there leaves behind: the row's 'behind the call', frozen cells asked for at the places read alone. -/
theorem post_kept {H : Type} {enc : TypeId × Value → H} {P : Program} {f : Func} {s : ChangeSpec} {apart fresh handsOn again : Bool} {W W' : World} {args : Array Value} {v : Value} {ds gs : List (DataW H)} {before pa pv : List MemPlace}
    (hW : DataW.Whole enc P f.params.toList s.vars apart W args.toList ds gs before)
    (hres : ∀ (b : Nat) (sp : Nat → Bool) (hd : Bool), DataW.TrodAll enc P W' b sp hd f.resultTypes.toList (v.resultList f.resultTypes.size) (s.fn H (ds ++ gs)).results [])
    (hargs : ∀ sp : Nat → Bool, (∀ p ∈ before, sp p.block = true) → DataW.TrodAll enc P W' 0 sp true f.params.toList args.toList (s.fn H (ds ++ gs)).args pa)
    (hvars : ∀ sp : Nat → Bool, (∀ p ∈ before, sp p.block = true) → DataW.TrodVars enc P W' sp s.vars (s.fn H (ds ++ gs)).vars pv)
    (hps : before = pa ++ pv) (hb : Below W.heap.size W W')
    (hok : ∀ (j : Nat) (t : TypeId) (r : Value), f.resultTypes[j]? = some t → (v.resultList f.resultTypes.size)[j]? = some r → Value.okWide P W' .any 0 t r) :
    s.post enc P f apart fresh handsOn again W args v W' := by
  have hlt := hW.lt
  refine ⟨ds, gs, before, [], pa, pv, hW, hres _ _ _, hargs _ (fun p hp => by simpa using hlt p hp), hvars _ (fun p hp => by simpa using hlt p hp), hb.frame _, fun _ => ?_⟩
  obtain ⟨_, _, _, _, _, hz, hn⟩ := hW
  refine ⟨hok, _, _, ([] ++ pa) ++ pv, ⟨[] ++ pa, pv, trodAll_append (hargs _ (fun _ _ => rfl)) (hres _ _ _), hvars _ (fun _ _ => rfl), rfl, fun b off hp => ?_, fun ha => ?_⟩, fun p hp _ => ?_⟩
  · have hp' : MemPlace.cell b off ∈ before := by rw [hps]; simpa using hp
    rw [hb.frozen (show (⟨b, off, none⟩ : Addr).block < W.heap.size from hlt _ hp')]
    exact hz b off hp'
  · have := hn ha
    rw [hps] at this
    simpa using this
  · rw [hps]
    simpa using hp
theorem contract (H : Type) (enc : TypeId × Value → H) (W : World) (args : Array Value) (ds gs : List (DataW H)) (before : List MemPlace)
    (hW : DataW.Whole enc Tryz.prog Tryz.f3.params.toList Rows.syntaxSizesSpec.vars false W args.toList ds gs before) (hb : Rows.uptoBulkAll (ds ++ gs) ≤ 1048576) (hS : W.ShapedOpen Tryz.prog) :
    Calls Tryz.prog 3 args W fun e W' => ∃ v, e = .returned v ∧ Rows.syntaxSizesSpec.post enc Tryz.prog Tryz.f3 false true false false W args v W' := by
  have hW' := hW
  have hlt := hW.lt
  obtain ⟨p, q, hA0, hV, rfl, hfz, hnd⟩ := hW
  have hA : DataW.TrodAll enc Tryz.prog W 0 (fun _ => true) true Tryz.f3.params.toList args.toList ds p := hA0
  rw [Tryz.params3] at hA
  obtain ⟨v0, vs0, d0, ds0, p0, q0, hargs, rfl, rfl, h0, r0⟩ := trodAll_cons hA
  obtain ⟨v1, vs1, d1, ds1, p1, q1, rfl, rfl, rfl, h1, r1⟩ := trodAll_cons r0
  obtain ⟨v2, vs2, d2, ds2, p2, q2, rfl, rfl, rfl, h2, r2⟩ := trodAll_cons r1
  obtain ⟨rfl, rfl, rfl⟩ := trodAll_nil r2
  obtain rfl : args = #[v0, v1, v2] := by cases args; simp_all
  obtain ⟨rfl, rfl⟩ := trodVars_none hV
  clear hA0 hA r0 r1 r2 hargs hV
  simp only [List.append_nil] at hW' hlt
  simp only [List.append_nil, Rows.uptoBulkAll] at hb
  have h0' := h0
  have h1' := h1
  have h2' := h2
  obtain ⟨f0, h0⟩ := h0
  obtain ⟨f1, h1⟩ := h1
  obtain ⟨f2, h2⟩ := h2
  have main : Calls Tryz.prog 3 #[v0, v1, v2] W fun e W' => e = .returned (.bool true) ∧ Below W.heap.size W W' := by
    obtain ⟨n, hn⟩ := maxLen_at hS
    have go : ∀ (G : Glob) (hg : @Gl G W.cell?), @FnOk G Tryz.prog 10 [] tru → Calls Tryz.prog 3 #[v0, v1, v2] W fun e W' => e = .returned (.bool true) ∧ Below W.heap.size W W' := fun G hg haw => by
      obtain ⟨t, ht, bt⟩ := rd_ty (F := W.cell?) (hg := hg) rfl _ h0
      obtain ⟨e, he, be⟩ := rd_ex (F := W.cell?) (hg := hg) rfl _ h1
      obtain ⟨m, hm, bm⟩ := rd_md (F := W.cell?) (hg := hg) rfl h2
      rw [encTy_eq] at ht
      rw [encEx_eq] at he
      rw [encMd_eq] at hm
      have hc := sizes_ok haw t e m (by omega) (by omega) (by omega)
      refine (hc.2 W.cell? hg W #[v0, v1, v2] (fun _ _ h => h) ?_).mono fun o W' h => ?_
      · rw [encTy_eq, encEx_eq, encMd_eq]
        exact .cons (rep_one (by simp [tyCells]) ht) (.cons (rep_one (by simp [exCells]) he) (.cons (rep_one (by simp [mdCells]) hm) (.nil _)))
      · obtain ⟨F', x, rfl, -, -, -, ⟨hg', hx⟩, hbel⟩ := h
        obtain rfl := rep_sc hx
        exact ⟨rfl, hbel⟩
    by_cases hge : 4 ≤ n
    · exact go (gGe n hge) (@Gl.mk (gGe n hge) _ (fun g hg => by cases hg; exact hn) (fun g cs j x h => by cases h)) (awake_ge n hge)
    · by_cases he3 : n = 3
      · subst he3
        exact go gEq (@Gl.mk gEq _ (fun g hg => by cases hg; exact hn) (fun g cs j x h => by cases h)) awake_eq
      · have hl : n < 3 := by omega
        exact go (gLt n hl) (@Gl.mk (gLt n hl) _ (fun g hg => by cases hg; exact hn) (fun g cs j x h => by cases h)) (awake_lt n hl)
  refine main.mono fun e W' ⟨he, hbel⟩ => ?_
  subst he
  have hlaid : laidOutB Tryz.prog = true := by kernel_rfl
  refine ⟨_, rfl, post_kept (pa := p0 ++ (p1 ++ (p2 ++ []))) (pv := []) hW' (fun _ _ _ => trodAll_cons_mk (shut_bool Tryz.underlying4 _) trodAll_mk0) (fun sp hsp => ?_) (fun _ _ => rfl) (by simp)
    hbel (ok_one (by kernel_rfl) rfl (okWide_bool_mk Tryz.underlying4 _))⟩
  · refine trodAll_cons_mk (WideElems.Trod_stays hlaid (by kernel_rfl) (of_decide_eq_true (by kernel_rfl)) h0' (fun x hx => hbel.same (hlt x (by simp [hx]))) (fun x hx => hsp x (by simp [hx])))
      (trodAll_cons_mk (WideElems.Trod_stays hlaid (by kernel_rfl) (of_decide_eq_true (by kernel_rfl)) h1' (fun x hx => hbel.same (hlt x (by simp [hx]))) (fun x hx => hsp x (by simp [hx])))
      (trodAll_cons_mk (WideElems.Trod_stays hlaid (by kernel_rfl) (of_decide_eq_true (by kernel_rfl)) h2' (fun x hx => hbel.same (hlt x (by simp [hx]))) (fun x hx => hsp x (by simp [hx]))) trodAll_mk0))
end Go.Proofs.YtpjdfcigadnhcaaGreatDoor
end

section
namespace Go.Proofs.YtpjdfcigadnhcaaGreatDoor
open Go.Eng
variable [Glob]
theorem equalExs_ok (g : FuncId) (ts us : List Ex) (hl : ts.length ≤ 1048576) (hg : ∀ (i : Nat) (t u : Ex), ts[i]? = some t → us[i]? = some u → FnOk Tryz.prog g [encEx t, encEx u] (bl (eqb t u))) :
    FnOk Tryz.prog 69 [.slice (encExs ts), .slice (encExs us), .sc (.func (.func g) #[] #[])] (bl (eqb ts us)) := by
  refine fn_ok tt_ok (fn := Tryz.f69) Tryz.func69 rfl Tryz.call69 ?_
  simp only [startSt, Tryz.ntmps69, List.length_cons, List.length_nil, Nat.reduceAdd, Nat.reduceSub, List.replicate_succ, List.replicate_zero, List.cons_append, List.nil_append]
  refine tri_seq_region tt_ok fun K hK => ?_
  simp only [runOps, stepOp, wantedV, opV, St.eval, St.put, absV, List.set_cons_zero, List.set_cons_succ]
  refine hK _ ?_
  clear hK K
  refine tri_seq ?_
  by_cases hlen : ts.length = us.length
  · have hd : (!decide ((ts.length : Int) = (us.length : Int))) = false := by simp [hlen]
    refine tri_seq_region tt_ok fun K hK => ?_
    simp only [length_encExs, hd, runOps, stepOp, wantedV, opV, St.eval, St.put, List.set_cons_zero, List.set_cons_succ, List.getD_cons_zero, List.getD_cons_succ, tElem, List.map_nil, List.map_cons, List.getElem?_cons_zero, lenV, ev_neq, List.getElem?_toArray, nilLen, ev_len1, gnCmp, tt27]
    refine hK _ ?_
    clear hK K
    refine tri_cond rfl (tri_skip ?_)
    show Tri _ _ _ _ _ _
    refine tri_seq ?_
    refine tri_seq_region tt_ok fun K hK => ?_
    simp only [length_encExs, runOps, stepOp, wantedV, opV, St.eval, St.put, absV, List.set_cons_zero, List.set_cons_succ, List.getD_cons_zero, List.getD_cons_succ, tElem, List.map_nil, List.map_cons, List.getElem?_cons_zero, lenV, List.getElem?_toArray, ev_len1, tt27]
    refine hK _ ?_
    clear hK K
    refine tri_block (tri_loop_inv (fun N st => ∃ (i : Nat), N = ts.length - i ∧ i ≤ ts.length ∧ ts.take i = us.take i ∧
      st = { fr := [.undef, .slice (encExs us), .sc (.func (.func g) #[] #[]), .undef, .undef, .undef, .undef, .undef, .undef, .undef, .undef, .undef, .undef, .undef, .undef, .slice (encExs ts), num ts.length, num i] ++ List.replicate 14 .undef, mem := [] }) ts.length ?_ ?_)
    · exact ⟨0, [false, true, true, false, false, false, false, false, false, false, false, false, false, false, false, true, true, true], by omega, by simp only [maskFr, if_true, if_false, Bool.false_eq_true, List.all_cons, List.all_nil, belowV, Bool.and_self], rfl, 0, by omega, by omega, by simp, rfl⟩
    · rintro N' st ⟨i, rfl, hi, htk, rfl⟩
      simp only [List.replicate_succ, List.replicate_zero, List.cons_append, List.nil_append]
      by_cases hlt : i < ts.length
      · have hd := lt_dec hlt
        refine tri_seq_region tt_ok fun K hK => ?_
        simp only [hd, runOps, stepOp, wantedV, opV, St.eval, St.put, List.set_cons_zero, List.set_cons_succ, List.getD_cons_zero, List.getD_cons_succ, ev_lss, nilLen, gnCmp]
        refine hK _ ?_
        clear hK K
        refine tri_seq (tri_cond rfl (tri_skip ?_))
        refine tri_seq (tri_block ?_)
        obtain ⟨t, ht⟩ : ∃ t, ts[i]? = some t := ⟨_, List.getElem?_eq_getElem hlt⟩
        obtain ⟨u, hu⟩ : ∃ u, us[i]? = some u := ⟨_, List.getElem?_eq_getElem (by omega)⟩
        have hgi := hg i t u ht hu
        simp only [encEx_eq] at hgi
        simp only [exCells] at hgi
        refine tri_seq_region tt_ok fun K hK => ?_
        simp only [get_encExs, ht, encEx_eq, exCells, runOps, stepOp, wantedV, opV, St.eval, St.put, cellsV, oneV, List.all_cons, List.all_nil, Bool.and_self, Value.oneCell', if_true, if_false, setMem, List.length_cons, List.length_nil, Nat.lt_irrefl, List.nil_append, List.set_cons_zero, List.set_cons_succ, List.getD_cons_zero, List.getD_cons_succ, tElem, tSize, List.map_nil, List.map_cons, loadV, pickCells, List.take_succ_cons, List.take_zero, List.getElem?_cons_zero, List.head?_cons, Nat.zero_add, Nat.reduceAdd, Nat.le_refl, Int.natCast_nonneg, indexV, indexAt, Int.toNat_natCast, V.cells, Option.map_some, storeV, spliceL, tt27, tt29]
        refine hK _ ?_
        clear hK K
        refine tri_seq_region tt_ok fun K hK => ?_
        simp only [get_encExs, hu, encEx_eq, exCells, runOps, stepOp, wantedV, opV, St.eval, St.put, cellsV, oneV, List.all_cons, List.all_nil, Bool.and_self, Value.oneCell', if_true, if_false, setMem, List.length_cons, List.length_nil, Nat.lt_irrefl, List.nil_append, List.cons_append, List.set_cons_zero, List.set_cons_succ, List.getD_cons_zero, List.getD_cons_succ, tElem, tSize, List.map_nil, List.map_cons, loadV, pickCells, List.take_succ_cons, List.take_zero, List.getElem?_cons_zero, List.getElem?_cons_succ, List.head?_cons, Nat.zero_add, Nat.reduceAdd, Nat.le_refl, Int.natCast_nonneg, indexV, indexAt, Int.toNat_natCast, V.cells, Option.map_some, storeV, spliceL, tt27, tt29]
        refine hK _ ?_
        clear hK K
        refine tri_seq_region tt_ok fun K hK => ?_
        simp only [runOps, stepOp, wantedV, opV, St.eval, St.put, if_true, List.length_cons, List.length_nil, List.nil_append, List.append_nil, List.set_cons_zero, List.set_cons_succ, List.getD_cons_zero, List.getD_cons_succ, List.map_nil, List.map_cons, loadV, pickCells, List.drop_zero, List.take_succ_cons, List.take_zero, List.getElem?_cons_zero, List.getElem?_cons_succ, List.head?_cons, Nat.zero_add, Nat.reduceAdd, Nat.le_refl, calleeOf, tt29]
        refine .inl ⟨_, _, by simp only [purL, pur1, purCells, purCell, nilS], hgi, ?_⟩
        try simp only [St.put, List.append_nil, List.set_cons_zero, List.set_cons_succ, List.getD_cons_zero, List.getD_cons_succ, ev_not, memAfter_nil, List.flatMap_cons, List.flatMap_nil, ref1, refCell]
        refine hK _ ?_
        clear hK K
        have htk1 : ∀ h : t = u, ts.take (i + 1) = us.take (i + 1) := fun h => by rw [List.take_add_one, List.take_add_one, htk, ht, hu, h]
        by_cases htu : t = u
        · rw [eqb_true htu]
          refine tri_cond rfl (tri_skip ?_)
          show Tri _ _ _ _ _ _
          refine tri_last_region tt_ok fun K hK => ?_
          simp only [runOps, stepOp, wantedV, opV, St.eval, St.put, absV, List.set_cons_zero, List.set_cons_succ, List.getD_cons_zero, List.getD_cons_succ, ev_add, Bool.not_true, nilLen, gnCmp]
          refine hK _ ?_
          clear hK K
          have hw2 := i64_succ i (by omega)
          rw [hw2]
          exact ⟨ts.length - (i + 1), by omega, 0, [false, true, true, false, false, false, false, false, false, false, false, false, false, false, false, true, true, true], by omega, by simp only [maskFr, if_true, if_false, Bool.false_eq_true, List.all_cons, List.all_nil, belowV, Bool.and_self], rfl, i + 1, rfl, hlt, htk1 htu, rfl⟩
        · rw [eqb_false htu]
          refine tri_cond rfl ?_
          refine tri_seq_region tt_ok fun K hK => ?_
          simp only [runOps, stepOp, wantedV, opV, St.eval, St.put, absV, List.set_cons_zero, List.set_cons_succ, Bool.not_false]
          refine hK _ ?_
          clear hK K
          refine tri_ret ⟨.inl rfl, ?_⟩
          rw [eqb_false (fun e => htu (by rw [e, hu] at ht; exact (Option.some.inj ht).symm))]
          rfl
      · have hd := ge_dec hlt
        refine tri_seq_region tt_ok fun K hK => ?_
        simp only [hd, runOps, stepOp, wantedV, opV, St.eval, St.put, List.set_cons_zero, List.set_cons_succ, List.getD_cons_zero, List.getD_cons_succ, ev_lss, nilLen, gnCmp]
        refine hK _ ?_
        clear hK K
        refine tri_seq (tri_cond rfl (tri_exit ?_))
        have hie : i = ts.length := by omega
        show Tri _ _ _ _ _ _
        refine tri_seq_region tt_ok fun K hK => ?_
        simp only [runOps, stepOp, wantedV, opV, St.eval, St.put, absV, List.set_cons_zero, List.set_cons_succ]
        refine hK _ ?_
        clear hK K
        refine tri_ret ⟨.inl rfl, ?_⟩
        rw [hie, List.take_length, hlen, List.take_length] at htk
        rw [eqb_true htk]
        rfl
  · have hd : (!decide ((ts.length : Int) = (us.length : Int))) = true := by simpa using fun e => hlen (by omega)
    refine tri_seq_region tt_ok fun K hK => ?_
    simp only [length_encExs, hd, runOps, stepOp, wantedV, opV, St.eval, St.put, List.set_cons_zero, List.set_cons_succ, List.getD_cons_zero, List.getD_cons_succ, tElem, List.map_nil, List.map_cons, List.getElem?_cons_zero, lenV, ev_neq, List.getElem?_toArray, nilLen, ev_len1, gnCmp, tt27]
    refine hK _ ?_
    clear hK K
    refine tri_cond rfl ?_
    refine tri_seq_region tt_ok fun K hK => ?_
    simp only [runOps, stepOp, wantedV, opV, St.eval, St.put, absV, List.set_cons_zero, List.set_cons_succ]
    refine hK _ ?_
    clear hK K
    refine tri_ret ⟨.inl rfl, ?_⟩
    rw [eqb_false (fun e => hlen (by rw [e]))]
    rfl

theorem equalLbs_ok (g : FuncId) (ts us : List Lb) (hl : ts.length ≤ 1048576) (hg : ∀ (i : Nat) (t u : Lb), ts[i]? = some t → us[i]? = some u → FnOk Tryz.prog g [encLb t, encLb u] (bl (eqb t u))) :
    FnOk Tryz.prog 70 [.slice (ts.map encLb), .slice (us.map encLb), .sc (.func (.func g) #[] #[])] (bl (eqb ts us)) := by
  refine fn_ok tt_ok (fn := Tryz.f70) Tryz.func70 rfl Tryz.call70 ?_
  simp only [startSt, Tryz.ntmps70, List.length_cons, List.length_nil, Nat.reduceAdd, Nat.reduceSub, List.replicate_succ, List.replicate_zero, List.cons_append, List.nil_append]
  refine tri_seq_region tt_ok fun K hK => ?_
  simp only [runOps, stepOp, wantedV, opV, St.eval, St.put, absV, List.set_cons_zero, List.set_cons_succ]
  refine hK _ ?_
  clear hK K
  refine tri_seq ?_
  by_cases hlen : ts.length = us.length
  · have hd : (!decide ((ts.length : Int) = (us.length : Int))) = false := by simp [hlen]
    refine tri_seq_region tt_ok fun K hK => ?_
    simp only [List.length_map, hd, runOps, stepOp, wantedV, opV, St.eval, St.put, List.set_cons_zero, List.set_cons_succ, List.getD_cons_zero, List.getD_cons_succ, tElem, List.map_nil, List.map_cons, List.getElem?_cons_zero, lenV, ev_neq, List.getElem?_toArray, nilLen, ev_len1, gnCmp, tt26]
    refine hK _ ?_
    clear hK K
    refine tri_cond rfl (tri_skip ?_)
    show Tri _ _ _ _ _ _
    refine tri_seq ?_
    refine tri_seq_region tt_ok fun K hK => ?_
    simp only [List.length_map, runOps, stepOp, wantedV, opV, St.eval, St.put, absV, List.set_cons_zero, List.set_cons_succ, List.getD_cons_zero, List.getD_cons_succ, tElem, List.map_nil, List.map_cons, List.getElem?_cons_zero, lenV, List.getElem?_toArray, ev_len1, tt26]
    refine hK _ ?_
    clear hK K
    refine tri_block (tri_loop_inv (fun N st => ∃ (i : Nat), N = ts.length - i ∧ i ≤ ts.length ∧ ts.take i = us.take i ∧
      st = { fr := [.undef, .slice (us.map encLb), .sc (.func (.func g) #[] #[]), .undef, .undef, .undef, .undef, .undef, .undef, .undef, .undef, .undef, .undef, .undef, .undef, .slice (ts.map encLb), num ts.length, num i] ++ List.replicate 14 .undef, mem := [] }) ts.length ?_ ?_)
    · exact ⟨0, [false, true, true, false, false, false, false, false, false, false, false, false, false, false, false, true, true, true], by omega, by simp only [maskFr, if_true, if_false, Bool.false_eq_true, List.all_cons, List.all_nil, belowV, Bool.and_self], rfl, 0, by omega, by omega, by simp, rfl⟩
    · rintro N' st ⟨i, rfl, hi, htk, rfl⟩
      simp only [List.replicate_succ, List.replicate_zero, List.cons_append, List.nil_append]
      by_cases hlt : i < ts.length
      · have hd := lt_dec hlt
        refine tri_seq_region tt_ok fun K hK => ?_
        simp only [hd, runOps, stepOp, wantedV, opV, St.eval, St.put, List.set_cons_zero, List.set_cons_succ, List.getD_cons_zero, List.getD_cons_succ, ev_lss, nilLen, gnCmp]
        refine hK _ ?_
        clear hK K
        refine tri_seq (tri_cond rfl (tri_skip ?_))
        refine tri_seq (tri_block ?_)
        obtain ⟨t, ht⟩ : ∃ t, ts[i]? = some t := ⟨_, List.getElem?_eq_getElem hlt⟩
        obtain ⟨u, hu⟩ : ∃ u, us[i]? = some u := ⟨_, List.getElem?_eq_getElem (by omega)⟩
        have hgi := hg i t u ht hu
        simp only [encLb] at hgi
        simp only [tyCells, List.cons_append, List.nil_append] at hgi
        refine tri_seq_region tt_ok fun K hK => ?_
        simp only [List.getElem?_map, ht, encLb, tyCells, List.cons_append, List.nil_append, runOps, stepOp, wantedV, opV, St.eval, St.put, cellsV, oneV, List.all_cons, List.all_nil, Bool.and_self, Value.oneCell', if_true, if_false, setMem, List.length_cons, List.length_nil, Nat.lt_irrefl, List.nil_append, List.cons_append, List.set_cons_zero, List.set_cons_succ, List.getD_cons_zero, List.getD_cons_succ, tElem, tSize, List.map_nil, List.map_cons, loadV, pickCells, List.take_succ_cons, List.take_zero, List.getElem?_cons_zero, List.head?_cons, Nat.zero_add, Nat.reduceAdd, Nat.le_refl, Int.natCast_nonneg, indexV, indexAt, Int.toNat_natCast, V.cells, Option.map_some, storeV, spliceL, tt26, tt105]
        refine hK _ ?_
        clear hK K
        refine tri_seq_region tt_ok fun K hK => ?_
        simp only [List.getElem?_map, hu, encLb, tyCells, List.cons_append, List.nil_append, runOps, stepOp, wantedV, opV, St.eval, St.put, cellsV, oneV, List.all_cons, List.all_nil, Bool.and_self, Value.oneCell', if_true, if_false, setMem, List.length_cons, List.length_nil, Nat.lt_irrefl, List.nil_append, List.cons_append, List.set_cons_zero, List.set_cons_succ, List.getD_cons_zero, List.getD_cons_succ, tElem, tSize, List.map_nil, List.map_cons, loadV, pickCells, List.take_succ_cons, List.take_zero, List.getElem?_cons_zero, List.getElem?_cons_succ, List.head?_cons, Nat.zero_add, Nat.reduceAdd, Nat.le_refl, Int.natCast_nonneg, indexV, indexAt, Int.toNat_natCast, V.cells, Option.map_some, storeV, spliceL, tt26, tt105]
        refine hK _ ?_
        clear hK K
        refine tri_seq_region tt_ok fun K hK => ?_
        simp only [runOps, stepOp, wantedV, opV, St.eval, St.put, if_true, List.length_cons, List.length_nil, List.nil_append, List.append_nil, List.set_cons_zero, List.set_cons_succ, List.getD_cons_zero, List.getD_cons_succ, List.map_nil, List.map_cons, loadV, pickCells, List.drop_zero, List.take_succ_cons, List.take_zero, List.getElem?_cons_zero, List.getElem?_cons_succ, List.head?_cons, Nat.zero_add, Nat.reduceAdd, Nat.le_refl, calleeOf, tt105]
        refine .inl ⟨_, _, by simp only [purL, pur1, purCells, purCell, nilS], hgi, ?_⟩
        try simp only [St.put, List.append_nil, List.set_cons_zero, List.set_cons_succ, List.getD_cons_zero, List.getD_cons_succ, ev_not, memAfter_nil, List.flatMap_cons, List.flatMap_nil, ref1, refCell]
        refine hK _ ?_
        clear hK K
        have htk1 : ∀ h : t = u, ts.take (i + 1) = us.take (i + 1) := fun h => by rw [List.take_add_one, List.take_add_one, htk, ht, hu, h]
        by_cases htu : t = u
        · rw [eqb_true htu]
          refine tri_cond rfl (tri_skip ?_)
          show Tri _ _ _ _ _ _
          refine tri_last_region tt_ok fun K hK => ?_
          simp only [runOps, stepOp, wantedV, opV, St.eval, St.put, absV, List.set_cons_zero, List.set_cons_succ, List.getD_cons_zero, List.getD_cons_succ, ev_add, Bool.not_true, nilLen, gnCmp]
          refine hK _ ?_
          clear hK K
          have hw2 := i64_succ i (by omega)
          rw [hw2]
          exact ⟨ts.length - (i + 1), by omega, 0, [false, true, true, false, false, false, false, false, false, false, false, false, false, false, false, true, true, true], by omega, by simp only [maskFr, if_true, if_false, Bool.false_eq_true, List.all_cons, List.all_nil, belowV, Bool.and_self], rfl, i + 1, rfl, hlt, htk1 htu, rfl⟩
        · rw [eqb_false htu]
          refine tri_cond rfl ?_
          refine tri_seq_region tt_ok fun K hK => ?_
          simp only [runOps, stepOp, wantedV, opV, St.eval, St.put, absV, List.set_cons_zero, List.set_cons_succ, Bool.not_false]
          refine hK _ ?_
          clear hK K
          refine tri_ret ⟨.inl rfl, ?_⟩
          rw [eqb_false (fun e => htu (by rw [e, hu] at ht; exact (Option.some.inj ht).symm))]
          rfl
      · have hd := ge_dec hlt
        refine tri_seq_region tt_ok fun K hK => ?_
        simp only [hd, runOps, stepOp, wantedV, opV, St.eval, St.put, List.set_cons_zero, List.set_cons_succ, List.getD_cons_zero, List.getD_cons_succ, ev_lss, nilLen, gnCmp]
        refine hK _ ?_
        clear hK K
        refine tri_seq (tri_cond rfl (tri_exit ?_))
        have hie : i = ts.length := by omega
        show Tri _ _ _ _ _ _
        refine tri_seq_region tt_ok fun K hK => ?_
        simp only [runOps, stepOp, wantedV, opV, St.eval, St.put, absV, List.set_cons_zero, List.set_cons_succ]
        refine hK _ ?_
        clear hK K
        refine tri_ret ⟨.inl rfl, ?_⟩
        rw [hie, List.take_length, hlen, List.take_length] at htk
        rw [eqb_true htk]
        rfl
  · have hd : (!decide ((ts.length : Int) = (us.length : Int))) = true := by simpa using fun e => hlen (by omega)
    refine tri_seq_region tt_ok fun K hK => ?_
    simp only [List.length_map, hd, runOps, stepOp, wantedV, opV, St.eval, St.put, List.set_cons_zero, List.set_cons_succ, List.getD_cons_zero, List.getD_cons_succ, tElem, List.map_nil, List.map_cons, List.getElem?_cons_zero, lenV, ev_neq, List.getElem?_toArray, nilLen, ev_len1, gnCmp, tt26]
    refine hK _ ?_
    clear hK K
    refine tri_cond rfl ?_
    refine tri_seq_region tt_ok fun K hK => ?_
    simp only [runOps, stepOp, wantedV, opV, St.eval, St.put, absV, List.set_cons_zero, List.set_cons_succ]
    refine hK _ ?_
    clear hK K
    refine tri_ret ⟨.inl rfl, ?_⟩
    rw [eqb_false (fun e => hlen (by rw [e]))]
    rfl

theorem equalPms_ok (g : FuncId) (ts us : List Pm) (hl : ts.length ≤ 1048576) (hg : ∀ (i : Nat) (t u : Pm), ts[i]? = some t → us[i]? = some u → FnOk Tryz.prog g [encPm t, encPm u] (bl (eqb t u))) :
    FnOk Tryz.prog 108 [.slice (ts.map encPm), .slice (us.map encPm), .sc (.func (.func g) #[] #[])] (bl (eqb ts us)) := by
  refine fn_ok tt_ok (fn := Tryz.f108) Tryz.func108 rfl Tryz.call108 ?_
  simp only [startSt, Tryz.ntmps108, List.length_cons, List.length_nil, Nat.reduceAdd, Nat.reduceSub, List.replicate_succ, List.replicate_zero, List.cons_append, List.nil_append]
  refine tri_seq_region tt_ok fun K hK => ?_
  simp only [runOps, stepOp, wantedV, opV, St.eval, St.put, absV, List.set_cons_zero, List.set_cons_succ]
  refine hK _ ?_
  clear hK K
  refine tri_seq ?_
  by_cases hlen : ts.length = us.length
  · have hd : (!decide ((ts.length : Int) = (us.length : Int))) = false := by simp [hlen]
    refine tri_seq_region tt_ok fun K hK => ?_
    simp only [List.length_map, hd, runOps, stepOp, wantedV, opV, St.eval, St.put, List.set_cons_zero, List.set_cons_succ, List.getD_cons_zero, List.getD_cons_succ, tElem, List.map_nil, List.map_cons, List.getElem?_cons_zero, lenV, ev_neq, List.getElem?_toArray, nilLen, ev_len1, gnCmp, tt73]
    refine hK _ ?_
    clear hK K
    refine tri_cond rfl (tri_skip ?_)
    show Tri _ _ _ _ _ _
    refine tri_seq ?_
    refine tri_seq_region tt_ok fun K hK => ?_
    simp only [List.length_map, runOps, stepOp, wantedV, opV, St.eval, St.put, absV, List.set_cons_zero, List.set_cons_succ, List.getD_cons_zero, List.getD_cons_succ, tElem, List.map_nil, List.map_cons, List.getElem?_cons_zero, lenV, List.getElem?_toArray, ev_len1, tt73]
    refine hK _ ?_
    clear hK K
    refine tri_block (tri_loop_inv (fun N st => ∃ (i : Nat), N = ts.length - i ∧ i ≤ ts.length ∧ ts.take i = us.take i ∧
      st = { fr := [.undef, .slice (us.map encPm), .sc (.func (.func g) #[] #[]), .undef, .undef, .undef, .undef, .undef, .undef, .undef, .undef, .undef, .undef, .undef, .undef, .slice (ts.map encPm), num ts.length, num i] ++ List.replicate 14 .undef, mem := [] }) ts.length ?_ ?_)
    · exact ⟨0, [false, true, true, false, false, false, false, false, false, false, false, false, false, false, false, true, true, true], by omega, by simp only [maskFr, if_true, if_false, Bool.false_eq_true, List.all_cons, List.all_nil, belowV, Bool.and_self], rfl, 0, by omega, by omega, by simp, rfl⟩
    · rintro N' st ⟨i, rfl, hi, htk, rfl⟩
      simp only [List.replicate_succ, List.replicate_zero, List.cons_append, List.nil_append]
      by_cases hlt : i < ts.length
      · have hd := lt_dec hlt
        refine tri_seq_region tt_ok fun K hK => ?_
        simp only [hd, runOps, stepOp, wantedV, opV, St.eval, St.put, List.set_cons_zero, List.set_cons_succ, List.getD_cons_zero, List.getD_cons_succ, ev_lss, nilLen, gnCmp]
        refine hK _ ?_
        clear hK K
        refine tri_seq (tri_cond rfl (tri_skip ?_))
        refine tri_seq (tri_block ?_)
        obtain ⟨t, ht⟩ : ∃ t, ts[i]? = some t := ⟨_, List.getElem?_eq_getElem hlt⟩
        obtain ⟨u, hu⟩ : ∃ u, us[i]? = some u := ⟨_, List.getElem?_eq_getElem (by omega)⟩
        have hgi := hg i t u ht hu
        simp only [encPm] at hgi
        simp only [tyCells, List.cons_append, List.nil_append] at hgi
        refine tri_seq_region tt_ok fun K hK => ?_
        simp only [List.getElem?_map, ht, encPm, tyCells, List.cons_append, List.nil_append, runOps, stepOp, wantedV, opV, St.eval, St.put, cellsV, oneV, List.all_cons, List.all_nil, Bool.and_self, Value.oneCell', if_true, if_false, setMem, List.length_cons, List.length_nil, Nat.lt_irrefl, List.nil_append, List.cons_append, List.set_cons_zero, List.set_cons_succ, List.getD_cons_zero, List.getD_cons_succ, tElem, tSize, List.map_nil, List.map_cons, loadV, pickCells, List.take_succ_cons, List.take_zero, List.getElem?_cons_zero, List.head?_cons, Nat.zero_add, Nat.reduceAdd, Nat.le_refl, Int.natCast_nonneg, indexV, indexAt, Int.toNat_natCast, V.cells, Option.map_some, storeV, spliceL, tt73, tt77]
        refine hK _ ?_
        clear hK K
        refine tri_seq_region tt_ok fun K hK => ?_
        simp only [List.getElem?_map, hu, encPm, tyCells, List.cons_append, List.nil_append, runOps, stepOp, wantedV, opV, St.eval, St.put, cellsV, oneV, List.all_cons, List.all_nil, Bool.and_self, Value.oneCell', if_true, if_false, setMem, List.length_cons, List.length_nil, Nat.lt_irrefl, List.nil_append, List.cons_append, List.set_cons_zero, List.set_cons_succ, List.getD_cons_zero, List.getD_cons_succ, tElem, tSize, List.map_nil, List.map_cons, loadV, pickCells, List.take_succ_cons, List.take_zero, List.getElem?_cons_zero, List.getElem?_cons_succ, List.head?_cons, Nat.zero_add, Nat.reduceAdd, Nat.le_refl, Int.natCast_nonneg, indexV, indexAt, Int.toNat_natCast, V.cells, Option.map_some, storeV, spliceL, tt73, tt77]
        refine hK _ ?_
        clear hK K
        refine tri_seq_region tt_ok fun K hK => ?_
        simp only [runOps, stepOp, wantedV, opV, St.eval, St.put, if_true, List.length_cons, List.length_nil, List.nil_append, List.append_nil, List.set_cons_zero, List.set_cons_succ, List.getD_cons_zero, List.getD_cons_succ, List.map_nil, List.map_cons, loadV, pickCells, List.drop_zero, List.take_succ_cons, List.take_zero, List.getElem?_cons_zero, List.getElem?_cons_succ, List.head?_cons, Nat.zero_add, Nat.reduceAdd, Nat.le_refl, calleeOf, tt77]
        refine .inl ⟨_, _, by simp only [purL, pur1, purCells, purCell, nilS], hgi, ?_⟩
        try simp only [St.put, List.append_nil, List.set_cons_zero, List.set_cons_succ, List.getD_cons_zero, List.getD_cons_succ, ev_not, memAfter_nil, List.flatMap_cons, List.flatMap_nil, ref1, refCell]
        refine hK _ ?_
        clear hK K
        have htk1 : ∀ h : t = u, ts.take (i + 1) = us.take (i + 1) := fun h => by rw [List.take_add_one, List.take_add_one, htk, ht, hu, h]
        by_cases htu : t = u
        · rw [eqb_true htu]
          refine tri_cond rfl (tri_skip ?_)
          show Tri _ _ _ _ _ _
          refine tri_last_region tt_ok fun K hK => ?_
          simp only [runOps, stepOp, wantedV, opV, St.eval, St.put, absV, List.set_cons_zero, List.set_cons_succ, List.getD_cons_zero, List.getD_cons_succ, ev_add, Bool.not_true, nilLen, gnCmp]
          refine hK _ ?_
          clear hK K
          have hw2 := i64_succ i (by omega)
          rw [hw2]
          exact ⟨ts.length - (i + 1), by omega, 0, [false, true, true, false, false, false, false, false, false, false, false, false, false, false, false, true, true, true], by omega, by simp only [maskFr, if_true, if_false, Bool.false_eq_true, List.all_cons, List.all_nil, belowV, Bool.and_self], rfl, i + 1, rfl, hlt, htk1 htu, rfl⟩
        · rw [eqb_false htu]
          refine tri_cond rfl ?_
          refine tri_seq_region tt_ok fun K hK => ?_
          simp only [runOps, stepOp, wantedV, opV, St.eval, St.put, absV, List.set_cons_zero, List.set_cons_succ, Bool.not_false]
          refine hK _ ?_
          clear hK K
          refine tri_ret ⟨.inl rfl, ?_⟩
          rw [eqb_false (fun e => htu (by rw [e, hu] at ht; exact (Option.some.inj ht).symm))]
          rfl
      · have hd := ge_dec hlt
        refine tri_seq_region tt_ok fun K hK => ?_
        simp only [hd, runOps, stepOp, wantedV, opV, St.eval, St.put, List.set_cons_zero, List.set_cons_succ, List.getD_cons_zero, List.getD_cons_succ, ev_lss, nilLen, gnCmp]
        refine hK _ ?_
        clear hK K
        refine tri_seq (tri_cond rfl (tri_exit ?_))
        have hie : i = ts.length := by omega
        show Tri _ _ _ _ _ _
        refine tri_seq_region tt_ok fun K hK => ?_
        simp only [runOps, stepOp, wantedV, opV, St.eval, St.put, absV, List.set_cons_zero, List.set_cons_succ]
        refine hK _ ?_
        clear hK K
        refine tri_ret ⟨.inl rfl, ?_⟩
        rw [hie, List.take_length, hlen, List.take_length] at htk
        rw [eqb_true htk]
        rfl
  · have hd : (!decide ((ts.length : Int) = (us.length : Int))) = true := by simpa using fun e => hlen (by omega)
    refine tri_seq_region tt_ok fun K hK => ?_
    simp only [List.length_map, hd, runOps, stepOp, wantedV, opV, St.eval, St.put, List.set_cons_zero, List.set_cons_succ, List.getD_cons_zero, List.getD_cons_succ, tElem, List.map_nil, List.map_cons, List.getElem?_cons_zero, lenV, ev_neq, List.getElem?_toArray, nilLen, ev_len1, gnCmp, tt73]
    refine hK _ ?_
    clear hK K
    refine tri_cond rfl ?_
    refine tri_seq_region tt_ok fun K hK => ?_
    simp only [runOps, stepOp, wantedV, opV, St.eval, St.put, absV, List.set_cons_zero, List.set_cons_succ]
    refine hK _ ?_
    clear hK K
    refine tri_ret ⟨.inl rfl, ?_⟩
    rw [eqb_false (fun e => hlen (by rw [e]))]
    rfl

theorem equalDcs_ok (g : FuncId) (ts us : List Dc) (hl : ts.length ≤ 1048576) (hg : ∀ (i : Nat) (t u : Dc), ts[i]? = some t → us[i]? = some u → FnOk Tryz.prog g [encDc t, encDc u] (bl (eqb t u))) :
    FnOk Tryz.prog 73 [.slice (ts.map encDc), .slice (us.map encDc), .sc (.func (.func g) #[] #[])] (bl (eqb ts us)) := by
  refine fn_ok tt_ok (fn := Tryz.f73) Tryz.func73 rfl Tryz.call73 ?_
  simp only [startSt, Tryz.ntmps73, List.length_cons, List.length_nil, Nat.reduceAdd, Nat.reduceSub, List.replicate_succ, List.replicate_zero, List.cons_append, List.nil_append]
  refine tri_seq_region tt_ok fun K hK => ?_
  simp only [runOps, stepOp, wantedV, opV, St.eval, St.put, absV, List.set_cons_zero, List.set_cons_succ]
  refine hK _ ?_
  clear hK K
  refine tri_seq ?_
  by_cases hlen : ts.length = us.length
  · have hd : (!decide ((ts.length : Int) = (us.length : Int))) = false := by simp [hlen]
    refine tri_seq_region tt_ok fun K hK => ?_
    simp only [List.length_map, hd, runOps, stepOp, wantedV, opV, St.eval, St.put, List.set_cons_zero, List.set_cons_succ, List.getD_cons_zero, List.getD_cons_succ, tElem, List.map_nil, List.map_cons, List.getElem?_cons_zero, lenV, ev_neq, List.getElem?_toArray, nilLen, ev_len1, gnCmp, tt31]
    refine hK _ ?_
    clear hK K
    refine tri_cond rfl (tri_skip ?_)
    show Tri _ _ _ _ _ _
    refine tri_seq ?_
    refine tri_seq_region tt_ok fun K hK => ?_
    simp only [List.length_map, runOps, stepOp, wantedV, opV, St.eval, St.put, absV, List.set_cons_zero, List.set_cons_succ, List.getD_cons_zero, List.getD_cons_succ, tElem, List.map_nil, List.map_cons, List.getElem?_cons_zero, lenV, List.getElem?_toArray, ev_len1, tt31]
    refine hK _ ?_
    clear hK K
    refine tri_block (tri_loop_inv (fun N st => ∃ (i : Nat), N = ts.length - i ∧ i ≤ ts.length ∧ ts.take i = us.take i ∧
      st = { fr := [.undef, .slice (us.map encDc), .sc (.func (.func g) #[] #[]), .undef, .undef, .undef, .undef, .undef, .undef, .undef, .undef, .undef, .undef, .undef, .undef, .slice (ts.map encDc), num ts.length, num i] ++ List.replicate 14 .undef, mem := [] }) ts.length ?_ ?_)
    · exact ⟨0, [false, true, true, false, false, false, false, false, false, false, false, false, false, false, false, true, true, true], by omega, by simp only [maskFr, if_true, if_false, Bool.false_eq_true, List.all_cons, List.all_nil, belowV, Bool.and_self], rfl, 0, by omega, by omega, by simp, rfl⟩
    · rintro N' st ⟨i, rfl, hi, htk, rfl⟩
      simp only [List.replicate_succ, List.replicate_zero, List.cons_append, List.nil_append]
      by_cases hlt : i < ts.length
      · have hd := lt_dec hlt
        refine tri_seq_region tt_ok fun K hK => ?_
        simp only [hd, runOps, stepOp, wantedV, opV, St.eval, St.put, List.set_cons_zero, List.set_cons_succ, List.getD_cons_zero, List.getD_cons_succ, ev_lss, nilLen, gnCmp]
        refine hK _ ?_
        clear hK K
        refine tri_seq (tri_cond rfl (tri_skip ?_))
        refine tri_seq (tri_block ?_)
        obtain ⟨t, ht⟩ : ∃ t, ts[i]? = some t := ⟨_, List.getElem?_eq_getElem hlt⟩
        obtain ⟨u, hu⟩ : ∃ u, us[i]? = some u := ⟨_, List.getElem?_eq_getElem (by omega)⟩
        have hgi := hg i t u ht hu
        simp only [encDc] at hgi
        simp only [tyCells, exCells, List.cons_append, List.nil_append] at hgi
        refine tri_seq_region tt_ok fun K hK => ?_
        simp only [List.getElem?_map, ht, encDc, tyCells, exCells, List.cons_append, List.nil_append, runOps, stepOp, wantedV, opV, St.eval, St.put, cellsV, oneV, List.all_cons, List.all_nil, Bool.and_self, Value.oneCell', if_true, if_false, setMem, List.length_cons, List.length_nil, Nat.lt_irrefl, List.nil_append, List.cons_append, List.set_cons_zero, List.set_cons_succ, List.getD_cons_zero, List.getD_cons_succ, tElem, tSize, List.map_nil, List.map_cons, loadV, pickCells, List.take_succ_cons, List.take_zero, List.getElem?_cons_zero, List.head?_cons, Nat.zero_add, Nat.reduceAdd, Nat.le_refl, Int.natCast_nonneg, indexV, indexAt, Int.toNat_natCast, V.cells, Option.map_some, storeV, spliceL, tt31, tt75]
        refine hK _ ?_
        clear hK K
        refine tri_seq_region tt_ok fun K hK => ?_
        simp only [List.getElem?_map, hu, encDc, tyCells, exCells, List.cons_append, List.nil_append, runOps, stepOp, wantedV, opV, St.eval, St.put, cellsV, oneV, List.all_cons, List.all_nil, Bool.and_self, Value.oneCell', if_true, if_false, setMem, List.length_cons, List.length_nil, Nat.lt_irrefl, List.nil_append, List.cons_append, List.set_cons_zero, List.set_cons_succ, List.getD_cons_zero, List.getD_cons_succ, tElem, tSize, List.map_nil, List.map_cons, loadV, pickCells, List.take_succ_cons, List.take_zero, List.getElem?_cons_zero, List.getElem?_cons_succ, List.head?_cons, Nat.zero_add, Nat.reduceAdd, Nat.le_refl, Int.natCast_nonneg, indexV, indexAt, Int.toNat_natCast, V.cells, Option.map_some, storeV, spliceL, tt31, tt75]
        refine hK _ ?_
        clear hK K
        refine tri_seq_region tt_ok fun K hK => ?_
        simp only [runOps, stepOp, wantedV, opV, St.eval, St.put, if_true, List.length_cons, List.length_nil, List.nil_append, List.append_nil, List.set_cons_zero, List.set_cons_succ, List.getD_cons_zero, List.getD_cons_succ, List.map_nil, List.map_cons, loadV, pickCells, List.drop_zero, List.take_succ_cons, List.take_zero, List.getElem?_cons_zero, List.getElem?_cons_succ, List.head?_cons, Nat.zero_add, Nat.reduceAdd, Nat.le_refl, calleeOf, tt75]
        refine .inl ⟨_, _, by simp only [purL, pur1, purCells, purCell, nilS], hgi, ?_⟩
        try simp only [St.put, List.append_nil, List.set_cons_zero, List.set_cons_succ, List.getD_cons_zero, List.getD_cons_succ, ev_not, memAfter_nil, List.flatMap_cons, List.flatMap_nil, ref1, refCell]
        refine hK _ ?_
        clear hK K
        have htk1 : ∀ h : t = u, ts.take (i + 1) = us.take (i + 1) := fun h => by rw [List.take_add_one, List.take_add_one, htk, ht, hu, h]
        by_cases htu : t = u
        · rw [eqb_true htu]
          refine tri_cond rfl (tri_skip ?_)
          show Tri _ _ _ _ _ _
          refine tri_last_region tt_ok fun K hK => ?_
          simp only [runOps, stepOp, wantedV, opV, St.eval, St.put, absV, List.set_cons_zero, List.set_cons_succ, List.getD_cons_zero, List.getD_cons_succ, ev_add, Bool.not_true, nilLen, gnCmp]
          refine hK _ ?_
          clear hK K
          have hw2 := i64_succ i (by omega)
          rw [hw2]
          exact ⟨ts.length - (i + 1), by omega, 0, [false, true, true, false, false, false, false, false, false, false, false, false, false, false, false, true, true, true], by omega, by simp only [maskFr, if_true, if_false, Bool.false_eq_true, List.all_cons, List.all_nil, belowV, Bool.and_self], rfl, i + 1, rfl, hlt, htk1 htu, rfl⟩
        · rw [eqb_false htu]
          refine tri_cond rfl ?_
          refine tri_seq_region tt_ok fun K hK => ?_
          simp only [runOps, stepOp, wantedV, opV, St.eval, St.put, absV, List.set_cons_zero, List.set_cons_succ, Bool.not_false]
          refine hK _ ?_
          clear hK K
          refine tri_ret ⟨.inl rfl, ?_⟩
          rw [eqb_false (fun e => htu (by rw [e, hu] at ht; exact (Option.some.inj ht).symm))]
          rfl
      · have hd := ge_dec hlt
        refine tri_seq_region tt_ok fun K hK => ?_
        simp only [hd, runOps, stepOp, wantedV, opV, St.eval, St.put, List.set_cons_zero, List.set_cons_succ, List.getD_cons_zero, List.getD_cons_succ, ev_lss, nilLen, gnCmp]
        refine hK _ ?_
        clear hK K
        refine tri_seq (tri_cond rfl (tri_exit ?_))
        have hie : i = ts.length := by omega
        show Tri _ _ _ _ _ _
        refine tri_seq_region tt_ok fun K hK => ?_
        simp only [runOps, stepOp, wantedV, opV, St.eval, St.put, absV, List.set_cons_zero, List.set_cons_succ]
        refine hK _ ?_
        clear hK K
        refine tri_ret ⟨.inl rfl, ?_⟩
        rw [hie, List.take_length, hlen, List.take_length] at htk
        rw [eqb_true htk]
        rfl
  · have hd : (!decide ((ts.length : Int) = (us.length : Int))) = true := by simpa using fun e => hlen (by omega)
    refine tri_seq_region tt_ok fun K hK => ?_
    simp only [List.length_map, hd, runOps, stepOp, wantedV, opV, St.eval, St.put, List.set_cons_zero, List.set_cons_succ, List.getD_cons_zero, List.getD_cons_succ, tElem, List.map_nil, List.map_cons, List.getElem?_cons_zero, lenV, ev_neq, List.getElem?_toArray, nilLen, ev_len1, gnCmp, tt31]
    refine hK _ ?_
    clear hK K
    refine tri_cond rfl ?_
    refine tri_seq_region tt_ok fun K hK => ?_
    simp only [runOps, stepOp, wantedV, opV, St.eval, St.put, absV, List.set_cons_zero, List.set_cons_succ]
    refine hK _ ?_
    clear hK K
    refine tri_ret ⟨.inl rfl, ?_⟩
    rw [eqb_false (fun e => hlen (by rw [e]))]
    rfl

end Go.Proofs.YtpjdfcigadnhcaaGreatDoor
end

section
namespace Go.Proofs.YtpjdfcigadnhcaaGreatDoor
open Go.Eng
variable [Glob]
set_option maxHeartbeats 4000000
set_option maxRecDepth 100000
attribute [local irreducible] runM stepM valD stepOp
theorem Lb.ext' {t u : Lb} (h0 : t.name = u.name) (h1 : t.var = u.var) (h2 : t.opt = u.opt) (h3 : t.ty = u.ty) : t = u := by cases t; cases u; simp_all
theorem Pm.ext' {t u : Pm} (h0 : t.name = u.name) (h1 : t.variance = u.variance) (h2 : t.bound = u.bound) : t = u := by cases t; cases u; simp_all
theorem Ex.ext' {t u : Ex} (h0 : t.kind = u.kind) (h1 : t.mod = u.mod) (h2 : t.name = u.name) (h3 : t.text = u.text) (h4 : t.num = u.num) (h5 : t.types = u.types) (h6 : t.kids = u.kids) (h7 : t.labels = u.labels) : t = u := by
  cases t; cases u; simp_all [Ex.kind, Ex.mod, Ex.name, Ex.text, Ex.num, Ex.types, Ex.kids, Ex.labels]
theorem eqLb_ok (t u : Lb) (h : FnOk Tryz.prog 24 [encTy t.ty, encTy u.ty] (bl (eqb t.ty u.ty))) : FnOk Tryz.prog 71 [encLb t, encLb u] (bl (eqb t u)) := by
  refine fn_ok tt_ok (fn := Tryz.f71) Tryz.func71 rfl Tryz.call71 ?_
  simp only [startSt, Tryz.ntmps71, List.length_cons, List.length_nil, Nat.reduceAdd, Nat.reduceSub, List.replicate_succ, List.replicate_zero, List.cons_append, List.nil_append]
  have hT : Tryz.prog.underlying 4 = some .bool := by kernel_rfl
  have hbe := fun x y => ev_beql (P := Tryz.prog) (T := 4) x y hT
  have hbn := fun x y => ev_bneq (P := Tryz.prog) (T := 4) x y hT
  simp only [encLb, tyCells, List.cons_append, List.nil_append]
  refine tri_seq_region tt_ok fun K hK => ?_
  simp only [runOps, stepOp, wantedV, opV, St.eval, St.put, absV, cellsV, oneV, List.all_cons, List.all_nil, Bool.and_self, Value.oneCell', if_true, if_false, setMem, List.length_cons, List.length_nil, Nat.lt_irrefl, List.nil_append, List.cons_append, List.set_cons_zero, List.set_cons_succ, List.getD_cons_zero, List.getD_cons_succ, Nat.zero_add]
  refine hK _ ?_
  clear hK K
  have e0 := bytes_eq t.name u.name
  have e1 := bytes_eq t.var u.var
  have e3 := h
  try simp only [encTy_eq] at e3
  try simp only [tyCells] at e3
  refine tri_seq_region_w tt_ok 31 [0, 0, 0, 0, 2, 1, 1, 1, 1, 1, 1, 1, 1, 1, 1, 1, 1, 1, 1, 1, 1, 1, 1, 1, 1, 1, 1, 1, 1, 1, 1] [(5, 10), (12, 17), (19, 24)] (by kernel_rfl) (by kernel_rfl) fun K hK => ?_
  by_cases h0 : t.name = u.name
  · rw [eqb_true h0] at e0
    refine runOpsW_cut 6 fun K1 hK1 => ?_
    simp only [List.take_succ_cons, List.take_zero]
    simp only [e0, stepOp, opV, St.eval, St.put, if_true, if_false, List.length_cons, List.length_nil, List.getD_cons_zero, List.getD_cons_succ, fieldV, tOff, fieldAt, loadV, pickCells, List.drop_zero, List.take_succ_cons, List.take_zero, List.getElem?_cons_zero, List.getElem?_cons_succ, List.head?_cons, Nat.zero_add, Nat.add_zero, Nat.reduceAdd, Nat.reduceLT, Nat.reduceLeDiff, Nat.reduceEqDiff, Bool.false_eq_true, ev_seql, nilLen, gnCmp, tt9, tt105, runOpsW, wantedW, wr_set, wr_getD, lkF]
    refine hK1 _ ?_
    clear hK1 K1
    by_cases h1 : t.var = u.var
    · rw [eqb_true h1] at e1
      refine runOpsW_cut 7 fun K1 hK1 => ?_
      simp only [List.take_succ_cons, List.take_zero, List.drop_succ_cons, List.drop_zero]
      simp only [e1, stepOp, opV, St.eval, St.put, absV, if_true, if_false, List.length_cons, List.length_nil, List.getD_cons_zero, List.getD_cons_succ, fieldV, tOff, fieldAt, loadV, pickCells, List.drop_zero, List.drop_succ_cons, List.take_succ_cons, List.take_zero, List.getElem?_cons_zero, List.getElem?_cons_succ, List.head?_cons, Nat.zero_add, Nat.reduceAdd, Nat.reduceLT, Nat.reduceLeDiff, Nat.reduceEqDiff, Bool.false_eq_true, ev_seql, beq_self_eq_true, nilLen, gnCmp, tt9, tt105, runOpsW, wantedW, gT, gRead, wr_set, wr_getD, wr_get, lkF]
      refine hK1 _ ?_
      clear hK1 K1
      by_cases h2 : t.opt = u.opt
      · have e2 : (t.opt == u.opt) = true := by simpa using h2
        refine runOpsW_cut 7 fun K1 hK1 => ?_
        simp only [List.take_succ_cons, List.take_zero, List.drop_succ_cons, List.drop_zero]
        simp only [e2, hbe, stepOp, opV, St.eval, St.put, absV, if_true, if_false, List.length_cons, List.length_nil, List.getD_cons_zero, List.getD_cons_succ, fieldV, tOff, fieldAt, loadV, pickCells, List.drop_zero, List.drop_succ_cons, List.take_succ_cons, List.take_zero, List.getElem?_cons_zero, List.getElem?_cons_succ, List.head?_cons, Nat.zero_add, Nat.reduceAdd, Nat.reduceLT, Nat.reduceEqDiff, Nat.le_refl, Bool.false_eq_true, beq_self_eq_true, nilLen, gnCmp, tt4, tt105, runOpsW, wantedW, gT, gRead, wr_set, wr_getD, wr_get, lkF]
        refine hK1 _ ?_
        clear hK1 K1
        by_cases h3 : t.ty = u.ty
        · rw [eqb_true h3] at e3
          try simp only [List.drop_succ_cons, List.drop_zero]
          simp only [stepOp, opV, St.eval, St.put, absV, if_true, if_false, List.length_cons, List.length_nil, List.nil_append, List.append_nil, List.getD_cons_zero, List.getD_cons_succ, List.map_nil, List.map_cons, fieldV, tOff, fieldAt, loadV, pickCells, List.drop_zero, List.drop_succ_cons, List.take_succ_cons, List.take_zero, List.getElem?_cons_zero, List.getElem?_cons_succ, List.head?_cons, Nat.zero_add, Nat.reduceAdd, Nat.reduceLT, Nat.reduceLeDiff, Nat.reduceEqDiff, calleeOf, beq_self_eq_true, tt25, tt105, runOpsW, wantedW, gT, gRead, wr_set, wr_getD, wr_get, lkF]
          refine .inl ⟨_, _, by simp only [purL, pur1, purCells, purCell, nilS], e3, ?_⟩
          try simp only [St.put, if_true, if_false, List.append_nil, List.getD_cons_zero, List.getD_cons_succ, Nat.reduceLT, Nat.reduceEqDiff, memAfter_nil, List.flatMap_cons, List.flatMap_nil, ref1, refCell, wr_set, wr_getD, lkF]
          refine hK _ _ (by kernel_rfl) ?_
          clear hK K
          simp only [mkW, lkF, Nat.reduceAdd, Nat.reduceEqDiff, if_true, if_false]
          refine tri_ret ⟨.inl rfl, ?_⟩
          rw [eqb_true (Lb.ext' h0 h1 h2 h3)]; rfl
        · rw [eqb_false h3] at e3
          try simp only [List.drop_succ_cons, List.drop_zero]
          simp only [stepOp, opV, St.eval, St.put, absV, if_true, if_false, List.length_cons, List.length_nil, List.nil_append, List.append_nil, List.getD_cons_zero, List.getD_cons_succ, List.map_nil, List.map_cons, fieldV, tOff, fieldAt, loadV, pickCells, List.drop_zero, List.drop_succ_cons, List.take_succ_cons, List.take_zero, List.getElem?_cons_zero, List.getElem?_cons_succ, List.head?_cons, Nat.zero_add, Nat.reduceAdd, Nat.reduceLT, Nat.reduceLeDiff, Nat.reduceEqDiff, calleeOf, beq_self_eq_true, tt25, tt105, runOpsW, wantedW, gT, gRead, wr_set, wr_getD, wr_get, lkF]
          refine .inl ⟨_, _, by simp only [purL, pur1, purCells, purCell, nilS], e3, ?_⟩
          try simp only [St.put, if_true, if_false, List.append_nil, List.getD_cons_zero, List.getD_cons_succ, Nat.reduceLT, Nat.reduceEqDiff, memAfter_nil, List.flatMap_cons, List.flatMap_nil, ref1, refCell, wr_set, wr_getD, lkF]
          refine hK _ _ (by kernel_rfl) ?_
          clear hK K
          simp only [mkW, lkF, Nat.reduceAdd, Nat.reduceEqDiff, if_true, if_false]
          refine tri_ret ⟨.inl rfl, ?_⟩
          rw [eqb_false fun e => h3 (by rw [e])]; rfl
      · have e2 : (t.opt == u.opt) = false := by simpa using h2
        try simp only [List.drop_succ_cons, List.drop_zero]
        simp only [e2, hbe, stepOp, opV, St.eval, St.put, absV, if_true, if_false, List.length_cons, List.length_nil, List.getD_cons_zero, List.getD_cons_succ, fieldV, tOff, fieldAt, loadV, pickCells, List.drop_zero, List.drop_succ_cons, List.take_succ_cons, List.take_zero, List.getElem?_cons_zero, List.getElem?_cons_succ, List.head?_cons, Nat.zero_add, Nat.reduceAdd, Nat.reduceLT, Nat.reduceEqDiff, Nat.le_refl, Bool.false_eq_true, beq_self_eq_true, nilLen, ev_ft, gnCmp, tt4, tt105, runOpsW, wantedW, gT, gRead, wr_set, wr_getD, wr_get, lkF]
        refine hK _ _ (by kernel_rfl) ?_
        clear hK K
        simp only [mkW, lkF, Nat.reduceAdd, Nat.reduceEqDiff, if_true, if_false]
        refine tri_ret ⟨.inl rfl, ?_⟩
        rw [eqb_false fun e => h2 (by rw [e])]; rfl
    · rw [eqb_false h1] at e1
      refine runOpsW_cut 14 fun K1 hK1 => ?_
      simp only [List.take_succ_cons, List.take_zero, List.drop_succ_cons, List.drop_zero]
      simp only [e1, stepOp, opV, St.eval, St.put, absV, if_true, if_false, List.length_cons, List.length_nil, List.getD_cons_zero, List.getD_cons_succ, fieldV, tOff, fieldAt, loadV, pickCells, List.drop_zero, List.drop_succ_cons, List.take_succ_cons, List.take_zero, List.getElem?_cons_zero, List.getElem?_cons_succ, List.head?_cons, Nat.zero_add, Nat.reduceAdd, Nat.reduceLT, Nat.reduceLeDiff, Nat.reduceEqDiff, Bool.false_eq_true, ev_seql, beq_self_eq_true, nilLen, ev_ft, gnCmp, tt9, tt105, runOpsW, wantedW, gT, gRead, wr_set, wr_getD, wr_get, lkF]
      refine hK1 _ ?_
      clear hK1 K1
      try simp only [List.drop_succ_cons, List.drop_zero]
      simp only [stepOp, opV, St.eval, St.put, absV, if_true, if_false, List.length_cons, List.length_nil, List.getD_cons_zero, List.getD_cons_succ, Nat.zero_add, Nat.reduceAdd, Nat.reduceLT, Nat.reduceEqDiff, Bool.false_eq_true, ev_ft, runOpsW, wantedW, gT, gRead, wr_set, wr_getD, wr_get, lkF]
      refine hK _ _ (by kernel_rfl) ?_
      clear hK K
      simp only [mkW, lkF, Nat.reduceAdd, Nat.reduceEqDiff, if_true, if_false]
      refine tri_ret ⟨.inl rfl, ?_⟩
      rw [eqb_false fun e => h1 (by rw [e])]; rfl
  · rw [eqb_false h0] at e0
    refine runOpsW_cut 14 fun K1 hK1 => ?_
    simp only [List.take_succ_cons, List.take_zero]
    simp only [e0, stepOp, opV, St.eval, St.put, absV, if_true, if_false, List.length_cons, List.length_nil, List.getD_cons_zero, List.getD_cons_succ, fieldV, tOff, fieldAt, loadV, pickCells, List.drop_zero, List.take_succ_cons, List.take_zero, List.getElem?_cons_zero, List.getElem?_cons_succ, List.head?_cons, Nat.zero_add, Nat.add_zero, Nat.reduceAdd, Nat.reduceLT, Nat.reduceLeDiff, Nat.reduceEqDiff, Bool.false_eq_true, ev_seql, nilLen, ev_ft, gnCmp, tt9, tt105, runOpsW, wantedW, gT, gRead, wr_set, wr_getD, wr_get, lkF]
    refine hK1 _ ?_
    clear hK1 K1
    try simp only [List.drop_succ_cons, List.drop_zero]
    simp only [stepOp, opV, St.eval, St.put, absV, if_true, if_false, List.length_cons, List.length_nil, List.getD_cons_zero, List.getD_cons_succ, Nat.zero_add, Nat.reduceAdd, Nat.reduceLT, Nat.reduceEqDiff, Bool.false_eq_true, ev_ft, runOpsW, wantedW, gT, gRead, wr_set, wr_getD, wr_get, lkF]
    refine hK _ _ (by kernel_rfl) ?_
    clear hK K
    simp only [mkW, lkF, Nat.reduceAdd, Nat.reduceEqDiff, if_true, if_false]
    refine tri_ret ⟨.inl rfl, ?_⟩
    rw [eqb_false fun e => h0 (by rw [e])]; rfl
theorem eqPm_ok (t u : Pm) (h : FnOk Tryz.prog 24 [encTy t.bound, encTy u.bound] (bl (eqb t.bound u.bound))) : FnOk Tryz.prog 109 [encPm t, encPm u] (bl (eqb t u)) := by
  refine fn_ok tt_ok (fn := Tryz.f109) Tryz.func109 rfl Tryz.call109 ?_
  simp only [startSt, Tryz.ntmps109, List.length_cons, List.length_nil, Nat.reduceAdd, Nat.reduceSub, List.replicate_succ, List.replicate_zero, List.cons_append, List.nil_append]
  have hT : Tryz.prog.underlying 4 = some .bool := by kernel_rfl
  have hbe := fun x y => ev_beql (P := Tryz.prog) (T := 4) x y hT
  have hbn := fun x y => ev_bneq (P := Tryz.prog) (T := 4) x y hT
  simp only [encPm, tyCells, List.cons_append, List.nil_append]
  refine tri_seq_region tt_ok fun K hK => ?_
  simp only [runOps, stepOp, wantedV, opV, St.eval, St.put, absV, cellsV, oneV, List.all_cons, List.all_nil, Bool.and_self, Value.oneCell', if_true, if_false, setMem, List.length_cons, List.length_nil, Nat.lt_irrefl, List.nil_append, List.cons_append, List.set_cons_zero, List.set_cons_succ, List.getD_cons_zero, List.getD_cons_succ, Nat.zero_add]
  refine hK _ ?_
  clear hK K
  have e0 := bytes_eq t.name u.name
  have e2 := h
  try simp only [encTy_eq] at e2
  try simp only [tyCells] at e2
  refine tri_seq_region_w tt_ok 24 [0, 0, 0, 0, 2, 1, 1, 1, 1, 1, 1, 1, 1, 1, 1, 1, 1, 1, 1, 1, 1, 1, 1, 1] [(5, 10), (12, 17)] (by kernel_rfl) (by kernel_rfl) fun K hK => ?_
  by_cases h0 : t.name = u.name
  · rw [eqb_true h0] at e0
    refine runOpsW_cut 6 fun K1 hK1 => ?_
    simp only [List.take_succ_cons, List.take_zero]
    simp only [e0, stepOp, opV, St.eval, St.put, if_true, if_false, List.length_cons, List.length_nil, List.getD_cons_zero, List.getD_cons_succ, fieldV, tOff, fieldAt, loadV, pickCells, List.drop_zero, List.take_succ_cons, List.take_zero, List.getElem?_cons_zero, List.getElem?_cons_succ, List.head?_cons, Nat.zero_add, Nat.add_zero, Nat.reduceAdd, Nat.reduceLT, Nat.reduceLeDiff, Nat.reduceEqDiff, Bool.false_eq_true, ev_seql, nilLen, gnCmp, tt9, tt77, runOpsW, wantedW, wr_set, wr_getD, lkF]
    refine hK1 _ ?_
    clear hK1 K1
    by_cases h1 : t.variance = u.variance
    · have e1 : decide (t.variance = u.variance) = true := decide_eq_true h1
      refine runOpsW_cut 7 fun K1 hK1 => ?_
      simp only [List.take_succ_cons, List.take_zero, List.drop_succ_cons, List.drop_zero]
      simp only [e1, stepOp, opV, St.eval, St.put, absV, if_true, if_false, List.length_cons, List.length_nil, List.getD_cons_zero, List.getD_cons_succ, fieldV, tOff, fieldAt, loadV, pickCells, List.drop_zero, List.drop_succ_cons, List.take_succ_cons, List.take_zero, List.getElem?_cons_zero, List.getElem?_cons_succ, List.head?_cons, Nat.zero_add, Nat.reduceAdd, Nat.reduceLT, Nat.reduceLeDiff, Nat.reduceEqDiff, Bool.false_eq_true, ev_eql, beq_self_eq_true, nilLen, gnCmp, tt3, tt77, runOpsW, wantedW, gT, gRead, wr_set, wr_getD, wr_get, lkF]
      refine hK1 _ ?_
      clear hK1 K1
      by_cases h2 : t.bound = u.bound
      · rw [eqb_true h2] at e2
        try simp only [List.drop_succ_cons, List.drop_zero]
        simp only [stepOp, opV, St.eval, St.put, absV, if_true, if_false, List.length_cons, List.length_nil, List.nil_append, List.append_nil, List.getD_cons_zero, List.getD_cons_succ, List.map_nil, List.map_cons, fieldV, tOff, fieldAt, loadV, pickCells, List.drop_zero, List.drop_succ_cons, List.take_succ_cons, List.take_zero, List.getElem?_cons_zero, List.getElem?_cons_succ, List.head?_cons, Nat.zero_add, Nat.reduceAdd, Nat.reduceLT, Nat.reduceEqDiff, Nat.le_refl, calleeOf, beq_self_eq_true, tt25, tt77, runOpsW, wantedW, gT, gRead, wr_set, wr_getD, wr_get, lkF]
        refine .inl ⟨_, _, by simp only [purL, pur1, purCells, purCell, nilS], e2, ?_⟩
        try simp only [St.put, if_true, if_false, List.append_nil, List.getD_cons_zero, List.getD_cons_succ, Nat.reduceLT, Nat.reduceEqDiff, memAfter_nil, List.flatMap_cons, List.flatMap_nil, ref1, refCell, wr_set, wr_getD, lkF]
        refine hK _ _ (by kernel_rfl) ?_
        clear hK K
        simp only [mkW, lkF, Nat.reduceAdd, Nat.reduceEqDiff, if_true, if_false]
        refine tri_ret ⟨.inl rfl, ?_⟩
        rw [eqb_true (Pm.ext' h0 h1 h2)]; rfl
      · rw [eqb_false h2] at e2
        try simp only [List.drop_succ_cons, List.drop_zero]
        simp only [stepOp, opV, St.eval, St.put, absV, if_true, if_false, List.length_cons, List.length_nil, List.nil_append, List.append_nil, List.getD_cons_zero, List.getD_cons_succ, List.map_nil, List.map_cons, fieldV, tOff, fieldAt, loadV, pickCells, List.drop_zero, List.drop_succ_cons, List.take_succ_cons, List.take_zero, List.getElem?_cons_zero, List.getElem?_cons_succ, List.head?_cons, Nat.zero_add, Nat.reduceAdd, Nat.reduceLT, Nat.reduceEqDiff, Nat.le_refl, calleeOf, beq_self_eq_true, tt25, tt77, runOpsW, wantedW, gT, gRead, wr_set, wr_getD, wr_get, lkF]
        refine .inl ⟨_, _, by simp only [purL, pur1, purCells, purCell, nilS], e2, ?_⟩
        try simp only [St.put, if_true, if_false, List.append_nil, List.getD_cons_zero, List.getD_cons_succ, Nat.reduceLT, Nat.reduceEqDiff, memAfter_nil, List.flatMap_cons, List.flatMap_nil, ref1, refCell, wr_set, wr_getD, lkF]
        refine hK _ _ (by kernel_rfl) ?_
        clear hK K
        simp only [mkW, lkF, Nat.reduceAdd, Nat.reduceEqDiff, if_true, if_false]
        refine tri_ret ⟨.inl rfl, ?_⟩
        rw [eqb_false fun e => h2 (by rw [e])]; rfl
    · have e1 : decide (t.variance = u.variance) = false := decide_eq_false h1
      try simp only [List.drop_succ_cons, List.drop_zero]
      simp only [e1, stepOp, opV, St.eval, St.put, absV, if_true, if_false, List.length_cons, List.length_nil, List.getD_cons_zero, List.getD_cons_succ, fieldV, tOff, fieldAt, loadV, pickCells, List.drop_zero, List.drop_succ_cons, List.take_succ_cons, List.take_zero, List.getElem?_cons_zero, List.getElem?_cons_succ, List.head?_cons, Nat.zero_add, Nat.reduceAdd, Nat.reduceLT, Nat.reduceLeDiff, Nat.reduceEqDiff, Bool.false_eq_true, ev_eql, beq_self_eq_true, nilLen, ev_ft, gnCmp, tt3, tt77, runOpsW, wantedW, gT, gRead, wr_set, wr_getD, wr_get, lkF]
      refine hK _ _ (by kernel_rfl) ?_
      clear hK K
      simp only [mkW, lkF, Nat.reduceAdd, Nat.reduceEqDiff, if_true, if_false]
      refine tri_ret ⟨.inl rfl, ?_⟩
      rw [eqb_false fun e => h1 (by rw [e])]; rfl
  · rw [eqb_false h0] at e0
    refine runOpsW_cut 14 fun K1 hK1 => ?_
    simp only [List.take_succ_cons, List.take_zero]
    simp only [e0, stepOp, opV, St.eval, St.put, absV, if_true, if_false, List.length_cons, List.length_nil, List.getD_cons_zero, List.getD_cons_succ, fieldV, tOff, fieldAt, loadV, pickCells, List.drop_zero, List.take_succ_cons, List.take_zero, List.getElem?_cons_zero, List.getElem?_cons_succ, List.head?_cons, Nat.zero_add, Nat.add_zero, Nat.reduceAdd, Nat.reduceLT, Nat.reduceLeDiff, Nat.reduceEqDiff, Bool.false_eq_true, ev_seql, nilLen, ev_ft, gnCmp, tt9, tt77, runOpsW, wantedW, gT, gRead, wr_set, wr_getD, wr_get, lkF]
    refine hK1 _ ?_
    clear hK1 K1
    try simp only [List.drop_succ_cons, List.drop_zero]
    simp only [stepOp, opV, St.eval, St.put, absV, if_true, if_false, List.length_cons, List.length_nil, List.getD_cons_zero, List.getD_cons_succ, Nat.zero_add, Nat.reduceAdd, Nat.reduceLT, Nat.reduceEqDiff, Bool.false_eq_true, ev_ft, runOpsW, wantedW, gT, gRead, wr_set, wr_getD, wr_get, lkF]
    refine hK _ _ (by kernel_rfl) ?_
    clear hK K
    simp only [mkW, lkF, Nat.reduceAdd, Nat.reduceEqDiff, if_true, if_false]
    refine tri_ret ⟨.inl rfl, ?_⟩
    rw [eqb_false fun e => h0 (by rw [e])]; rfl
theorem seqEx1_ok (t u : Ex) (ht : FnOk Tryz.prog 63 [.slice (encTys t.types), .slice (encTys u.types), .sc (.func (.func 24) #[] #[])] (bl (eqb t.types u.types))) (hk : FnOk Tryz.prog 69 [.slice (encExs t.kids), .slice (encExs u.kids), .sc (.func (.func 28) #[] #[])] (bl (eqb t.kids u.kids))) (hl : FnOk Tryz.prog 70 [.slice (t.labels.map encLb), .slice (u.labels.map encLb), .sc (.func (.func 71) #[] #[])] (bl (eqb t.labels u.labels))) : FnOk Tryz.prog 28 [encEx t, encEx u] (bl (eqb t u)) := by
  refine fn_ok tt_ok (fn := Tryz.f28) Tryz.func28 rfl Tryz.call28 ?_
  simp only [startSt, Tryz.ntmps28, List.length_cons, List.length_nil, Nat.reduceAdd, Nat.reduceSub, List.replicate_succ, List.replicate_zero, List.cons_append, List.nil_append]
  have hT : Tryz.prog.underlying 4 = some .bool := by kernel_rfl
  have hbe := fun x y => ev_beql (P := Tryz.prog) (T := 4) x y hT
  have hbn := fun x y => ev_bneq (P := Tryz.prog) (T := 4) x y hT
  simp only [encEx_eq, exCells]
  refine tri_seq_region tt_ok fun K hK => ?_
  simp only [runOps, stepOp, wantedV, opV, St.eval, St.put, absV, cellsV, oneV, List.all_cons, List.all_nil, Bool.and_self, Value.oneCell', if_true, if_false, setMem, List.length_cons, List.length_nil, Nat.lt_irrefl, List.nil_append, List.cons_append, List.set_cons_zero, List.set_cons_succ, List.getD_cons_zero, List.getD_cons_succ, Nat.zero_add]
  refine hK _ ?_
  clear hK K
  have e1 := bytes_eq t.mod u.mod
  have e2 := bytes_eq t.name u.name
  have e3 := bytes_eq t.text u.text
  have e5 := ht
  try simp only [encTy_eq, encEx_eq] at e5
  try simp only [tyCells, exCells] at e5
  have e6 := hk
  try simp only [encTy_eq, encEx_eq] at e6
  try simp only [tyCells, exCells] at e6
  have e7 := hl
  try simp only [encTy_eq, encEx_eq] at e7
  try simp only [tyCells, exCells] at e7
  refine tri_seq_region_w tt_ok 59 [0, 0, 0, 0, 2, 1, 1, 1, 1, 1, 1, 1, 1, 1, 1, 1, 1, 1, 1, 1, 1, 1, 1, 1, 1, 1, 1, 1, 1, 1, 1, 1, 1, 1, 1, 1, 1, 1, 1, 1, 1, 1, 1, 1, 1, 1, 1, 1, 1, 1, 1, 1, 1, 1, 1, 1, 1, 1, 1] [(5, 10), (12, 17), (19, 24), (26, 31), (33, 38), (40, 45), (47, 52)] (by kernel_rfl) (by kernel_rfl) fun K hK => ?_
  by_cases h0 : t.kind = u.kind
  · have e0 : decide (t.kind = u.kind) = true := decide_eq_true h0
    refine runOpsW_cut 6 fun K1 hK1 => ?_
    simp only [List.take_succ_cons, List.take_zero]
    simp only [e0, stepOp, opV, St.eval, St.put, if_true, if_false, List.length_cons, List.length_nil, List.getD_cons_zero, List.getD_cons_succ, fieldV, tOff, fieldAt, loadV, pickCells, List.drop_zero, List.take_succ_cons, List.take_zero, List.getElem?_cons_zero, List.getElem?_cons_succ, List.head?_cons, Nat.zero_add, Nat.add_zero, Nat.reduceAdd, Nat.reduceLT, Nat.reduceLeDiff, Nat.reduceEqDiff, Bool.false_eq_true, ev_eql, nilLen, gnCmp, tt3, tt29, runOpsW, wantedW, wr_set, wr_getD, lkF]
    refine hK1 _ ?_
    clear hK1 K1
    by_cases h1 : t.mod = u.mod
    · rw [eqb_true h1] at e1
      refine runOpsW_cut 7 fun K1 hK1 => ?_
      simp only [List.take_succ_cons, List.take_zero, List.drop_succ_cons, List.drop_zero]
      simp only [e1, stepOp, opV, St.eval, St.put, absV, if_true, if_false, List.length_cons, List.length_nil, List.getD_cons_zero, List.getD_cons_succ, fieldV, tOff, fieldAt, loadV, pickCells, List.drop_zero, List.drop_succ_cons, List.take_succ_cons, List.take_zero, List.getElem?_cons_zero, List.getElem?_cons_succ, List.head?_cons, Nat.zero_add, Nat.reduceAdd, Nat.reduceLT, Nat.reduceLeDiff, Nat.reduceEqDiff, Bool.false_eq_true, ev_seql, beq_self_eq_true, nilLen, gnCmp, tt9, tt29, runOpsW, wantedW, gT, gRead, wr_set, wr_getD, wr_get, lkF]
      refine hK1 _ ?_
      clear hK1 K1
      by_cases h2 : t.name = u.name
      · rw [eqb_true h2] at e2
        refine runOpsW_cut 7 fun K1 hK1 => ?_
        simp only [List.take_succ_cons, List.take_zero, List.drop_succ_cons, List.drop_zero]
        simp only [e2, stepOp, opV, St.eval, St.put, absV, if_true, if_false, List.length_cons, List.length_nil, List.getD_cons_zero, List.getD_cons_succ, fieldV, tOff, fieldAt, loadV, pickCells, List.drop_zero, List.drop_succ_cons, List.take_succ_cons, List.take_zero, List.getElem?_cons_zero, List.getElem?_cons_succ, List.head?_cons, Nat.zero_add, Nat.reduceAdd, Nat.reduceLT, Nat.reduceLeDiff, Nat.reduceEqDiff, Bool.false_eq_true, ev_seql, beq_self_eq_true, nilLen, gnCmp, tt9, tt29, runOpsW, wantedW, gT, gRead, wr_set, wr_getD, wr_get, lkF]
        refine hK1 _ ?_
        clear hK1 K1
        by_cases h3 : t.text = u.text
        · rw [eqb_true h3] at e3
          refine runOpsW_cut 7 fun K1 hK1 => ?_
          simp only [List.take_succ_cons, List.take_zero, List.drop_succ_cons, List.drop_zero]
          simp only [e3, stepOp, opV, St.eval, St.put, absV, if_true, if_false, List.length_cons, List.length_nil, List.getD_cons_zero, List.getD_cons_succ, fieldV, tOff, fieldAt, loadV, pickCells, List.drop_zero, List.drop_succ_cons, List.take_succ_cons, List.take_zero, List.getElem?_cons_zero, List.getElem?_cons_succ, List.head?_cons, Nat.zero_add, Nat.reduceAdd, Nat.reduceLT, Nat.reduceLeDiff, Nat.reduceEqDiff, Bool.false_eq_true, ev_seql, beq_self_eq_true, nilLen, gnCmp, tt9, tt29, runOpsW, wantedW, gT, gRead, wr_set, wr_getD, wr_get, lkF]
          refine hK1 _ ?_
          clear hK1 K1
          by_cases h4 : t.num = u.num
          · have e4 : decide (t.num = u.num) = true := decide_eq_true h4
            refine runOpsW_cut 7 fun K1 hK1 => ?_
            simp only [List.take_succ_cons, List.take_zero, List.drop_succ_cons, List.drop_zero]
            simp only [e4, stepOp, opV, St.eval, St.put, absV, if_true, if_false, List.length_cons, List.length_nil, List.getD_cons_zero, List.getD_cons_succ, fieldV, tOff, fieldAt, loadV, pickCells, List.drop_zero, List.drop_succ_cons, List.take_succ_cons, List.take_zero, List.getElem?_cons_zero, List.getElem?_cons_succ, List.head?_cons, Nat.zero_add, Nat.reduceAdd, Nat.reduceLT, Nat.reduceLeDiff, Nat.reduceEqDiff, Bool.false_eq_true, ev_eql, beq_self_eq_true, nilLen, gnCmp, tt3, tt29, runOpsW, wantedW, gT, gRead, wr_set, wr_getD, wr_get, lkF]
            refine hK1 _ ?_
            clear hK1 K1
            by_cases h5 : t.types = u.types
            · rw [eqb_true h5] at e5
              refine runOpsW_cut 7 fun K1 hK1 => ?_
              simp only [List.take_succ_cons, List.take_zero, List.drop_succ_cons, List.drop_zero]
              simp only [stepOp, opV, St.eval, St.put, absV, if_true, if_false, List.length_cons, List.length_nil, List.nil_append, List.append_nil, List.getD_cons_zero, List.getD_cons_succ, List.map_nil, List.map_cons, fieldV, tOff, fieldAt, loadV, pickCells, List.drop_zero, List.drop_succ_cons, List.take_succ_cons, List.take_zero, List.getElem?_cons_zero, List.getElem?_cons_succ, List.head?_cons, Nat.zero_add, Nat.reduceAdd, Nat.reduceLT, Nat.reduceLeDiff, Nat.reduceEqDiff, Bool.false_eq_true, calleeOf, beq_self_eq_true, tt22, tt29, runOpsW, wantedW, gT, gRead, wr_set, wr_getD, wr_get, lkF]
              refine .inl ⟨_, _, by simp only [purL, pur1, purCell, nilS], e5, ?_⟩
              try simp only [St.put, if_true, if_false, List.append_nil, List.getD_cons_zero, List.getD_cons_succ, Nat.reduceLT, Nat.reduceEqDiff, memAfter_nil, List.flatMap_cons, List.flatMap_nil, ref1, refCell, wr_set, wr_getD, lkF]
              refine hK1 _ ?_
              clear hK1 K1
              by_cases h6 : t.kids = u.kids
              · rw [eqb_true h6] at e6
                refine runOpsW_cut 7 fun K1 hK1 => ?_
                simp only [List.take_succ_cons, List.take_zero, List.drop_succ_cons, List.drop_zero]
                simp only [stepOp, opV, St.eval, St.put, absV, if_true, if_false, List.length_cons, List.length_nil, List.nil_append, List.append_nil, List.getD_cons_zero, List.getD_cons_succ, List.map_nil, List.map_cons, fieldV, tOff, fieldAt, loadV, pickCells, List.drop_zero, List.drop_succ_cons, List.take_succ_cons, List.take_zero, List.getElem?_cons_zero, List.getElem?_cons_succ, List.head?_cons, Nat.zero_add, Nat.reduceAdd, Nat.reduceLT, Nat.reduceEqDiff, Nat.le_refl, Bool.false_eq_true, calleeOf, beq_self_eq_true, tt27, tt29, runOpsW, wantedW, gT, gRead, wr_set, wr_getD, wr_get, lkF]
                refine .inl ⟨_, _, by simp only [purL, pur1, purCell, nilS], e6, ?_⟩
                try simp only [St.put, if_true, if_false, List.append_nil, List.getD_cons_zero, List.getD_cons_succ, Nat.reduceLT, Nat.reduceEqDiff, memAfter_nil, List.flatMap_cons, List.flatMap_nil, ref1, refCell, wr_set, wr_getD, lkF]
                refine hK1 _ ?_
                clear hK1 K1
                by_cases h7 : t.labels = u.labels
                · rw [eqb_true h7] at e7
                  try simp only [List.drop_succ_cons, List.drop_zero]
                  simp only [stepOp, opV, St.eval, St.put, absV, if_true, if_false, List.length_cons, List.length_nil, List.nil_append, List.append_nil, List.getD_cons_zero, List.getD_cons_succ, List.map_nil, List.map_cons, fieldV, tOff, fieldAt, loadV, pickCells, List.drop_zero, List.drop_succ_cons, List.take_succ_cons, List.take_zero, List.getElem?_cons_zero, List.getElem?_cons_succ, List.head?_cons, Nat.zero_add, Nat.reduceAdd, Nat.reduceLT, Nat.reduceLeDiff, Nat.reduceEqDiff, Bool.false_eq_true, calleeOf, beq_self_eq_true, tt26, tt29, runOpsW, wantedW, gT, gRead, wr_set, wr_getD, wr_get, lkF]
                  refine .inl ⟨_, _, by simp only [purL, pur1, purCell, nilS], e7, ?_⟩
                  try simp only [St.put, if_true, if_false, List.append_nil, List.getD_cons_zero, List.getD_cons_succ, Nat.reduceLT, Nat.reduceEqDiff, memAfter_nil, List.flatMap_cons, List.flatMap_nil, ref1, refCell, wr_set, wr_getD, lkF]
                  refine hK _ _ (by kernel_rfl) ?_
                  clear hK K
                  simp only [mkW, lkF, Nat.reduceAdd, Nat.reduceEqDiff, if_true, if_false]
                  refine tri_ret ⟨.inl rfl, ?_⟩
                  rw [eqb_true (Ex.ext' h0 h1 h2 h3 h4 h5 h6 h7)]; rfl
                · rw [eqb_false h7] at e7
                  try simp only [List.drop_succ_cons, List.drop_zero]
                  simp only [stepOp, opV, St.eval, St.put, absV, if_true, if_false, List.length_cons, List.length_nil, List.nil_append, List.append_nil, List.getD_cons_zero, List.getD_cons_succ, List.map_nil, List.map_cons, fieldV, tOff, fieldAt, loadV, pickCells, List.drop_zero, List.drop_succ_cons, List.take_succ_cons, List.take_zero, List.getElem?_cons_zero, List.getElem?_cons_succ, List.head?_cons, Nat.zero_add, Nat.reduceAdd, Nat.reduceLT, Nat.reduceLeDiff, Nat.reduceEqDiff, Bool.false_eq_true, calleeOf, beq_self_eq_true, tt26, tt29, runOpsW, wantedW, gT, gRead, wr_set, wr_getD, wr_get, lkF]
                  refine .inl ⟨_, _, by simp only [purL, pur1, purCell, nilS], e7, ?_⟩
                  try simp only [St.put, if_true, if_false, List.append_nil, List.getD_cons_zero, List.getD_cons_succ, Nat.reduceLT, Nat.reduceEqDiff, memAfter_nil, List.flatMap_cons, List.flatMap_nil, ref1, refCell, wr_set, wr_getD, lkF]
                  refine hK _ _ (by kernel_rfl) ?_
                  clear hK K
                  simp only [mkW, lkF, Nat.reduceAdd, Nat.reduceEqDiff, if_true, if_false]
                  refine tri_ret ⟨.inl rfl, ?_⟩
                  rw [eqb_false fun e => h7 (by rw [e])]; rfl
              · rw [eqb_false h6] at e6
                try simp only [List.drop_succ_cons, List.drop_zero]
                simp only [stepOp, opV, St.eval, St.put, absV, if_true, if_false, List.length_cons, List.length_nil, List.nil_append, List.append_nil, List.getD_cons_zero, List.getD_cons_succ, List.map_nil, List.map_cons, fieldV, tOff, fieldAt, loadV, pickCells, List.drop_zero, List.drop_succ_cons, List.take_succ_cons, List.take_zero, List.getElem?_cons_zero, List.getElem?_cons_succ, List.head?_cons, Nat.zero_add, Nat.reduceAdd, Nat.reduceLT, Nat.reduceEqDiff, Nat.le_refl, Bool.false_eq_true, V.cells, calleeOf, beq_self_eq_true, rowOf, tt26, tt27, tt29, runOpsW, wantedW, gT, gRead, wr_set, wr_getD, wr_get, lkF]
                refine .inl ⟨_, _, by simp only [purL, pur1, purCell, nilS], e6, ?_⟩
                try simp only [St.put, if_true, if_false, List.append_nil, List.getD_cons_zero, List.getD_cons_succ, Nat.reduceLT, Nat.reduceEqDiff, Bool.false_eq_true, memAfter_nil, List.flatMap_cons, List.flatMap_nil, ref1, refCell, ev_ft, wr_set, wr_getD, wr_get, lkF]
                refine hK _ _ (by kernel_rfl) ?_
                clear hK K
                simp only [mkW, lkF, Nat.reduceAdd, Nat.reduceEqDiff, if_true, if_false]
                refine tri_ret ⟨.inl rfl, ?_⟩
                rw [eqb_false fun e => h6 (by rw [e])]; rfl
            · rw [eqb_false h5] at e5
              refine runOpsW_cut 14 fun K1 hK1 => ?_
              simp only [List.take_succ_cons, List.take_zero, List.drop_succ_cons, List.drop_zero]
              simp only [stepOp, opV, St.eval, St.put, absV, if_true, if_false, List.length_cons, List.length_nil, List.nil_append, List.append_nil, List.getD_cons_zero, List.getD_cons_succ, List.map_nil, List.map_cons, fieldV, tOff, fieldAt, loadV, pickCells, List.drop_zero, List.drop_succ_cons, List.take_succ_cons, List.take_zero, List.getElem?_cons_zero, List.getElem?_cons_succ, List.head?_cons, Nat.zero_add, Nat.reduceAdd, Nat.reduceLT, Nat.reduceLeDiff, Nat.reduceEqDiff, Bool.false_eq_true, V.cells, calleeOf, beq_self_eq_true, rowOf, tt22, tt27, tt29, runOpsW, wantedW, gT, gRead, wr_set, wr_getD, wr_get, lkF]
              refine .inl ⟨_, _, by simp only [purL, pur1, purCell, nilS], e5, ?_⟩
              try simp only [St.put, if_true, if_false, List.append_nil, List.getD_cons_zero, List.getD_cons_succ, Nat.reduceLT, Nat.reduceEqDiff, Bool.false_eq_true, memAfter_nil, List.flatMap_cons, List.flatMap_nil, ref1, refCell, ev_ft, wr_set, wr_getD, wr_get, lkF]
              refine hK1 _ ?_
              clear hK1 K1
              try simp only [List.drop_succ_cons, List.drop_zero]
              simp only [stepOp, opV, St.eval, St.put, absV, if_true, if_false, List.length_cons, List.length_nil, List.getD_cons_zero, List.getD_cons_succ, Nat.zero_add, Nat.reduceAdd, Nat.reduceLT, Nat.reduceEqDiff, Bool.false_eq_true, ev_ft, runOpsW, wantedW, gT, gRead, wr_set, wr_getD, wr_get, lkF]
              refine hK _ _ (by kernel_rfl) ?_
              clear hK K
              simp only [mkW, lkF, Nat.reduceAdd, Nat.reduceEqDiff, if_true, if_false]
              refine tri_ret ⟨.inl rfl, ?_⟩
              rw [eqb_false fun e => h5 (by rw [e])]; rfl
          · have e4 : decide (t.num = u.num) = false := decide_eq_false h4
            refine runOpsW_cut 14 fun K1 hK1 => ?_
            simp only [List.take_succ_cons, List.take_zero, List.drop_succ_cons, List.drop_zero]
            simp only [e4, stepOp, opV, St.eval, St.put, absV, if_true, if_false, List.length_cons, List.length_nil, List.getD_cons_zero, List.getD_cons_succ, fieldV, tOff, fieldAt, loadV, pickCells, List.drop_zero, List.drop_succ_cons, List.take_succ_cons, List.take_zero, List.getElem?_cons_zero, List.getElem?_cons_succ, List.head?_cons, Nat.zero_add, Nat.reduceAdd, Nat.reduceLT, Nat.reduceLeDiff, Nat.reduceEqDiff, Bool.false_eq_true, ev_eql, beq_self_eq_true, nilLen, ev_ft, gnCmp, tt3, tt29, runOpsW, wantedW, gT, gRead, wr_set, wr_getD, wr_get, lkF]
            refine hK1 _ ?_
            clear hK1 K1
            try simp only [List.drop_succ_cons, List.drop_zero]
            simp only [stepOp, opV, St.eval, St.put, absV, if_true, if_false, List.length_cons, List.length_nil, List.getD_cons_zero, List.getD_cons_succ, Nat.zero_add, Nat.reduceAdd, Nat.reduceLT, Nat.reduceEqDiff, Bool.false_eq_true, ev_ft, runOpsW, wantedW, gT, gRead, wr_set, wr_getD, wr_get, lkF]
            refine hK _ _ (by kernel_rfl) ?_
            clear hK K
            simp only [mkW, lkF, Nat.reduceAdd, Nat.reduceEqDiff, if_true, if_false]
            refine tri_ret ⟨.inl rfl, ?_⟩
            rw [eqb_false fun e => h4 (by rw [e])]; rfl
        · rw [eqb_false h3] at e3
          refine runOpsW_cut 14 fun K1 hK1 => ?_
          simp only [List.take_succ_cons, List.take_zero, List.drop_succ_cons, List.drop_zero]
          simp only [e3, stepOp, opV, St.eval, St.put, absV, if_true, if_false, List.length_cons, List.length_nil, List.getD_cons_zero, List.getD_cons_succ, fieldV, tOff, fieldAt, loadV, pickCells, List.drop_zero, List.drop_succ_cons, List.take_succ_cons, List.take_zero, List.getElem?_cons_zero, List.getElem?_cons_succ, List.head?_cons, Nat.zero_add, Nat.reduceAdd, Nat.reduceLT, Nat.reduceLeDiff, Nat.reduceEqDiff, Bool.false_eq_true, ev_seql, beq_self_eq_true, nilLen, ev_ft, gnCmp, tt9, tt29, runOpsW, wantedW, gT, gRead, wr_set, wr_getD, wr_get, lkF]
          refine hK1 _ ?_
          clear hK1 K1
          refine runOpsW_cut 14 fun K1 hK1 => ?_
          simp only [List.take_succ_cons, List.take_zero, List.drop_succ_cons, List.drop_zero]
          simp only [stepOp, opV, St.eval, St.put, absV, if_true, if_false, List.length_cons, List.length_nil, List.getD_cons_zero, List.getD_cons_succ, Nat.zero_add, Nat.reduceAdd, Nat.reduceLT, Nat.reduceEqDiff, Bool.false_eq_true, ev_ft, runOpsW, wantedW, gT, gRead, wr_set, wr_getD, wr_get, lkF]
          refine hK1 _ ?_
          clear hK1 K1
          try simp only [List.drop_succ_cons, List.drop_zero]
          simp only [stepOp, opV, St.eval, St.put, absV, if_true, if_false, List.length_cons, List.length_nil, List.getD_cons_zero, List.getD_cons_succ, Nat.zero_add, Nat.reduceAdd, Nat.reduceLT, Nat.reduceEqDiff, Bool.false_eq_true, ev_ft, runOpsW, wantedW, gT, gRead, wr_set, wr_getD, wr_get, lkF]
          refine hK _ _ (by kernel_rfl) ?_
          clear hK K
          simp only [mkW, lkF, Nat.reduceAdd, Nat.reduceEqDiff, if_true, if_false]
          refine tri_ret ⟨.inl rfl, ?_⟩
          rw [eqb_false fun e => h3 (by rw [e])]; rfl
      · rw [eqb_false h2] at e2
        refine runOpsW_cut 14 fun K1 hK1 => ?_
        simp only [List.take_succ_cons, List.take_zero, List.drop_succ_cons, List.drop_zero]
        simp only [e2, stepOp, opV, St.eval, St.put, absV, if_true, if_false, List.length_cons, List.length_nil, List.getD_cons_zero, List.getD_cons_succ, fieldV, tOff, fieldAt, loadV, pickCells, List.drop_zero, List.drop_succ_cons, List.take_succ_cons, List.take_zero, List.getElem?_cons_zero, List.getElem?_cons_succ, List.head?_cons, Nat.zero_add, Nat.reduceAdd, Nat.reduceLT, Nat.reduceLeDiff, Nat.reduceEqDiff, Bool.false_eq_true, ev_seql, beq_self_eq_true, nilLen, ev_ft, gnCmp, tt9, tt29, runOpsW, wantedW, gT, gRead, wr_set, wr_getD, wr_get, lkF]
        refine hK1 _ ?_
        clear hK1 K1
        refine runOpsW_cut 14 fun K1 hK1 => ?_
        simp only [List.take_succ_cons, List.take_zero, List.drop_succ_cons, List.drop_zero]
        simp only [stepOp, opV, St.eval, St.put, absV, if_true, if_false, List.length_cons, List.length_nil, List.getD_cons_zero, List.getD_cons_succ, Nat.zero_add, Nat.reduceAdd, Nat.reduceLT, Nat.reduceEqDiff, Bool.false_eq_true, ev_ft, runOpsW, wantedW, gT, gRead, wr_set, wr_getD, wr_get, lkF]
        refine hK1 _ ?_
        clear hK1 K1
        try simp only [List.drop_succ_cons, List.drop_zero]
        simp only [stepOp, opV, St.eval, St.put, absV, if_true, if_false, List.length_cons, List.length_nil, List.getD_cons_zero, List.getD_cons_succ, Nat.zero_add, Nat.reduceAdd, Nat.reduceLT, Nat.reduceEqDiff, Bool.false_eq_true, ev_ft, runOpsW, wantedW, gT, gRead, wr_set, wr_getD, wr_get, lkF]
        refine hK _ _ (by kernel_rfl) ?_
        clear hK K
        simp only [mkW, lkF, Nat.reduceAdd, Nat.reduceEqDiff, if_true, if_false]
        refine tri_ret ⟨.inl rfl, ?_⟩
        rw [eqb_false fun e => h2 (by rw [e])]; rfl
    · rw [eqb_false h1] at e1
      refine runOpsW_cut 14 fun K1 hK1 => ?_
      simp only [List.take_succ_cons, List.take_zero, List.drop_succ_cons, List.drop_zero]
      simp only [e1, stepOp, opV, St.eval, St.put, absV, if_true, if_false, List.length_cons, List.length_nil, List.getD_cons_zero, List.getD_cons_succ, fieldV, tOff, fieldAt, loadV, pickCells, List.drop_zero, List.drop_succ_cons, List.take_succ_cons, List.take_zero, List.getElem?_cons_zero, List.getElem?_cons_succ, List.head?_cons, Nat.zero_add, Nat.reduceAdd, Nat.reduceLT, Nat.reduceLeDiff, Nat.reduceEqDiff, Bool.false_eq_true, ev_seql, beq_self_eq_true, nilLen, ev_ft, gnCmp, tt9, tt29, runOpsW, wantedW, gT, gRead, wr_set, wr_getD, wr_get, lkF]
      refine hK1 _ ?_
      clear hK1 K1
      refine runOpsW_cut 14 fun K1 hK1 => ?_
      simp only [List.take_succ_cons, List.take_zero, List.drop_succ_cons, List.drop_zero]
      simp only [stepOp, opV, St.eval, St.put, absV, if_true, if_false, List.length_cons, List.length_nil, List.getD_cons_zero, List.getD_cons_succ, Nat.zero_add, Nat.reduceAdd, Nat.reduceLT, Nat.reduceEqDiff, Bool.false_eq_true, ev_ft, runOpsW, wantedW, gT, gRead, wr_set, wr_getD, wr_get, lkF]
      refine hK1 _ ?_
      clear hK1 K1
      refine runOpsW_cut 14 fun K1 hK1 => ?_
      simp only [List.take_succ_cons, List.take_zero, List.drop_succ_cons, List.drop_zero]
      simp only [stepOp, opV, St.eval, St.put, absV, if_true, if_false, List.length_cons, List.length_nil, List.getD_cons_zero, List.getD_cons_succ, Nat.zero_add, Nat.reduceAdd, Nat.reduceLT, Nat.reduceEqDiff, Bool.false_eq_true, ev_ft, runOpsW, wantedW, gT, gRead, wr_set, wr_getD, wr_get, lkF]
      refine hK1 _ ?_
      clear hK1 K1
      try simp only [List.drop_succ_cons, List.drop_zero]
      simp only [stepOp, opV, St.eval, St.put, absV, if_true, if_false, List.length_cons, List.length_nil, List.getD_cons_zero, List.getD_cons_succ, Nat.zero_add, Nat.reduceAdd, Nat.reduceLT, Nat.reduceEqDiff, Bool.false_eq_true, ev_ft, runOpsW, wantedW, gT, gRead, wr_set, wr_getD, wr_get, lkF]
      refine hK _ _ (by kernel_rfl) ?_
      clear hK K
      simp only [mkW, lkF, Nat.reduceAdd, Nat.reduceEqDiff, if_true, if_false]
      refine tri_ret ⟨.inl rfl, ?_⟩
      rw [eqb_false fun e => h1 (by rw [e])]; rfl
  · have e0 : decide (t.kind = u.kind) = false := decide_eq_false h0
    refine runOpsW_cut 14 fun K1 hK1 => ?_
    simp only [List.take_succ_cons, List.take_zero]
    simp only [e0, stepOp, opV, St.eval, St.put, absV, if_true, if_false, List.length_cons, List.length_nil, List.getD_cons_zero, List.getD_cons_succ, fieldV, tOff, fieldAt, loadV, pickCells, List.drop_zero, List.take_succ_cons, List.take_zero, List.getElem?_cons_zero, List.getElem?_cons_succ, List.head?_cons, Nat.zero_add, Nat.add_zero, Nat.reduceAdd, Nat.reduceLT, Nat.reduceLeDiff, Nat.reduceEqDiff, Bool.false_eq_true, ev_eql, nilLen, ev_ft, gnCmp, tt3, tt29, runOpsW, wantedW, gT, gRead, wr_set, wr_getD, wr_get, lkF]
    refine hK1 _ ?_
    clear hK1 K1
    refine runOpsW_cut 14 fun K1 hK1 => ?_
    simp only [List.take_succ_cons, List.take_zero, List.drop_succ_cons, List.drop_zero]
    simp only [stepOp, opV, St.eval, St.put, absV, if_true, if_false, List.length_cons, List.length_nil, List.getD_cons_zero, List.getD_cons_succ, Nat.zero_add, Nat.reduceAdd, Nat.reduceLT, Nat.reduceEqDiff, Bool.false_eq_true, ev_ft, runOpsW, wantedW, gT, gRead, wr_set, wr_getD, wr_get, lkF]
    refine hK1 _ ?_
    clear hK1 K1
    refine runOpsW_cut 14 fun K1 hK1 => ?_
    simp only [List.take_succ_cons, List.take_zero, List.drop_succ_cons, List.drop_zero]
    simp only [stepOp, opV, St.eval, St.put, absV, if_true, if_false, List.length_cons, List.length_nil, List.getD_cons_zero, List.getD_cons_succ, Nat.zero_add, Nat.reduceAdd, Nat.reduceLT, Nat.reduceEqDiff, Bool.false_eq_true, ev_ft, runOpsW, wantedW, gT, gRead, wr_set, wr_getD, wr_get, lkF]
    refine hK1 _ ?_
    clear hK1 K1
    try simp only [List.drop_succ_cons, List.drop_zero]
    simp only [stepOp, opV, St.eval, St.put, absV, if_true, if_false, List.length_cons, List.length_nil, List.getD_cons_zero, List.getD_cons_succ, Nat.zero_add, Nat.reduceAdd, Nat.reduceLT, Nat.reduceEqDiff, Bool.false_eq_true, ev_ft, runOpsW, wantedW, gT, gRead, wr_set, wr_getD, wr_get, lkF]
    refine hK _ _ (by kernel_rfl) ?_
    clear hK K
    simp only [mkW, lkF, Nat.reduceAdd, Nat.reduceEqDiff, if_true, if_false]
    refine tri_ret ⟨.inl rfl, ?_⟩
    rw [eqb_false fun e => h0 (by rw [e])]; rfl
end Go.Proofs.YtpjdfcigadnhcaaGreatDoor
end

section
namespace Go.Proofs.YtpjdfcigadnhcaaGreatDoor
open Go.Eng
variable [Glob]
set_option maxHeartbeats 4000000
set_option maxRecDepth 100000
attribute [local irreducible] runM stepM valD stepOp
theorem reqEx1_ok (t u : Ex) (hl : t.labels.length ≤ 1048576) (hk : t.kids.length ≤ 1048576) (hts : FnOk Tryz.prog 68 [.slice (encTys t.types), .slice (encTys u.types)] (bl (eqb t.types u.types)))
    (hty : ∀ (i : Nat) (a b : Lb), t.labels[i]? = some a → u.labels[i]? = some b → FnOk Tryz.prog 27 [encTy a.ty, encTy b.ty] (bl (eqb a.ty b.ty)))
    (hrec : ∀ (i : Nat) (a b : Ex), t.kids[i]? = some a → u.kids[i]? = some b → FnOk Tryz.prog 29 [encEx a, encEx b] (bl (eqb a b))) :
    FnOk Tryz.prog 29 [encEx t, encEx u] (bl (eqb t u)) := by
  refine fn_ok tt_ok (fn := Tryz.f29) Tryz.func29 rfl Tryz.call29 ?_
  simp only [startSt, Tryz.ntmps29, List.length_cons, List.length_nil, Nat.reduceAdd, Nat.reduceSub, List.replicate_succ, List.replicate_zero, List.cons_append, List.nil_append]
  have hT : Tryz.prog.underlying 4 = some .bool := by kernel_rfl
  have hbe := fun x y => ev_beql (P := Tryz.prog) (T := 4) x y hT
  have hbn := fun x y => ev_bneq (P := Tryz.prog) (T := 4) x y hT
  simp only [encEx_eq, exCells]
  refine tri_seq_region tt_ok fun K hK => ?_
  simp only [runOps, stepOp, wantedV, opV, St.eval, St.put, absV, cellsV, oneV, List.all_cons, List.all_nil, Bool.and_self, Value.oneCell', if_true, if_false, setMem, List.length_cons, List.length_nil, Nat.lt_irrefl, List.nil_append, List.cons_append, List.set_cons_zero, List.set_cons_succ, List.getD_cons_zero, List.getD_cons_succ, Nat.zero_add]
  refine hK _ ?_
  clear hK K
  refine tri_seq ?_
  have e1 := bytes_eq t.mod u.mod
  have e2 := bytes_eq t.name u.name
  have e3 := bytes_eq t.text u.text
  have e7 := hts
  try simp only [encTy_eq, encEx_eq] at e7
  try simp only [tyCells, exCells] at e7
  refine tri_seq_region_w tt_ok 131 [0, 0, 0, 0, 0, 0, 0, 0, 0, 1, 1, 1, 1, 1, 1, 1, 1, 1, 1, 1, 1, 1, 1, 1, 1, 1, 1, 1, 1, 1, 1, 1, 1, 1, 1, 1, 1, 1, 1, 1, 1, 1, 1, 1, 1, 1, 1, 1, 1, 1, 1, 1, 1, 1, 1, 1, 1, 1, 1, 1, 1, 1, 1, 1, 1, 1, 1, 2] [(5, 14), (12, 21), (19, 28), (26, 35), (33, 42), (42, 51), (51, 60)] (by kernel_rfl) (by kernel_rfl) fun K hK => ?_
  by_cases h0 : t.kind = u.kind
  · have e0 : decide (t.kind = u.kind) = true := decide_eq_true h0
    refine runOpsW_cut 6 fun K1 hK1 => ?_
    simp only [List.take_succ_cons, List.take_zero]
    simp only [e0, stepOp, opV, St.eval, St.put, if_true, if_false, List.length_cons, List.length_nil, List.getD_cons_zero, List.getD_cons_succ, fieldV, tOff, fieldAt, loadV, pickCells, List.drop_zero, List.take_succ_cons, List.take_zero, List.getElem?_cons_zero, List.getElem?_cons_succ, List.head?_cons, Nat.zero_add, Nat.add_zero, Nat.reduceAdd, Nat.reduceLT, Nat.reduceLeDiff, Nat.reduceEqDiff, Bool.false_eq_true, ev_neq, Bool.not_true, nilLen, gnCmp, tt3, tt29, runOpsW, wantedW, wr_set, wr_getD, lkF]
    refine hK1 _ ?_
    clear hK1 K1
    by_cases h1 : t.mod = u.mod
    · rw [eqb_true h1] at e1
      refine runOpsW_cut 7 fun K1 hK1 => ?_
      simp only [List.take_succ_cons, List.take_zero, List.drop_succ_cons, List.drop_zero]
      simp only [e1, stepOp, opV, St.eval, St.put, absV, if_true, if_false, List.length_cons, List.length_nil, List.getD_cons_zero, List.getD_cons_succ, fieldV, tOff, fieldAt, loadV, pickCells, List.drop_zero, List.drop_succ_cons, List.take_succ_cons, List.take_zero, List.getElem?_cons_zero, List.getElem?_cons_succ, List.head?_cons, Nat.zero_add, Nat.reduceAdd, Nat.reduceLT, Nat.reduceLeDiff, Nat.reduceEqDiff, Bool.false_eq_true, ev_sneq, beq_self_eq_true, Bool.not_true, nilLen, gnCmp, tt9, tt29, runOpsW, wantedW, gT, gRead, wr_set, wr_getD, wr_get, lkF]
      refine hK1 _ ?_
      clear hK1 K1
      by_cases h2 : t.name = u.name
      · rw [eqb_true h2] at e2
        refine runOpsW_cut 7 fun K1 hK1 => ?_
        simp only [List.take_succ_cons, List.take_zero, List.drop_succ_cons, List.drop_zero]
        simp only [e2, stepOp, opV, St.eval, St.put, absV, if_true, if_false, List.length_cons, List.length_nil, List.getD_cons_zero, List.getD_cons_succ, fieldV, tOff, fieldAt, loadV, pickCells, List.drop_zero, List.drop_succ_cons, List.take_succ_cons, List.take_zero, List.getElem?_cons_zero, List.getElem?_cons_succ, List.head?_cons, Nat.zero_add, Nat.reduceAdd, Nat.reduceLT, Nat.reduceLeDiff, Nat.reduceEqDiff, Bool.false_eq_true, ev_sneq, beq_self_eq_true, Bool.not_true, nilLen, gnCmp, tt9, tt29, runOpsW, wantedW, gT, gRead, wr_set, wr_getD, wr_get, lkF]
        refine hK1 _ ?_
        clear hK1 K1
        by_cases h3 : t.text = u.text
        · rw [eqb_true h3] at e3
          refine runOpsW_cut 7 fun K1 hK1 => ?_
          simp only [List.take_succ_cons, List.take_zero, List.drop_succ_cons, List.drop_zero]
          simp only [e3, stepOp, opV, St.eval, St.put, absV, if_true, if_false, List.length_cons, List.length_nil, List.getD_cons_zero, List.getD_cons_succ, fieldV, tOff, fieldAt, loadV, pickCells, List.drop_zero, List.drop_succ_cons, List.take_succ_cons, List.take_zero, List.getElem?_cons_zero, List.getElem?_cons_succ, List.head?_cons, Nat.zero_add, Nat.reduceAdd, Nat.reduceLT, Nat.reduceLeDiff, Nat.reduceEqDiff, Bool.false_eq_true, ev_sneq, beq_self_eq_true, Bool.not_true, nilLen, gnCmp, tt9, tt29, runOpsW, wantedW, gT, gRead, wr_set, wr_getD, wr_get, lkF]
          refine hK1 _ ?_
          clear hK1 K1
          by_cases h4 : t.num = u.num
          · have e4 : decide (t.num = u.num) = true := decide_eq_true h4
            refine runOpsW_cut 7 fun K1 hK1 => ?_
            simp only [List.take_succ_cons, List.take_zero, List.drop_succ_cons, List.drop_zero]
            simp only [e4, stepOp, opV, St.eval, St.put, absV, if_true, if_false, List.length_cons, List.length_nil, List.getD_cons_zero, List.getD_cons_succ, fieldV, tOff, fieldAt, loadV, pickCells, List.drop_zero, List.drop_succ_cons, List.take_succ_cons, List.take_zero, List.getElem?_cons_zero, List.getElem?_cons_succ, List.head?_cons, Nat.zero_add, Nat.reduceAdd, Nat.reduceLT, Nat.reduceLeDiff, Nat.reduceEqDiff, Bool.false_eq_true, ev_neq, beq_self_eq_true, Bool.not_true, nilLen, gnCmp, tt3, tt29, runOpsW, wantedW, gT, gRead, wr_set, wr_getD, wr_get, lkF]
            refine hK1 _ ?_
            clear hK1 K1
            by_cases h5 : t.labels.length = u.labels.length
            · have e5 : decide ((t.labels.length : Int) = (u.labels.length : Int)) = true := decide_eq_true (by omega)
              refine runOpsW_cut 9 fun K1 hK1 => ?_
              simp only [List.take_succ_cons, List.take_zero, List.drop_succ_cons, List.drop_zero]
              simp only [e5, List.length_map, stepOp, opV, St.eval, St.put, absV, if_true, if_false, List.length_cons, List.length_nil, List.getD_cons_zero, List.getD_cons_succ, tElem, List.map_nil, List.map_cons, fieldV, tOff, fieldAt, loadV, pickCells, List.drop_zero, List.drop_succ_cons, List.take_succ_cons, List.take_zero, List.getElem?_cons_zero, List.getElem?_cons_succ, List.head?_cons, Nat.zero_add, Nat.reduceAdd, Nat.reduceLT, Nat.reduceLeDiff, Nat.reduceEqDiff, Bool.false_eq_true, lenV, ev_neq, List.getElem?_toArray, beq_self_eq_true, Bool.not_true, nilLen, ev_len1, gnCmp, tt26, tt29, runOpsW, wantedW, gT, gRead, wr_set, wr_getD, wr_get, lkF]
              refine hK1 _ ?_
              clear hK1 K1
              by_cases h6 : t.kids.length = u.kids.length
              · have e6 : decide ((t.kids.length : Int) = (u.kids.length : Int)) = true := decide_eq_true (by omega)
                refine runOpsW_cut 9 fun K1 hK1 => ?_
                simp only [List.take_succ_cons, List.take_zero, List.drop_succ_cons, List.drop_zero]
                simp only [e6, length_encExs, stepOp, opV, St.eval, St.put, absV, if_true, if_false, List.length_cons, List.length_nil, List.getD_cons_zero, List.getD_cons_succ, tElem, List.map_nil, List.map_cons, fieldV, tOff, fieldAt, loadV, pickCells, List.drop_zero, List.drop_succ_cons, List.take_succ_cons, List.take_zero, List.getElem?_cons_zero, List.getElem?_cons_succ, List.head?_cons, Nat.zero_add, Nat.reduceAdd, Nat.reduceLT, Nat.reduceEqDiff, Nat.le_refl, Bool.false_eq_true, lenV, ev_neq, List.getElem?_toArray, beq_self_eq_true, Bool.not_true, nilLen, ev_len1, gnCmp, tt27, tt29, runOpsW, wantedW, gT, gRead, wr_set, wr_getD, wr_get, lkF]
                refine hK1 _ ?_
                clear hK1 K1
                by_cases h7 : t.types = u.types
                · rw [eqb_true h7] at e7
                  try simp only [List.drop_succ_cons, List.drop_zero]
                  simp only [stepOp, opV, St.eval, St.put, absV, if_true, if_false, List.length_cons, List.length_nil, List.nil_append, List.append_nil, List.getD_cons_zero, List.getD_cons_succ, List.map_nil, List.map_cons, fieldV, tOff, fieldAt, loadV, pickCells, List.drop_zero, List.drop_succ_cons, List.take_succ_cons, List.take_zero, List.getElem?_cons_zero, List.getElem?_cons_succ, List.head?_cons, Nat.zero_add, Nat.reduceAdd, Nat.reduceLT, Nat.reduceLeDiff, Nat.reduceEqDiff, Bool.false_eq_true, calleeOf, beq_self_eq_true, tt22, tt29, runOpsW, wantedW, gT, gRead, wr_set, wr_getD, wr_get, lkF]
                  refine .inl ⟨_, _, by simp only [purL, pur1, purCell], e7, ?_⟩
                  try simp only [St.put, if_true, if_false, List.append_nil, List.getD_cons_zero, List.getD_cons_succ, Nat.reduceLT, Nat.reduceEqDiff, Bool.false_eq_true, ev_not, beq_self_eq_true, Bool.not_true, memAfter_nil, List.flatMap_cons, List.flatMap_nil, ref1, refCell, wr_set, wr_getD, wr_get, lkF]
                  refine hK _ _ (by kernel_rfl) ?_
                  clear hK K
                  simp only [mkW, lkF, Nat.reduceAdd, Nat.reduceEqDiff, if_true, if_false]
                  refine tri_cond rfl (tri_skip ?_)
                  show Tri _ _ _ _ _ _
                  refine tri_seq ?_
                  refine tri_seq_region tt_ok fun K hK => ?_
                  simp only [runOps, stepOp, wantedV, opV, St.eval, St.put, absV, List.length_cons, List.length_nil, List.set_cons_zero, List.set_cons_succ, Nat.zero_add, Nat.reduceAdd]
                  refine hK _ ?_
                  clear hK K
                  refine tri_block (tri_loop_inv (fun N st => ∃ (i : Nat), N = t.labels.length - i ∧ i ≤ t.labels.length ∧ t.labels.take i = u.labels.take i ∧
                    st = { fr := [.undef, .undef, .ptr 0 0, .ptr 1 0, .undef, num i] ++ List.replicate 125 .undef, mem := [.box (exCells t), .box (exCells u)] }) t.labels.length ?_ ?_)
                  · exact ⟨2, [false, false, true, true, false, true], by omega, by simp only [maskFr, if_true, if_false, Bool.false_eq_true, List.all_cons, List.all_nil, belowV, Nat.reduceLT, decide_true, Bool.and_self], by simp only [List.all_cons, List.all_nil, belowV, belowB, Bool.and_self, List.take_succ_cons, List.take_nil], 0, by omega, by omega, by simp, rfl⟩
                  · rintro N' st ⟨i, rfl, hi, htk, rfl⟩
                    simp only [List.replicate_succ, List.replicate_zero, List.cons_append, List.nil_append, exCells]
                    refine tri_seq ?_
                    by_cases hlt : i < t.labels.length
                    · have hd := lt_dec hlt
                      refine tri_seq_region tt_ok fun K hK => ?_
                      simp only [List.length_map, hd, runOps, stepOp, wantedV, opV, St.eval, St.put, if_false, List.length_cons, List.length_nil, List.set_cons_zero, List.set_cons_succ, List.getD_cons_zero, List.getD_cons_succ, tElem, List.map_nil, List.map_cons, fieldV, tOff, fieldAt, loadV, pickCells, List.drop_zero, List.drop_succ_cons, List.getElem?_cons_zero, List.getElem?_cons_succ, List.head?_cons, Nat.zero_add, Nat.reduceAdd, Bool.false_eq_true, lenV, ev_lss, V.cells, List.getElem?_toArray, nilLen, rowOf, ev_len1, gnCmp, tt26, tt29]
                      refine hK _ ?_
                      clear hK K
                      refine tri_cond rfl (tri_skip ?_)
                      refine tri_seq (tri_block ?_)
                      obtain ⟨f, hf⟩ : ∃ f, t.labels[i]? = some f := ⟨_, List.getElem?_eq_getElem hlt⟩
                      obtain ⟨g, hg⟩ : ∃ g, u.labels[i]? = some g := ⟨_, List.getElem?_eq_getElem (by omega)⟩
                      have no : ¬ f = g → ¬ t = u := fun h e => h (by rw [e, hg] at hf; exact (Option.some.inj hf).symm)
                      refine tri_seq_mixed tt_ok mixed_ok [⟨.n, 0, [], []⟩, ⟨.r, 0, [0, 1], []⟩, ⟨.n, 0, [], []⟩, ⟨.r, 0, [0, 1], []⟩, ⟨.r, 0, [0, 1], []⟩, ⟨.n, 0, [], []⟩, ⟨.r, 0, [0, 1], []⟩, ⟨.n, 0, [], []⟩, ⟨.r, 0, [0, 1], []⟩, ⟨.r, 0, [0, 1], []⟩, ⟨.a, 0, [], []⟩, ⟨.a, 1, [], []⟩, ⟨.s, 0, [], []⟩, ⟨.s, 1, [], []⟩] 2 (by kernel_rfl) fun K hK => ?_
                      simp only [List.getElem?_map, hf, hg, encLb, tyCells, wantedV, opV, St.eval, St.put, cellsV, oneV, List.all_cons, List.all_nil, Bool.and_self, Value.oneCell', if_true, if_false, List.length_cons, List.length_nil, List.nil_append, List.cons_append, List.set_cons_zero, List.set_cons_succ, List.getD_cons_zero, List.getD_cons_succ, tElem, tSize, List.map_nil, List.map_cons, fieldV, tOff, fieldAt, loadV, pickCells, List.drop_zero, List.drop_succ_cons, List.take_succ_cons, List.take_zero, List.getElem?_cons_zero, List.getElem?_cons_succ, List.head?_cons, Nat.zero_add, Nat.add_zero, Nat.reduceAdd, Nat.le_refl, true_and, Bool.false_eq_true, Int.natCast_nonneg, indexV, indexAt, Int.toNat_natCast, V.cells, Option.map_some, storeV, spliceL, rowOf, sizeOfBlk, tt26, tt29, tt105, runM, List.drop_succ_cons, List.drop_zero, stepM, valD, val1, newBlk, sOut, isHole, maskB, mask1, Blk.ver, List.replicate, Nat.reduceAdd]
                      refine hK _ ?_
                      clear hK K
                      have e80 := bytes_eq f.name g.name
                      have e81 := bytes_eq f.var g.var
                      have e83 := hty i f g hf hg
                      try simp only [encTy_eq] at e83
                      try simp only [tyCells] at e83
                      refine tri_seq_region_w tt_ok 131 [0, 0, 0, 0, 0, 0, 0, 0, 0, 0, 0, 0, 0, 0, 0, 0, 0, 0, 0, 0, 0, 0, 0, 0, 0, 0, 0, 0, 0, 0, 0, 0, 0, 0, 0, 0, 0, 0, 0, 0, 0, 0, 0, 0, 0, 0, 0, 0, 0, 0, 0, 0, 0, 0, 0, 0, 0, 0, 0, 0, 0, 0, 0, 0, 0, 0, 0, 0, 0, 0, 0, 0, 0, 0, 0, 0, 0, 0, 0, 0, 0, 0, 0, 0, 0, 1, 1, 1, 1, 1, 1, 1, 1, 1, 1, 1, 1, 1, 1, 1, 1, 1, 1, 1, 1, 1, 1, 1, 1, 1, 1, 2] [(5, 90), (12, 97), (19, 104)] (by kernel_rfl) (by kernel_rfl) fun K hK => ?_
                      by_cases h80 : f.name = g.name
                      · rw [eqb_true h80] at e80
                        refine runOpsW_cut 6 fun K1 hK1 => ?_
                        simp only [List.take_succ_cons, List.take_zero]
                        simp only [e80, stepOp, opV, St.eval, St.put, if_true, if_false, List.length_cons, List.length_nil, List.getD_cons_zero, List.getD_cons_succ, fieldV, tOff, fieldAt, loadV, pickCells, List.drop_zero, List.take_succ_cons, List.take_zero, List.getElem?_cons_zero, List.getElem?_cons_succ, List.head?_cons, Nat.zero_add, Nat.add_zero, Nat.reduceAdd, Nat.reduceLT, Nat.reduceLeDiff, Nat.reduceEqDiff, Bool.false_eq_true, ev_sneq, Bool.not_true, nilLen, gnCmp, tt9, tt105, runOpsW, wantedW, wr_set, wr_getD, lkF]
                        refine hK1 _ ?_
                        clear hK1 K1
                        by_cases h81 : f.var = g.var
                        · rw [eqb_true h81] at e81
                          refine runOpsW_cut 7 fun K1 hK1 => ?_
                          simp only [List.take_succ_cons, List.take_zero, List.drop_succ_cons, List.drop_zero]
                          simp only [e81, stepOp, opV, St.eval, St.put, absV, if_true, if_false, List.length_cons, List.length_nil, List.getD_cons_zero, List.getD_cons_succ, fieldV, tOff, fieldAt, loadV, pickCells, List.drop_zero, List.drop_succ_cons, List.take_succ_cons, List.take_zero, List.getElem?_cons_zero, List.getElem?_cons_succ, List.head?_cons, Nat.zero_add, Nat.reduceAdd, Nat.reduceLT, Nat.reduceLeDiff, Nat.reduceEqDiff, Bool.false_eq_true, ev_sneq, beq_self_eq_true, Bool.not_true, nilLen, gnCmp, tt9, tt105, runOpsW, wantedW, gT, gRead, wr_set, wr_getD, wr_get, lkF]
                          refine hK1 _ ?_
                          clear hK1 K1
                          by_cases h82 : f.opt = g.opt
                          · have e82 : (f.opt == g.opt) = true := by simpa using h82
                            refine runOpsW_cut 7 fun K1 hK1 => ?_
                            simp only [List.take_succ_cons, List.take_zero, List.drop_succ_cons, List.drop_zero]
                            simp only [e82, hbn, stepOp, opV, St.eval, St.put, absV, if_true, if_false, List.length_cons, List.length_nil, List.getD_cons_zero, List.getD_cons_succ, fieldV, tOff, fieldAt, loadV, pickCells, List.drop_zero, List.drop_succ_cons, List.take_succ_cons, List.take_zero, List.getElem?_cons_zero, List.getElem?_cons_succ, List.head?_cons, Nat.zero_add, Nat.reduceAdd, Nat.reduceLT, Nat.reduceEqDiff, Nat.le_refl, Bool.false_eq_true, beq_self_eq_true, Bool.not_true, nilLen, gnCmp, tt4, tt105, runOpsW, wantedW, gT, gRead, wr_set, wr_getD, wr_get, lkF]
                            refine hK1 _ ?_
                            clear hK1 K1
                            by_cases h83 : f.ty = g.ty
                            · rw [eqb_true h83] at e83
                              try simp only [List.drop_succ_cons, List.drop_zero]
                              simp only [stepOp, opV, St.eval, St.put, absV, if_true, if_false, List.length_cons, List.length_nil, List.nil_append, List.append_nil, List.getD_cons_zero, List.getD_cons_succ, List.map_nil, List.map_cons, fieldV, tOff, fieldAt, loadV, pickCells, List.drop_zero, List.drop_succ_cons, List.take_succ_cons, List.take_zero, List.getElem?_cons_zero, List.getElem?_cons_succ, List.head?_cons, Nat.zero_add, Nat.reduceAdd, Nat.reduceLT, Nat.reduceLeDiff, Nat.reduceEqDiff, calleeOf, beq_self_eq_true, tt25, tt105, runOpsW, wantedW, gT, gRead, wr_set, wr_getD, wr_get, lkF]
                              refine .inl ⟨_, _, by simp only [purL, pur1, purCells, purCell, nilS], e83, ?_⟩
                              try simp only [St.put, if_true, if_false, List.append_nil, List.getD_cons_zero, List.getD_cons_succ, Nat.reduceLT, Nat.reduceEqDiff, Bool.false_eq_true, ev_not, beq_self_eq_true, Bool.not_true, memAfter_nil, List.flatMap_cons, List.flatMap_nil, ref1, refCell, wr_set, wr_getD, wr_get, lkF]
                              refine hK _ _ (by kernel_rfl) ?_
                              clear hK K
                              simp only [mkW, lkF, Nat.reduceAdd, Nat.reduceEqDiff, if_true, if_false]
                              refine tri_cond rfl (tri_skip ?_)
                              show Tri _ _ _ _ _ _
                              refine tri_last_region tt_ok fun K hK => ?_
                              simp only [runOps, stepOp, wantedV, opV, St.eval, St.put, absV, List.length_cons, List.length_nil, List.set_cons_zero, List.set_cons_succ, List.getD_cons_zero, List.getD_cons_succ, Nat.zero_add, Nat.reduceAdd, ev_add, nilLen, gnCmp]
                              refine hK _ ?_
                              clear hK K
                              rw [i64_succ i (by omega)]
                              exact ⟨t.labels.length - (i + 1), by omega, 2, [false, false, true, true, false, true], by omega, by simp only [maskFr, if_true, if_false, Bool.false_eq_true, List.all_cons, List.all_nil, belowV, Nat.reduceLT, decide_true, Bool.and_self], by simp only [List.all_cons, List.all_nil, belowV, belowB, Bool.and_self, List.take_succ_cons, List.take_zero], i + 1, rfl, hlt, by rw [List.take_add_one, List.take_add_one, htk, hf, hg, Lb.ext' h80 h81 h82 h83], rfl⟩
                            · rw [eqb_false h83] at e83
                              try simp only [List.drop_succ_cons, List.drop_zero]
                              simp only [stepOp, opV, St.eval, St.put, absV, if_true, if_false, List.length_cons, List.length_nil, List.nil_append, List.append_nil, List.getD_cons_zero, List.getD_cons_succ, List.map_nil, List.map_cons, fieldV, tOff, fieldAt, loadV, pickCells, List.drop_zero, List.drop_succ_cons, List.take_succ_cons, List.take_zero, List.getElem?_cons_zero, List.getElem?_cons_succ, List.head?_cons, Nat.zero_add, Nat.reduceAdd, Nat.reduceLT, Nat.reduceLeDiff, Nat.reduceEqDiff, calleeOf, beq_self_eq_true, tt25, tt105, runOpsW, wantedW, gT, gRead, wr_set, wr_getD, wr_get, lkF]
                              refine .inl ⟨_, _, by simp only [purL, pur1, purCells, purCell, nilS], e83, ?_⟩
                              try simp only [St.put, if_true, if_false, List.append_nil, List.getD_cons_zero, List.getD_cons_succ, Nat.reduceLT, Nat.reduceEqDiff, Bool.false_eq_true, ev_not, beq_self_eq_true, Bool.not_false, memAfter_nil, List.flatMap_cons, List.flatMap_nil, ref1, refCell, wr_set, wr_getD, wr_get, lkF]
                              refine hK _ _ (by kernel_rfl) ?_
                              clear hK K
                              simp only [mkW, lkF, Nat.reduceAdd, Nat.reduceEqDiff, if_true, if_false]
                              refine tri_cond rfl ?_
                              refine tri_seq_region tt_ok fun K hK => ?_
                              simp only [runOps, stepOp, wantedV, opV, St.eval, St.put, absV, List.length_cons, List.length_nil, List.set_cons_zero, List.set_cons_succ, Nat.zero_add, Nat.reduceAdd]
                              refine hK _ ?_
                              clear hK K
                              refine tri_ret ⟨.inl rfl, ?_⟩
                              rw [eqb_false (no fun e => h83 (by rw [e]))]; rfl
                          · have e82 : (f.opt == g.opt) = false := by simpa using h82
                            try simp only [List.drop_succ_cons, List.drop_zero]
                            simp only [e82, hbn, stepOp, opV, St.eval, St.put, absV, if_true, if_false, List.length_cons, List.length_nil, List.getD_cons_zero, List.getD_cons_succ, fieldV, tOff, fieldAt, loadV, pickCells, List.drop_zero, List.drop_succ_cons, List.take_succ_cons, List.take_zero, List.getElem?_cons_zero, List.getElem?_cons_succ, List.head?_cons, Nat.zero_add, Nat.reduceAdd, Nat.reduceLT, Nat.reduceEqDiff, Nat.le_refl, Bool.false_eq_true, beq_self_eq_true, Bool.not_false, nilLen, ev_tf, gnCmp, tt4, tt105, runOpsW, wantedW, gT, gRead, wr_set, wr_getD, wr_get, lkF]
                            refine hK _ _ (by kernel_rfl) ?_
                            clear hK K
                            simp only [mkW, lkF, Nat.reduceAdd, Nat.reduceEqDiff, if_true, if_false]
                            refine tri_cond rfl ?_
                            refine tri_seq_region tt_ok fun K hK => ?_
                            simp only [runOps, stepOp, wantedV, opV, St.eval, St.put, absV, List.length_cons, List.length_nil, List.set_cons_zero, List.set_cons_succ, Nat.zero_add, Nat.reduceAdd]
                            refine hK _ ?_
                            clear hK K
                            refine tri_ret ⟨.inl rfl, ?_⟩
                            rw [eqb_false (no fun e => h82 (by rw [e]))]; rfl
                        · rw [eqb_false h81] at e81
                          refine runOpsW_cut 14 fun K1 hK1 => ?_
                          simp only [List.take_succ_cons, List.take_zero, List.drop_succ_cons, List.drop_zero]
                          simp only [e81, stepOp, opV, St.eval, St.put, absV, if_true, if_false, List.length_cons, List.length_nil, List.getD_cons_zero, List.getD_cons_succ, fieldV, tOff, fieldAt, loadV, pickCells, List.drop_zero, List.drop_succ_cons, List.take_succ_cons, List.take_zero, List.getElem?_cons_zero, List.getElem?_cons_succ, List.head?_cons, Nat.zero_add, Nat.reduceAdd, Nat.reduceLT, Nat.reduceLeDiff, Nat.reduceEqDiff, Bool.false_eq_true, ev_sneq, beq_self_eq_true, Bool.not_false, nilLen, ev_tf, gnCmp, tt9, tt105, runOpsW, wantedW, gT, gRead, wr_set, wr_getD, wr_get, lkF]
                          refine hK1 _ ?_
                          clear hK1 K1
                          try simp only [List.drop_succ_cons, List.drop_zero]
                          simp only [stepOp, opV, St.eval, St.put, absV, if_true, if_false, List.length_cons, List.length_nil, List.getD_cons_zero, List.getD_cons_succ, Nat.zero_add, Nat.reduceAdd, Nat.reduceLT, Nat.reduceEqDiff, ev_tf, runOpsW, wantedW, gT, gRead, wr_set, wr_getD, wr_get, lkF]
                          refine hK _ _ (by kernel_rfl) ?_
                          clear hK K
                          simp only [mkW, lkF, Nat.reduceAdd, Nat.reduceEqDiff, if_true, if_false]
                          refine tri_cond rfl ?_
                          refine tri_seq_region tt_ok fun K hK => ?_
                          simp only [runOps, stepOp, wantedV, opV, St.eval, St.put, absV, List.length_cons, List.length_nil, List.set_cons_zero, List.set_cons_succ, Nat.zero_add, Nat.reduceAdd]
                          refine hK _ ?_
                          clear hK K
                          refine tri_ret ⟨.inl rfl, ?_⟩
                          rw [eqb_false (no fun e => h81 (by rw [e]))]; rfl
                      · rw [eqb_false h80] at e80
                        refine runOpsW_cut 14 fun K1 hK1 => ?_
                        simp only [List.take_succ_cons, List.take_zero]
                        simp only [e80, stepOp, opV, St.eval, St.put, absV, if_true, if_false, List.length_cons, List.length_nil, List.getD_cons_zero, List.getD_cons_succ, fieldV, tOff, fieldAt, loadV, pickCells, List.drop_zero, List.take_succ_cons, List.take_zero, List.getElem?_cons_zero, List.getElem?_cons_succ, List.head?_cons, Nat.zero_add, Nat.add_zero, Nat.reduceAdd, Nat.reduceLT, Nat.reduceLeDiff, Nat.reduceEqDiff, Bool.false_eq_true, ev_sneq, Bool.not_false, nilLen, ev_tf, gnCmp, tt9, tt105, runOpsW, wantedW, gT, gRead, wr_set, wr_getD, wr_get, lkF]
                        refine hK1 _ ?_
                        clear hK1 K1
                        try simp only [List.drop_succ_cons, List.drop_zero]
                        simp only [stepOp, opV, St.eval, St.put, absV, if_true, if_false, List.length_cons, List.length_nil, List.getD_cons_zero, List.getD_cons_succ, Nat.zero_add, Nat.reduceAdd, Nat.reduceLT, Nat.reduceEqDiff, ev_tf, runOpsW, wantedW, gT, gRead, wr_set, wr_getD, wr_get, lkF]
                        refine hK _ _ (by kernel_rfl) ?_
                        clear hK K
                        simp only [mkW, lkF, Nat.reduceAdd, Nat.reduceEqDiff, if_true, if_false]
                        refine tri_cond rfl ?_
                        refine tri_seq_region tt_ok fun K hK => ?_
                        simp only [runOps, stepOp, wantedV, opV, St.eval, St.put, absV, List.length_cons, List.length_nil, List.set_cons_zero, List.set_cons_succ, Nat.zero_add, Nat.reduceAdd]
                        refine hK _ ?_
                        clear hK K
                        refine tri_ret ⟨.inl rfl, ?_⟩
                        rw [eqb_false (no fun e => h80 (by rw [e]))]; rfl
                    · have hd := ge_dec hlt
                      refine tri_seq_region tt_ok fun K hK => ?_
                      simp only [List.length_map, hd, runOps, stepOp, wantedV, opV, St.eval, St.put, if_false, List.length_cons, List.length_nil, List.set_cons_zero, List.set_cons_succ, List.getD_cons_zero, List.getD_cons_succ, tElem, List.map_nil, List.map_cons, fieldV, tOff, fieldAt, loadV, pickCells, List.drop_zero, List.drop_succ_cons, List.getElem?_cons_zero, List.getElem?_cons_succ, List.head?_cons, Nat.zero_add, Nat.reduceAdd, Bool.false_eq_true, lenV, ev_lss, V.cells, List.getElem?_toArray, nilLen, rowOf, ev_len1, gnCmp, tt26, tt29]
                      refine hK _ ?_
                      clear hK K
                      refine tri_cond rfl (tri_exit ?_)
                      have hie : i = t.labels.length := by omega
                      subst hie
                      show Tri _ _ _ _ _ _
                      refine tri_seq ?_
                      refine tri_seq_region tt_ok fun K hK => ?_
                      simp only [runOps, stepOp, wantedV, opV, St.eval, St.put, absV, List.length_cons, List.length_nil, List.set_cons_zero, List.set_cons_succ, Nat.zero_add, Nat.reduceAdd]
                      refine hK _ ?_
                      clear hK K
                      have hlab : t.labels = u.labels := by rw [List.take_length] at htk; rw [htk, h5, List.take_length]
                      refine tri_block (tri_loop_inv (fun N st => ∃ (i : Nat), N = t.kids.length - i ∧ i ≤ t.kids.length ∧ t.kids.take i = u.kids.take i ∧
                        st = { fr := [.undef, .undef, .ptr 0 0, .ptr 1 0, .undef, .undef, .undef, .undef, num i] ++ List.replicate 122 .undef, mem := [.box (exCells t), .box (exCells u)] }) t.kids.length ?_ ?_)
                      · exact ⟨2, [false, false, true, true, false, false, false, false, true], by omega, by simp only [maskFr, if_true, if_false, Bool.false_eq_true, List.all_cons, List.all_nil, belowV, Nat.reduceLT, decide_true, Bool.and_self], by simp only [List.all_cons, List.all_nil, belowV, belowB, Bool.and_self, List.take_succ_cons, List.take_nil], 0, by omega, by omega, by simp, rfl⟩
                      · rintro N' st ⟨i, rfl, hi, htk, rfl⟩
                        simp only [List.replicate_succ, List.replicate_zero, List.cons_append, List.nil_append, exCells]
                        refine tri_seq ?_
                        by_cases hlt : i < t.kids.length
                        · have hd := lt_dec hlt
                          refine tri_seq_region tt_ok fun K hK => ?_
                          simp only [length_encExs, hd, runOps, stepOp, wantedV, opV, St.eval, St.put, if_false, List.length_cons, List.length_nil, List.set_cons_zero, List.set_cons_succ, List.getD_cons_zero, List.getD_cons_succ, tElem, List.map_nil, List.map_cons, fieldV, tOff, fieldAt, loadV, pickCells, List.drop_zero, List.drop_succ_cons, List.getElem?_cons_zero, List.getElem?_cons_succ, List.head?_cons, Nat.zero_add, Nat.reduceAdd, Bool.false_eq_true, lenV, ev_lss, V.cells, List.getElem?_toArray, nilLen, rowOf, ev_len1, gnCmp, tt27, tt29]
                          refine hK _ ?_
                          clear hK K
                          refine tri_cond rfl (tri_skip ?_)
                          refine tri_seq (tri_block ?_)
                          obtain ⟨f, hf⟩ : ∃ f, t.kids[i]? = some f := ⟨_, List.getElem?_eq_getElem hlt⟩
                          obtain ⟨g, hg⟩ : ∃ g, u.kids[i]? = some g := ⟨_, List.getElem?_eq_getElem (by omega)⟩
                          have hr := hrec i f g hf hg
                          simp only [encEx_eq, exCells] at hr
                          refine tri_seq_mixed tt_ok mixed_ok [⟨.n, 0, [], []⟩, ⟨.r, 0, [], []⟩, ⟨.n, 0, [], []⟩, ⟨.r, 0, [], []⟩, ⟨.r, 0, [], []⟩, ⟨.n, 0, [], []⟩, ⟨.r, 0, [], []⟩, ⟨.n, 0, [], []⟩, ⟨.r, 0, [], []⟩, ⟨.r, 0, [], []⟩, ⟨.n, 0, [], []⟩, ⟨.n, 0, [], []⟩] 0 (by kernel_rfl) fun K hK => ?_
                          simp only [get_encExs, hf, hg, encEx_eq, exCells, wantedV, opV, St.eval, St.put, if_true, if_false, List.length_cons, List.length_nil, List.nil_append, List.append_nil, List.set_cons_zero, List.set_cons_succ, List.getD_cons_zero, List.getD_cons_succ, tElem, tSize, List.map_nil, List.map_cons, fieldV, tOff, fieldAt, loadV, pickCells, List.drop_zero, List.drop_succ_cons, List.take_succ_cons, List.take_zero, List.getElem?_cons_zero, List.getElem?_cons_succ, List.head?_cons, Nat.zero_add, Nat.reduceAdd, Nat.le_refl, Bool.false_eq_true, Int.natCast_nonneg, indexV, indexAt, Int.toNat_natCast, V.cells, calleeOf, Option.map_some, rowOf, sizeOfBlk, tt27, tt29, runM, List.drop_succ_cons, List.drop_zero, stepM, valD, val1, maskB, List.replicate, Nat.reduceAdd]
                          refine ⟨_, _, by simp only [purL, pur1, purCells, purCell, nilS], .inl (hr), ?_⟩
                          try simp only [St.put, List.set_cons_zero, List.set_cons_succ, List.getD_cons_zero, List.getD_cons_succ, ev_not]
                          refine hK _ ?_
                          clear hK K
                          by_cases h9 : f = g
                          · rw [eqb_true h9]
                            refine tri_cond rfl (tri_skip ?_)
                            show Tri _ _ _ _ _ _
                            refine tri_last_region tt_ok fun K hK => ?_
                            simp only [runOps, stepOp, wantedV, opV, St.eval, St.put, absV, List.length_cons, List.length_nil, List.set_cons_zero, List.set_cons_succ, List.getD_cons_zero, List.getD_cons_succ, Nat.zero_add, Nat.reduceAdd, ev_add, Bool.not_true, nilLen, gnCmp]
                            refine hK _ ?_
                            clear hK K
                            rw [i64_succ i (by omega)]
                            exact ⟨t.kids.length - (i + 1), by omega, 2, [false, false, true, true, false, false, false, false, true], by omega, by simp only [maskFr, if_true, if_false, Bool.false_eq_true, List.all_cons, List.all_nil, belowV, Nat.reduceLT, decide_true, Bool.and_self], by simp only [List.all_cons, List.all_nil, belowV, belowB, Bool.and_self, List.take_succ_cons, List.take_nil], i + 1, rfl, hlt, by rw [List.take_add_one, List.take_add_one, htk, hf, hg, h9], rfl⟩
                          · rw [eqb_false h9]
                            refine tri_cond rfl ?_
                            refine tri_seq_region tt_ok fun K hK => ?_
                            simp only [runOps, stepOp, wantedV, opV, St.eval, St.put, absV, List.length_cons, List.length_nil, List.set_cons_zero, List.set_cons_succ, Nat.zero_add, Nat.reduceAdd, Bool.not_false]
                            refine hK _ ?_
                            clear hK K
                            refine tri_ret ⟨.inl rfl, ?_⟩
                            rw [eqb_false fun e => h9 (by rw [e, hg] at hf; exact (Option.some.inj hf).symm)]; rfl
                        · have hd := ge_dec hlt
                          refine tri_seq_region tt_ok fun K hK => ?_
                          simp only [length_encExs, hd, runOps, stepOp, wantedV, opV, St.eval, St.put, if_false, List.length_cons, List.length_nil, List.set_cons_zero, List.set_cons_succ, List.getD_cons_zero, List.getD_cons_succ, tElem, List.map_nil, List.map_cons, fieldV, tOff, fieldAt, loadV, pickCells, List.drop_zero, List.drop_succ_cons, List.getElem?_cons_zero, List.getElem?_cons_succ, List.head?_cons, Nat.zero_add, Nat.reduceAdd, Bool.false_eq_true, lenV, ev_lss, V.cells, List.getElem?_toArray, nilLen, rowOf, ev_len1, gnCmp, tt27, tt29]
                          refine hK _ ?_
                          clear hK K
                          refine tri_cond rfl (tri_exit ?_)
                          have hie : i = t.kids.length := by omega
                          subst hie
                          show Tri _ _ _ _ _ _
                          refine tri_seq_region tt_ok fun K hK => ?_
                          simp only [runOps, stepOp, wantedV, opV, St.eval, St.put, absV, List.length_cons, List.length_nil, List.set_cons_zero, List.set_cons_succ, Nat.zero_add, Nat.reduceAdd]
                          refine hK _ ?_
                          clear hK K
                          refine tri_ret ⟨.inl rfl, ?_⟩
                          have hkids : t.kids = u.kids := by rw [List.take_length] at htk; rw [htk, h6, List.take_length]
                          rw [eqb_true (Ex.ext' h0 h1 h2 h3 h4 h7 hkids hlab)]; rfl
                · rw [eqb_false h7] at e7
                  try simp only [List.drop_succ_cons, List.drop_zero]
                  simp only [stepOp, opV, St.eval, St.put, absV, if_true, if_false, List.length_cons, List.length_nil, List.nil_append, List.append_nil, List.getD_cons_zero, List.getD_cons_succ, List.map_nil, List.map_cons, fieldV, tOff, fieldAt, loadV, pickCells, List.drop_zero, List.drop_succ_cons, List.take_succ_cons, List.take_zero, List.getElem?_cons_zero, List.getElem?_cons_succ, List.head?_cons, Nat.zero_add, Nat.reduceAdd, Nat.reduceLT, Nat.reduceLeDiff, Nat.reduceEqDiff, Bool.false_eq_true, calleeOf, beq_self_eq_true, tt22, tt29, runOpsW, wantedW, gT, gRead, wr_set, wr_getD, wr_get, lkF]
                  refine .inl ⟨_, _, by simp only [purL, pur1, purCell], e7, ?_⟩
                  try simp only [St.put, if_true, if_false, List.append_nil, List.getD_cons_zero, List.getD_cons_succ, Nat.reduceLT, Nat.reduceEqDiff, Bool.false_eq_true, ev_not, beq_self_eq_true, Bool.not_false, memAfter_nil, List.flatMap_cons, List.flatMap_nil, ref1, refCell, wr_set, wr_getD, wr_get, lkF]
                  refine hK _ _ (by kernel_rfl) ?_
                  clear hK K
                  simp only [mkW, lkF, Nat.reduceAdd, Nat.reduceEqDiff, if_true, if_false]
                  refine tri_cond rfl ?_
                  refine tri_seq_region tt_ok fun K hK => ?_
                  simp only [runOps, stepOp, wantedV, opV, St.eval, St.put, absV, List.length_cons, List.length_nil, List.set_cons_zero, List.set_cons_succ, Nat.zero_add, Nat.reduceAdd]
                  refine hK _ ?_
                  clear hK K
                  refine tri_ret ⟨.inl rfl, ?_⟩
                  rw [eqb_false fun e => h7 (by rw [e])]; rfl
              · have e6 : decide ((t.kids.length : Int) = (u.kids.length : Int)) = false := decide_eq_false (by omega)
                refine runOpsW_cut 14 fun K1 hK1 => ?_
                simp only [List.take_succ_cons, List.take_zero, List.drop_succ_cons, List.drop_zero]
                simp only [e6, length_encExs, stepOp, opV, St.eval, St.put, absV, if_true, if_false, List.length_cons, List.length_nil, List.getD_cons_zero, List.getD_cons_succ, tElem, List.map_nil, List.map_cons, fieldV, tOff, fieldAt, loadV, pickCells, List.drop_zero, List.drop_succ_cons, List.take_succ_cons, List.take_zero, List.getElem?_cons_zero, List.getElem?_cons_succ, List.head?_cons, Nat.zero_add, Nat.reduceAdd, Nat.reduceLT, Nat.reduceEqDiff, Nat.le_refl, Bool.false_eq_true, lenV, ev_neq, List.getElem?_toArray, beq_self_eq_true, Bool.not_false, nilLen, ev_tf, ev_len1, gnCmp, tt27, tt29, runOpsW, wantedW, gT, gRead, wr_set, wr_getD, wr_get, lkF]
                refine hK1 _ ?_
                clear hK1 K1
                try simp only [List.drop_succ_cons, List.drop_zero]
                simp only [stepOp, opV, St.eval, St.put, absV, if_true, if_false, List.length_cons, List.length_nil, List.getD_cons_zero, List.getD_cons_succ, Nat.zero_add, Nat.reduceAdd, Nat.reduceLT, Nat.reduceEqDiff, ev_tf, runOpsW, wantedW, gT, gRead, wr_set, wr_getD, wr_get, lkF]
                refine hK _ _ (by kernel_rfl) ?_
                clear hK K
                simp only [mkW, lkF, Nat.reduceAdd, Nat.reduceEqDiff, if_true, if_false]
                refine tri_cond rfl ?_
                refine tri_seq_region tt_ok fun K hK => ?_
                simp only [runOps, stepOp, wantedV, opV, St.eval, St.put, absV, List.length_cons, List.length_nil, List.set_cons_zero, List.set_cons_succ, Nat.zero_add, Nat.reduceAdd]
                refine hK _ ?_
                clear hK K
                refine tri_ret ⟨.inl rfl, ?_⟩
                rw [eqb_false fun e => h6 (by rw [e])]; rfl
            · have e5 : decide ((t.labels.length : Int) = (u.labels.length : Int)) = false := decide_eq_false (by omega)
              refine runOpsW_cut 14 fun K1 hK1 => ?_
              simp only [List.take_succ_cons, List.take_zero, List.drop_succ_cons, List.drop_zero]
              simp only [e5, List.length_map, stepOp, opV, St.eval, St.put, absV, if_true, if_false, List.length_cons, List.length_nil, List.getD_cons_zero, List.getD_cons_succ, tElem, List.map_nil, List.map_cons, fieldV, tOff, fieldAt, loadV, pickCells, List.drop_zero, List.drop_succ_cons, List.take_succ_cons, List.take_zero, List.getElem?_cons_zero, List.getElem?_cons_succ, List.head?_cons, Nat.zero_add, Nat.reduceAdd, Nat.reduceLT, Nat.reduceLeDiff, Nat.reduceEqDiff, Bool.false_eq_true, lenV, ev_neq, List.getElem?_toArray, beq_self_eq_true, Bool.not_false, nilLen, ev_tf, ev_len1, gnCmp, tt26, tt29, runOpsW, wantedW, gT, gRead, wr_set, wr_getD, wr_get, lkF]
              refine hK1 _ ?_
              clear hK1 K1
              try simp only [List.drop_succ_cons, List.drop_zero]
              simp only [stepOp, opV, St.eval, St.put, absV, if_true, if_false, List.length_cons, List.length_nil, List.getD_cons_zero, List.getD_cons_succ, Nat.zero_add, Nat.reduceAdd, Nat.reduceLT, Nat.reduceEqDiff, ev_tf, runOpsW, wantedW, gT, gRead, wr_set, wr_getD, wr_get, lkF]
              refine hK _ _ (by kernel_rfl) ?_
              clear hK K
              simp only [mkW, lkF, Nat.reduceAdd, Nat.reduceEqDiff, if_true, if_false]
              refine tri_cond rfl ?_
              refine tri_seq_region tt_ok fun K hK => ?_
              simp only [runOps, stepOp, wantedV, opV, St.eval, St.put, absV, List.length_cons, List.length_nil, List.set_cons_zero, List.set_cons_succ, Nat.zero_add, Nat.reduceAdd]
              refine hK _ ?_
              clear hK K
              refine tri_ret ⟨.inl rfl, ?_⟩
              rw [eqb_false fun e => h5 (by rw [e])]; rfl
          · have e4 : decide (t.num = u.num) = false := decide_eq_false h4
            refine runOpsW_cut 14 fun K1 hK1 => ?_
            simp only [List.take_succ_cons, List.take_zero, List.drop_succ_cons, List.drop_zero]
            simp only [e4, stepOp, opV, St.eval, St.put, absV, if_true, if_false, List.length_cons, List.length_nil, List.getD_cons_zero, List.getD_cons_succ, fieldV, tOff, fieldAt, loadV, pickCells, List.drop_zero, List.drop_succ_cons, List.take_succ_cons, List.take_zero, List.getElem?_cons_zero, List.getElem?_cons_succ, List.head?_cons, Nat.zero_add, Nat.reduceAdd, Nat.reduceLT, Nat.reduceLeDiff, Nat.reduceEqDiff, Bool.false_eq_true, ev_neq, beq_self_eq_true, Bool.not_false, nilLen, ev_tf, gnCmp, tt3, tt29, runOpsW, wantedW, gT, gRead, wr_set, wr_getD, wr_get, lkF]
            refine hK1 _ ?_
            clear hK1 K1
            refine runOpsW_cut 14 fun K1 hK1 => ?_
            simp only [List.take_succ_cons, List.take_zero, List.drop_succ_cons, List.drop_zero]
            simp only [stepOp, opV, St.eval, St.put, absV, if_true, if_false, List.length_cons, List.length_nil, List.getD_cons_zero, List.getD_cons_succ, Nat.zero_add, Nat.reduceAdd, Nat.reduceLT, Nat.reduceEqDiff, ev_tf, runOpsW, wantedW, gT, gRead, wr_set, wr_getD, wr_get, lkF]
            refine hK1 _ ?_
            clear hK1 K1
            try simp only [List.drop_succ_cons, List.drop_zero]
            simp only [stepOp, opV, St.eval, St.put, absV, if_true, if_false, List.length_cons, List.length_nil, List.getD_cons_zero, List.getD_cons_succ, Nat.zero_add, Nat.reduceAdd, Nat.reduceLT, Nat.reduceEqDiff, ev_tf, runOpsW, wantedW, gT, gRead, wr_set, wr_getD, wr_get, lkF]
            refine hK _ _ (by kernel_rfl) ?_
            clear hK K
            simp only [mkW, lkF, Nat.reduceAdd, Nat.reduceEqDiff, if_true, if_false]
            refine tri_cond rfl ?_
            refine tri_seq_region tt_ok fun K hK => ?_
            simp only [runOps, stepOp, wantedV, opV, St.eval, St.put, absV, List.length_cons, List.length_nil, List.set_cons_zero, List.set_cons_succ, Nat.zero_add, Nat.reduceAdd]
            refine hK _ ?_
            clear hK K
            refine tri_ret ⟨.inl rfl, ?_⟩
            rw [eqb_false fun e => h4 (by rw [e])]; rfl
        · rw [eqb_false h3] at e3
          refine runOpsW_cut 14 fun K1 hK1 => ?_
          simp only [List.take_succ_cons, List.take_zero, List.drop_succ_cons, List.drop_zero]
          simp only [e3, stepOp, opV, St.eval, St.put, absV, if_true, if_false, List.length_cons, List.length_nil, List.getD_cons_zero, List.getD_cons_succ, fieldV, tOff, fieldAt, loadV, pickCells, List.drop_zero, List.drop_succ_cons, List.take_succ_cons, List.take_zero, List.getElem?_cons_zero, List.getElem?_cons_succ, List.head?_cons, Nat.zero_add, Nat.reduceAdd, Nat.reduceLT, Nat.reduceLeDiff, Nat.reduceEqDiff, Bool.false_eq_true, ev_sneq, beq_self_eq_true, Bool.not_false, nilLen, ev_tf, gnCmp, tt9, tt29, runOpsW, wantedW, gT, gRead, wr_set, wr_getD, wr_get, lkF]
          refine hK1 _ ?_
          clear hK1 K1
          refine runOpsW_cut 14 fun K1 hK1 => ?_
          simp only [List.take_succ_cons, List.take_zero, List.drop_succ_cons, List.drop_zero]
          simp only [stepOp, opV, St.eval, St.put, absV, if_true, if_false, List.length_cons, List.length_nil, List.getD_cons_zero, List.getD_cons_succ, Nat.zero_add, Nat.reduceAdd, Nat.reduceLT, Nat.reduceEqDiff, ev_tf, runOpsW, wantedW, gT, gRead, wr_set, wr_getD, wr_get, lkF]
          refine hK1 _ ?_
          clear hK1 K1
          try simp only [List.drop_succ_cons, List.drop_zero]
          simp only [stepOp, opV, St.eval, St.put, absV, if_true, if_false, List.length_cons, List.length_nil, List.getD_cons_zero, List.getD_cons_succ, Nat.zero_add, Nat.reduceAdd, Nat.reduceLT, Nat.reduceEqDiff, ev_tf, runOpsW, wantedW, gT, gRead, wr_set, wr_getD, wr_get, lkF]
          refine hK _ _ (by kernel_rfl) ?_
          clear hK K
          simp only [mkW, lkF, Nat.reduceAdd, Nat.reduceEqDiff, if_true, if_false]
          refine tri_cond rfl ?_
          refine tri_seq_region tt_ok fun K hK => ?_
          simp only [runOps, stepOp, wantedV, opV, St.eval, St.put, absV, List.length_cons, List.length_nil, List.set_cons_zero, List.set_cons_succ, Nat.zero_add, Nat.reduceAdd]
          refine hK _ ?_
          clear hK K
          refine tri_ret ⟨.inl rfl, ?_⟩
          rw [eqb_false fun e => h3 (by rw [e])]; rfl
      · rw [eqb_false h2] at e2
        refine runOpsW_cut 14 fun K1 hK1 => ?_
        simp only [List.take_succ_cons, List.take_zero, List.drop_succ_cons, List.drop_zero]
        simp only [e2, stepOp, opV, St.eval, St.put, absV, if_true, if_false, List.length_cons, List.length_nil, List.getD_cons_zero, List.getD_cons_succ, fieldV, tOff, fieldAt, loadV, pickCells, List.drop_zero, List.drop_succ_cons, List.take_succ_cons, List.take_zero, List.getElem?_cons_zero, List.getElem?_cons_succ, List.head?_cons, Nat.zero_add, Nat.reduceAdd, Nat.reduceLT, Nat.reduceLeDiff, Nat.reduceEqDiff, Bool.false_eq_true, ev_sneq, beq_self_eq_true, Bool.not_false, nilLen, ev_tf, gnCmp, tt9, tt29, runOpsW, wantedW, gT, gRead, wr_set, wr_getD, wr_get, lkF]
        refine hK1 _ ?_
        clear hK1 K1
        refine runOpsW_cut 14 fun K1 hK1 => ?_
        simp only [List.take_succ_cons, List.take_zero, List.drop_succ_cons, List.drop_zero]
        simp only [stepOp, opV, St.eval, St.put, absV, if_true, if_false, List.length_cons, List.length_nil, List.getD_cons_zero, List.getD_cons_succ, Nat.zero_add, Nat.reduceAdd, Nat.reduceLT, Nat.reduceEqDiff, ev_tf, runOpsW, wantedW, gT, gRead, wr_set, wr_getD, wr_get, lkF]
        refine hK1 _ ?_
        clear hK1 K1
        refine runOpsW_cut 14 fun K1 hK1 => ?_
        simp only [List.take_succ_cons, List.take_zero, List.drop_succ_cons, List.drop_zero]
        simp only [stepOp, opV, St.eval, St.put, absV, if_true, if_false, List.length_cons, List.length_nil, List.getD_cons_zero, List.getD_cons_succ, Nat.zero_add, Nat.reduceAdd, Nat.reduceLT, Nat.reduceEqDiff, ev_tf, runOpsW, wantedW, gT, gRead, wr_set, wr_getD, wr_get, lkF]
        refine hK1 _ ?_
        clear hK1 K1
        try simp only [List.drop_succ_cons, List.drop_zero]
        simp only [stepOp, opV, St.eval, St.put, absV, if_true, if_false, List.length_cons, List.length_nil, List.getD_cons_zero, List.getD_cons_succ, Nat.zero_add, Nat.reduceAdd, Nat.reduceLT, Nat.reduceEqDiff, ev_tf, runOpsW, wantedW, gT, gRead, wr_set, wr_getD, wr_get, lkF]
        refine hK _ _ (by kernel_rfl) ?_
        clear hK K
        simp only [mkW, lkF, Nat.reduceAdd, Nat.reduceEqDiff, if_true, if_false]
        refine tri_cond rfl ?_
        refine tri_seq_region tt_ok fun K hK => ?_
        simp only [runOps, stepOp, wantedV, opV, St.eval, St.put, absV, List.length_cons, List.length_nil, List.set_cons_zero, List.set_cons_succ, Nat.zero_add, Nat.reduceAdd]
        refine hK _ ?_
        clear hK K
        refine tri_ret ⟨.inl rfl, ?_⟩
        rw [eqb_false fun e => h2 (by rw [e])]; rfl
    · rw [eqb_false h1] at e1
      refine runOpsW_cut 14 fun K1 hK1 => ?_
      simp only [List.take_succ_cons, List.take_zero, List.drop_succ_cons, List.drop_zero]
      simp only [e1, stepOp, opV, St.eval, St.put, absV, if_true, if_false, List.length_cons, List.length_nil, List.getD_cons_zero, List.getD_cons_succ, fieldV, tOff, fieldAt, loadV, pickCells, List.drop_zero, List.drop_succ_cons, List.take_succ_cons, List.take_zero, List.getElem?_cons_zero, List.getElem?_cons_succ, List.head?_cons, Nat.zero_add, Nat.reduceAdd, Nat.reduceLT, Nat.reduceLeDiff, Nat.reduceEqDiff, Bool.false_eq_true, ev_sneq, beq_self_eq_true, Bool.not_false, nilLen, ev_tf, gnCmp, tt9, tt29, runOpsW, wantedW, gT, gRead, wr_set, wr_getD, wr_get, lkF]
      refine hK1 _ ?_
      clear hK1 K1
      refine runOpsW_cut 14 fun K1 hK1 => ?_
      simp only [List.take_succ_cons, List.take_zero, List.drop_succ_cons, List.drop_zero]
      simp only [stepOp, opV, St.eval, St.put, absV, if_true, if_false, List.length_cons, List.length_nil, List.getD_cons_zero, List.getD_cons_succ, Nat.zero_add, Nat.reduceAdd, Nat.reduceLT, Nat.reduceEqDiff, ev_tf, runOpsW, wantedW, gT, gRead, wr_set, wr_getD, wr_get, lkF]
      refine hK1 _ ?_
      clear hK1 K1
      refine runOpsW_cut 14 fun K1 hK1 => ?_
      simp only [List.take_succ_cons, List.take_zero, List.drop_succ_cons, List.drop_zero]
      simp only [stepOp, opV, St.eval, St.put, absV, if_true, if_false, List.length_cons, List.length_nil, List.getD_cons_zero, List.getD_cons_succ, Nat.zero_add, Nat.reduceAdd, Nat.reduceLT, Nat.reduceEqDiff, ev_tf, runOpsW, wantedW, gT, gRead, wr_set, wr_getD, wr_get, lkF]
      refine hK1 _ ?_
      clear hK1 K1
      try simp only [List.drop_succ_cons, List.drop_zero]
      simp only [stepOp, opV, St.eval, St.put, absV, if_true, if_false, List.length_cons, List.length_nil, List.getD_cons_zero, List.getD_cons_succ, Nat.zero_add, Nat.reduceAdd, Nat.reduceLT, Nat.reduceEqDiff, ev_tf, runOpsW, wantedW, gT, gRead, wr_set, wr_getD, wr_get, lkF]
      refine hK _ _ (by kernel_rfl) ?_
      clear hK K
      simp only [mkW, lkF, Nat.reduceAdd, Nat.reduceEqDiff, if_true, if_false]
      refine tri_cond rfl ?_
      refine tri_seq_region tt_ok fun K hK => ?_
      simp only [runOps, stepOp, wantedV, opV, St.eval, St.put, absV, List.length_cons, List.length_nil, List.set_cons_zero, List.set_cons_succ, Nat.zero_add, Nat.reduceAdd]
      refine hK _ ?_
      clear hK K
      refine tri_ret ⟨.inl rfl, ?_⟩
      rw [eqb_false fun e => h1 (by rw [e])]; rfl
  · have e0 : decide (t.kind = u.kind) = false := decide_eq_false h0
    refine runOpsW_cut 14 fun K1 hK1 => ?_
    simp only [List.take_succ_cons, List.take_zero]
    simp only [e0, stepOp, opV, St.eval, St.put, absV, if_true, if_false, List.length_cons, List.length_nil, List.getD_cons_zero, List.getD_cons_succ, fieldV, tOff, fieldAt, loadV, pickCells, List.drop_zero, List.take_succ_cons, List.take_zero, List.getElem?_cons_zero, List.getElem?_cons_succ, List.head?_cons, Nat.zero_add, Nat.add_zero, Nat.reduceAdd, Nat.reduceLT, Nat.reduceLeDiff, Nat.reduceEqDiff, Bool.false_eq_true, ev_neq, Bool.not_false, nilLen, ev_tf, gnCmp, tt3, tt29, runOpsW, wantedW, gT, gRead, wr_set, wr_getD, wr_get, lkF]
    refine hK1 _ ?_
    clear hK1 K1
    refine runOpsW_cut 14 fun K1 hK1 => ?_
    simp only [List.take_succ_cons, List.take_zero, List.drop_succ_cons, List.drop_zero]
    simp only [stepOp, opV, St.eval, St.put, absV, if_true, if_false, List.length_cons, List.length_nil, List.getD_cons_zero, List.getD_cons_succ, Nat.zero_add, Nat.reduceAdd, Nat.reduceLT, Nat.reduceEqDiff, ev_tf, runOpsW, wantedW, gT, gRead, wr_set, wr_getD, wr_get, lkF]
    refine hK1 _ ?_
    clear hK1 K1
    refine runOpsW_cut 14 fun K1 hK1 => ?_
    simp only [List.take_succ_cons, List.take_zero, List.drop_succ_cons, List.drop_zero]
    simp only [stepOp, opV, St.eval, St.put, absV, if_true, if_false, List.length_cons, List.length_nil, List.getD_cons_zero, List.getD_cons_succ, Nat.zero_add, Nat.reduceAdd, Nat.reduceLT, Nat.reduceEqDiff, ev_tf, runOpsW, wantedW, gT, gRead, wr_set, wr_getD, wr_get, lkF]
    refine hK1 _ ?_
    clear hK1 K1
    refine runOpsW_cut 14 fun K1 hK1 => ?_
    simp only [List.take_succ_cons, List.take_zero, List.drop_succ_cons, List.drop_zero]
    simp only [stepOp, opV, St.eval, St.put, absV, if_true, if_false, List.length_cons, List.length_nil, List.getD_cons_zero, List.getD_cons_succ, Nat.zero_add, Nat.reduceAdd, Nat.reduceLT, Nat.reduceEqDiff, ev_tf, runOpsW, wantedW, gT, gRead, wr_set, wr_getD, wr_get, lkF]
    refine hK1 _ ?_
    clear hK1 K1
    try simp only [List.drop_succ_cons, List.drop_zero]
    simp only [stepOp, opV, St.eval, St.put, absV, if_true, if_false, List.length_cons, List.length_nil, List.getD_cons_zero, List.getD_cons_succ, Nat.zero_add, Nat.reduceAdd, Nat.reduceLT, Nat.reduceEqDiff, ev_tf, runOpsW, wantedW, gT, gRead, wr_set, wr_getD, wr_get, lkF]
    refine hK _ _ (by kernel_rfl) ?_
    clear hK K
    simp only [mkW, lkF, Nat.reduceAdd, Nat.reduceEqDiff, if_true, if_false]
    refine tri_cond rfl ?_
    refine tri_seq_region tt_ok fun K hK => ?_
    simp only [runOps, stepOp, wantedV, opV, St.eval, St.put, absV, List.length_cons, List.length_nil, List.set_cons_zero, List.set_cons_succ, Nat.zero_add, Nat.reduceAdd]
    refine hK _ ?_
    clear hK K
    refine tri_ret ⟨.inl rfl, ?_⟩
    rw [eqb_false fun e => h0 (by rw [e])]; rfl
end Go.Proofs.YtpjdfcigadnhcaaGreatDoor
end

section
namespace Go.Proofs.YtpjdfcigadnhcaaGreatDoor
open Go.Eng
variable [Glob]
set_option maxHeartbeats 4000000
set_option maxRecDepth 100000
attribute [local irreducible] runM stepM valD stepOp

theorem Ex.kid_bulk {t a : Ex} {i : Nat} (h : t.kids[i]? = some a) : a.bulk < t.bulk := by
  have := sumBy_mem Ex.bulk h; have := t.bulk_kids; omega
theorem Ex.type_size {t : Ex} {a : Ty} {i : Nat} (h : t.types[i]? = some a) : a.size < t.bulk := by
  have := sumBy_mem Ty.size h; have := t.bulk_eq; omega
theorem Ex.label_size {t : Ex} {a : Lb} {i : Nat} (h : t.labels[i]? = some a) : a.ty.size < t.bulk := by
  have h1 := sumBy_mem Lb.bulk h; have h2 := t.bulk_eq; have h3 : a.bulk = 1 + a.ty.size := rfl; omega
theorem seqEx_ok : ∀ (N : Nat) (t u : Ex), t.bulk ≤ N → N ≤ 1048576 → FnOk Tryz.prog 28 [encEx t, encEx u] (bl (eqb t u)) := by
  intro N
  induction N with
  | zero => intro t u h; have := t.bulk_pos; omega
  | succ N ih =>
    intro t u hN hb
    have h1 := t.own_len
    have h2 := t.kids_length
    exact seqEx1_ok t u (equalTys_ok 24 t.types u.types (by omega) fun i a b ha _ => seqTy_ok a.size a b (Nat.le_refl _) (by have := Ex.type_size ha; omega))
      (equalExs_ok 28 t.kids u.kids (by omega) fun i a b ha _ => ih a b (by have := Ex.kid_bulk ha; omega) (by omega))
      (equalLbs_ok 71 t.labels u.labels (by omega) fun i a b ha _ => eqLb_ok a b (seqTy_ok a.ty.size a.ty b.ty (Nat.le_refl _) (by have := Ex.label_size ha; omega)))
theorem reqEx_ok : ∀ (N : Nat) (t u : Ex), t.bulk ≤ N → N ≤ 1048576 → FnOk Tryz.prog 29 [encEx t, encEx u] (bl (eqb t u)) := by
  intro N
  induction N with
  | zero => intro t u h; have := t.bulk_pos; omega
  | succ N ih =>
    intro t u hN hb
    have h1 := t.own_len
    have h2 := t.kids_length
    exact reqEx1_ok t u (by omega) (by omega) (reqTys_ok t.types u.types (by omega) fun i a b ha _ => reqTy_ok a.size a b (Nat.le_refl _) (by have := Ex.type_size ha; omega))
      (fun i a b ha _ => reqTy_ok a.ty.size a.ty b.ty (Nat.le_refl _) (by have := Ex.label_size ha; omega)) fun i a b ha _ => ih a b (by have := Ex.kid_bulk ha; omega) (by omega)
theorem rpms_ok (ts us : List Pm) (hl : ts.length ≤ 1048576) (hg : ∀ (i : Nat) (a b : Pm), ts[i]? = some a → us[i]? = some b → FnOk Tryz.prog 27 [encTy a.bound, encTy b.bound] (bl (eqb a.bound b.bound))) :
    FnOk Tryz.prog 110 [.slice (ts.map encPm), .slice (us.map encPm)] (bl (eqb ts us)) := by
  refine fn_ok tt_ok (fn := Tryz.f110) Tryz.func110 rfl Tryz.call110 ?_
  simp only [startSt, Tryz.ntmps110, List.length_cons, List.length_nil, Nat.reduceAdd, Nat.reduceSub, List.replicate_succ, List.replicate_zero, List.cons_append, List.nil_append]
  have hT : Tryz.prog.underlying 4 = some .bool := by kernel_rfl
  have hbe := fun x y => ev_beql (P := Tryz.prog) (T := 4) x y hT
  have hbn := fun x y => ev_bneq (P := Tryz.prog) (T := 4) x y hT
  refine tri_seq_region tt_ok fun K hK => ?_
  simp only [runOps, stepOp, wantedV, opV, St.eval, St.put, absV, List.length_nil, List.set_cons_zero, List.set_cons_succ]
  refine hK _ ?_
  clear hK K
  refine tri_seq ?_
  by_cases hlen : ts.length = us.length
  · have hd : (!decide ((ts.length : Int) = (us.length : Int))) = false := by simp [hlen]
    refine tri_seq_region tt_ok fun K hK => ?_
    simp only [List.length_map, hd, runOps, stepOp, wantedV, opV, St.eval, St.put, List.length_nil, List.set_cons_zero, List.set_cons_succ, List.getD_cons_zero, List.getD_cons_succ, tElem, List.map_nil, List.map_cons, List.getElem?_cons_zero, lenV, ev_neq, List.getElem?_toArray, nilLen, sliceLen, nilAns, ne_eq, ev_len1, gnCmp, tt3, tt73]
    refine hK _ ?_
    clear hK K
    refine tri_cond rfl (tri_skip ?_)
    show Tri _ _ _ _ _ _
    refine tri_seq ?_
    refine tri_seq_region tt_ok fun K hK => ?_
    simp only [runOps, stepOp, wantedV, opV, St.eval, St.put, absV, List.length_nil, List.set_cons_zero, List.set_cons_succ]
    refine hK _ ?_
    clear hK K
    refine tri_block (tri_loop_inv (fun N st => ∃ (i : Nat), N = ts.length - i ∧ i ≤ ts.length ∧ ts.take i = us.take i ∧
      st = { fr := [.slice (ts.map encPm), .slice (us.map encPm), .undef, .undef, .undef, num i] ++ List.replicate 49 .undef, mem := [] }) ts.length ?_ ?_)
    · exact ⟨0, [true, true, false, false, false, true], by omega, by simp only [maskFr, if_true, if_false, Bool.false_eq_true, List.all_cons, List.all_nil, belowV, Bool.and_self], rfl, 0, by omega, by omega, by simp, rfl⟩
    · rintro N' st ⟨i, rfl, hi, htk, rfl⟩
      simp only [List.replicate_succ, List.replicate_zero, List.cons_append, List.nil_append]
      refine tri_seq ?_
      by_cases hlt : i < ts.length
      · have hd := lt_dec hlt
        refine tri_seq_region tt_ok fun K hK => ?_
        simp only [List.length_map, hd, runOps, stepOp, wantedV, opV, St.eval, St.put, List.length_nil, List.set_cons_zero, List.set_cons_succ, List.getD_cons_zero, List.getD_cons_succ, tElem, List.map_nil, List.map_cons, List.getElem?_cons_zero, lenV, ev_lss, List.getElem?_toArray, nilLen, ev_len1, gnCmp, tt73]
        refine hK _ ?_
        clear hK K
        refine tri_cond rfl (tri_skip ?_)
        refine tri_seq (tri_block ?_)
        obtain ⟨f, hf⟩ : ∃ f, ts[i]? = some f := ⟨_, List.getElem?_eq_getElem hlt⟩
        obtain ⟨g, hg1⟩ : ∃ g, us[i]? = some g := ⟨_, List.getElem?_eq_getElem (by omega)⟩
        have no : ¬ f = g → ¬ ts = us := fun h e => h (by rw [e, hg1] at hf; exact (Option.some.inj hf).symm)
        have e80 := bytes_eq f.name g.name
        have e82 := hg i f g hf hg1
        try simp only [encTy_eq] at e82
        try simp only [tyCells] at e82
        refine tri_seq_mixed_w tt_ok mixed_ok 55 [0, 0, 0, 0, 0, 0, 0, 0, 0, 0, 0, 0, 0, 0, 0, 0, 0, 1, 1, 1, 1, 1, 1, 1, 1, 1, 1, 1, 1, 1, 1, 1, 1, 1, 1, 1, 1, 1, 1, 1, 1, 1, 1, 1, 1, 1, 1, 1, 1, 1, 1, 1, 1, 1, 2] (by kernel_rfl) [⟨.n, 0, [], []⟩, ⟨.n, 0, [], []⟩, ⟨.r, 0, [], []⟩, ⟨.n, 0, [], []⟩, ⟨.r, 0, [], []⟩, ⟨.n, 0, [], []⟩, ⟨.n, 0, [], []⟩, ⟨.r, 0, [], []⟩, ⟨.n, 0, [], []⟩, ⟨.r, 0, [], []⟩, ⟨.n, 0, [], []⟩, ⟨.n, 0, [], []⟩, ⟨.n, 0, [], []⟩, ⟨.n, 0, [], []⟩, ⟨.r, 0, [], []⟩, ⟨.n, 0, [], []⟩, ⟨.r, 0, [], []⟩, ⟨.n, 0, [], []⟩, ⟨.n, 0, [], []⟩, ⟨.r, 0, [], []⟩, ⟨.n, 0, [], []⟩, ⟨.r, 0, [], []⟩, ⟨.n, 0, [], []⟩, ⟨.n, 0, [], []⟩, ⟨.n, 0, [], []⟩, ⟨.n, 0, [], []⟩, ⟨.n, 0, [], []⟩, ⟨.r, 0, [], []⟩, ⟨.n, 0, [], []⟩, ⟨.r, 0, [], []⟩, ⟨.n, 0, [], []⟩, ⟨.n, 0, [], []⟩, ⟨.r, 0, [], []⟩, ⟨.n, 0, [], []⟩, ⟨.r, 0, [], []⟩, ⟨.n, 0, [], []⟩, ⟨.n, 0, [], []⟩, ⟨.n, 0, [], []⟩] 0 (by kernel_rfl) fun K hK => ?_
        by_cases h80 : f.name = g.name
        · rw [eqb_true h80] at e80
          refine runM_cut 6 (by simp) (by simp) fun K1 hK1 => ?_
          simp only [List.getElem?_map, hf, encPm, tyCells, List.cons_append, List.nil_append, wantedV, opV, St.eval, St.put, if_true, if_false, List.length_cons, List.length_nil, List.nil_append, List.cons_append, List.append_nil, List.getD_cons_zero, List.getD_cons_succ, tElem, tSize, List.map_nil, fieldV, tOff, fieldAt, loadV, pickCells, List.drop_zero, List.take_succ_cons, List.take_zero, List.getElem?_cons_zero, List.head?_cons, Nat.zero_add, Nat.add_zero, Nat.reduceAdd, Nat.reduceLT, Nat.reduceEqDiff, Bool.false_eq_true, Int.natCast_nonneg, indexV, indexAt, Int.toNat_natCast, V.cells, Option.map_some, rowOf, sizeOfBlk, tt9, tt73, tt77, wr_set, wr_getD, lkF, runM, List.drop_zero, stepM, valD, val1, maskB, List.replicate, Nat.reduceAdd]
          refine hK1 _ ?_
          clear hK1 K1
          refine runM_cut 6 (by simp) (by simp) fun K1 hK1 => ?_
          simp only [e80, List.getElem?_map, hg1, encPm, tyCells, List.cons_append, List.nil_append, wantedV, opV, St.eval, St.put, if_true, if_false, List.length_cons, List.length_nil, List.nil_append, List.cons_append, List.getD_cons_zero, List.getD_cons_succ, tElem, tSize, List.map_nil, fieldV, tOff, fieldAt, loadV, pickCells, List.drop_zero, List.drop_succ_cons, List.take_succ_cons, List.take_zero, List.getElem?_cons_zero, List.head?_cons, Nat.zero_add, Nat.add_zero, Nat.reduceAdd, Nat.reduceLT, Nat.reduceEqDiff, Bool.false_eq_true, ev_sneq, Int.natCast_nonneg, indexV, indexAt, Int.toNat_natCast, V.cells, Option.map_some, Bool.not_true, rowOf, sizeOfBlk, gnCmp, tt9, tt73, tt77, wr_set, wr_getD, lkF, runM, List.drop_succ_cons, List.drop_zero, stepM, valD, val1, maskB, Nat.reduceAdd]
          refine hK1 _ ?_
          clear hK1 K1
          by_cases h81 : f.variance = g.variance
          · have e81 : decide (f.variance = g.variance) = true := decide_eq_true h81
            refine runM_cut 6 (by simp) (by simp) fun K1 hK1 => ?_
            simp only [List.getElem?_map, hf, encPm, tyCells, List.cons_append, List.nil_append, wantedV, opV, St.eval, St.put, if_true, if_false, List.length_cons, List.length_nil, List.nil_append, List.cons_append, List.getD_cons_zero, List.getD_cons_succ, tElem, tSize, List.map_nil, fieldV, tOff, fieldAt, loadV, pickCells, List.drop_zero, List.drop_succ_cons, List.take_succ_cons, List.take_zero, List.getElem?_cons_zero, List.getElem?_cons_succ, List.head?_cons, Nat.zero_add, Nat.reduceAdd, Nat.reduceLT, Nat.reduceEqDiff, reduceCtorEq, Bool.false_eq_true, Int.natCast_nonneg, indexV, indexAt, Int.toNat_natCast, V.cells, Option.map_some, Option.bind_some, List.getElem?_toArray, beq_self_eq_true, rowOf, sizeOfBlk, tt3, tt73, tt77, wr_set, wr_getD, wr_get, lkF, runM, List.drop_succ_cons, List.drop_zero, stepM, valD, val1, maskB, Nat.reduceAdd]
            refine hK1 _ ?_
            clear hK1 K1
            refine runM_cut 6 (by simp) (by simp) fun K1 hK1 => ?_
            simp only [e81, List.getElem?_map, hg1, encPm, tyCells, List.cons_append, List.nil_append, wantedV, opV, St.eval, St.put, absV, if_true, if_false, List.length_cons, List.length_nil, List.nil_append, List.cons_append, List.getD_cons_zero, List.getD_cons_succ, tElem, tSize, List.map_nil, fieldV, tOff, fieldAt, loadV, pickCells, List.drop_zero, List.drop_succ_cons, List.take_succ_cons, List.take_zero, List.getElem?_cons_zero, List.getElem?_cons_succ, List.head?_cons, Nat.zero_add, Nat.reduceAdd, Nat.reduceLT, Nat.reduceEqDiff, Bool.false_eq_true, ev_neq, Int.natCast_nonneg, indexV, indexAt, Int.toNat_natCast, V.cells, Option.map_some, Option.bind_some, List.getElem?_toArray, beq_self_eq_true, Bool.not_true, rowOf, sizeOfBlk, gnCmp, tt3, tt73, tt77, wr_set, wr_getD, wr_get, lkF, runM, List.drop_succ_cons, List.drop_zero, stepM, valD, val1, maskB, Nat.reduceAdd]
            refine hK1 _ ?_
            clear hK1 K1
            refine runM_cut 1 (by simp) (by simp) fun K1 hK1 => ?_
            simp only [wantedV, opV, St.eval, St.put, if_true, if_false, List.length_nil, List.getD_cons_zero, List.getD_cons_succ, List.drop_zero, List.drop_succ_cons, List.take_succ_cons, List.take_zero, Nat.reduceLT, Nat.reduceEqDiff, wr_set, wr_getD, lkF, runM, List.drop_succ_cons, List.drop_zero, stepM, valD, val1]
            refine hK1 _ ?_
            clear hK1 K1
            by_cases h82 : f.bound = g.bound
            · rw [eqb_true h82] at e82
              refine runM_cut 6 (by simp) (by simp) fun K1 hK1 => ?_
              simp only [List.getElem?_map, hf, encPm, tyCells, List.cons_append, List.nil_append, wantedV, opV, St.eval, St.put, if_true, if_false, List.length_cons, List.length_nil, List.nil_append, List.cons_append, List.getD_cons_zero, List.getD_cons_succ, tElem, tSize, List.map_nil, fieldV, tOff, fieldAt, loadV, pickCells, List.drop_zero, List.drop_succ_cons, List.take_succ_cons, List.take_zero, List.getElem?_cons_zero, List.getElem?_cons_succ, Nat.zero_add, Nat.reduceAdd, Nat.reduceLT, Nat.reduceEqDiff, Nat.le_refl, reduceCtorEq, Int.natCast_nonneg, indexV, indexAt, Int.toNat_natCast, V.cells, Option.map_some, Option.bind_some, List.getElem?_toArray, beq_self_eq_true, rowOf, sizeOfBlk, tt25, tt73, tt77, wr_set, wr_getD, wr_get, lkF, runM, List.drop_succ_cons, List.drop_zero, stepM, valD, val1, maskB, Nat.reduceAdd]
              refine hK1 _ ?_
              clear hK1 K1
              refine runM_cut 6 (by simp) (by simp) fun K1 hK1 => ?_
              simp only [List.getElem?_map, hg1, encPm, tyCells, List.cons_append, List.nil_append, wantedV, opV, St.eval, St.put, if_true, if_false, List.length_cons, List.length_nil, List.nil_append, List.cons_append, List.append_nil, List.getD_cons_zero, List.getD_cons_succ, tElem, tSize, List.map_nil, List.map_cons, fieldV, tOff, fieldAt, loadV, pickCells, List.drop_zero, List.drop_succ_cons, List.take_succ_cons, List.take_zero, List.getElem?_cons_zero, List.getElem?_cons_succ, Nat.zero_add, Nat.reduceAdd, Nat.reduceLT, Nat.reduceEqDiff, Nat.le_refl, Int.natCast_nonneg, indexV, indexAt, Int.toNat_natCast, V.cells, calleeOf, Option.map_some, Option.bind_some, List.getElem?_toArray, beq_self_eq_true, rowOf, sizeOfBlk, tt25, tt73, tt77, wr_set, wr_getD, wr_get, lkF, runM, List.drop_succ_cons, List.drop_zero, stepM, valD, val1, maskB, Nat.reduceAdd]
              refine ⟨_, _, by simp only [purL, pur1, purCells, purCell, nilS], .inl (e82), ?_⟩
              try simp only [St.put, if_true, if_false, List.getD_cons_zero, List.getD_cons_succ, Nat.reduceLT, Nat.reduceEqDiff, ev_not, beq_self_eq_true, Bool.not_true, wr_set, wr_getD, wr_get, lkF]
              refine hK1 _ ?_
              clear hK1 K1
              simp only [wantedV, opV, St.eval, St.put, absV, if_true, if_false, List.length_nil, List.getD_cons_zero, List.getD_cons_succ, List.drop_zero, List.drop_succ_cons, Nat.reduceLT, Nat.reduceEqDiff, Bool.false_eq_true, wr_set, wr_getD, lkF, runM, List.drop_succ_cons, List.drop_zero, stepM, valD, val1]
              refine hK _ _ (by kernel_rfl) ?_
              clear hK K
              simp only [mkW, lkF, Nat.reduceAdd, Nat.reduceEqDiff, if_true, if_false]
              refine tri_cond rfl (tri_skip ?_)
              show Tri _ _ _ _ _ _
              refine tri_last_region tt_ok fun K hK => ?_
              simp only [runOps, stepOp, wantedV, opV, St.eval, St.put, absV, List.length_nil, List.set_cons_zero, List.set_cons_succ, List.getD_cons_zero, List.getD_cons_succ, ev_add, nilLen, gnCmp]
              refine hK _ ?_
              clear hK K
              rw [i64_succ i (by omega)]
              exact ⟨ts.length - (i + 1), by omega, 0, [true, true, false, false, false, true], by omega, by simp only [maskFr, if_true, if_false, Bool.false_eq_true, List.all_cons, List.all_nil, belowV, Bool.and_self], rfl, i + 1, rfl, hlt, by rw [List.take_add_one, List.take_add_one, htk, hf, hg1, Pm.ext' h80 h81 h82], rfl⟩
            · rw [eqb_false h82] at e82
              refine runM_cut 6 (by simp) (by simp) fun K1 hK1 => ?_
              simp only [List.getElem?_map, hf, encPm, tyCells, List.cons_append, List.nil_append, wantedV, opV, St.eval, St.put, if_true, if_false, List.length_cons, List.length_nil, List.nil_append, List.cons_append, List.getD_cons_zero, List.getD_cons_succ, tElem, tSize, List.map_nil, fieldV, tOff, fieldAt, loadV, pickCells, List.drop_zero, List.drop_succ_cons, List.take_succ_cons, List.take_zero, List.getElem?_cons_zero, List.getElem?_cons_succ, Nat.zero_add, Nat.reduceAdd, Nat.reduceLT, Nat.reduceEqDiff, Nat.le_refl, reduceCtorEq, Int.natCast_nonneg, indexV, indexAt, Int.toNat_natCast, V.cells, Option.map_some, Option.bind_some, List.getElem?_toArray, beq_self_eq_true, rowOf, sizeOfBlk, tt25, tt73, tt77, wr_set, wr_getD, wr_get, lkF, runM, List.drop_succ_cons, List.drop_zero, stepM, valD, val1, maskB, Nat.reduceAdd]
              refine hK1 _ ?_
              clear hK1 K1
              refine runM_cut 6 (by simp) (by simp) fun K1 hK1 => ?_
              simp only [List.getElem?_map, hg1, encPm, tyCells, List.cons_append, List.nil_append, wantedV, opV, St.eval, St.put, if_true, if_false, List.length_cons, List.length_nil, List.nil_append, List.cons_append, List.append_nil, List.getD_cons_zero, List.getD_cons_succ, tElem, tSize, List.map_nil, List.map_cons, fieldV, tOff, fieldAt, loadV, pickCells, List.drop_zero, List.drop_succ_cons, List.take_succ_cons, List.take_zero, List.getElem?_cons_zero, List.getElem?_cons_succ, Nat.zero_add, Nat.reduceAdd, Nat.reduceLT, Nat.reduceEqDiff, Nat.le_refl, Int.natCast_nonneg, indexV, indexAt, Int.toNat_natCast, V.cells, calleeOf, Option.map_some, Option.bind_some, List.getElem?_toArray, beq_self_eq_true, rowOf, sizeOfBlk, tt25, tt73, tt77, wr_set, wr_getD, wr_get, lkF, runM, List.drop_succ_cons, List.drop_zero, stepM, valD, val1, maskB, Nat.reduceAdd]
              refine ⟨_, _, by simp only [purL, pur1, purCells, purCell, nilS], .inl (e82), ?_⟩
              try simp only [St.put, if_true, if_false, List.getD_cons_zero, List.getD_cons_succ, Nat.reduceLT, Nat.reduceEqDiff, ev_not, beq_self_eq_true, Bool.not_false, wr_set, wr_getD, wr_get, lkF]
              refine hK1 _ ?_
              clear hK1 K1
              simp only [wantedV, opV, St.eval, St.put, absV, if_true, if_false, List.length_nil, List.getD_cons_zero, List.getD_cons_succ, List.drop_zero, List.drop_succ_cons, Nat.reduceLT, Nat.reduceEqDiff, Bool.false_eq_true, wr_set, wr_getD, lkF, runM, List.drop_succ_cons, List.drop_zero, stepM, valD, val1]
              refine hK _ _ (by kernel_rfl) ?_
              clear hK K
              simp only [mkW, lkF, Nat.reduceAdd, Nat.reduceEqDiff, if_true, if_false]
              refine tri_cond rfl ?_
              refine tri_seq_region tt_ok fun K hK => ?_
              simp only [runOps, stepOp, wantedV, opV, St.eval, St.put, absV, List.length_nil, List.set_cons_zero, List.set_cons_succ]
              refine hK _ ?_
              clear hK K
              refine tri_ret ⟨.inl rfl, ?_⟩
              rw [eqb_false (no fun e => h82 (by rw [e]))]; rfl
          · have e81 : decide (f.variance = g.variance) = false := decide_eq_false h81
            refine runM_cut 6 (by simp) (by simp) fun K1 hK1 => ?_
            simp only [List.getElem?_map, hf, encPm, tyCells, List.cons_append, List.nil_append, wantedV, opV, St.eval, St.put, if_true, if_false, List.length_cons, List.length_nil, List.nil_append, List.cons_append, List.getD_cons_zero, List.getD_cons_succ, tElem, tSize, List.map_nil, fieldV, tOff, fieldAt, loadV, pickCells, List.drop_zero, List.drop_succ_cons, List.take_succ_cons, List.take_zero, List.getElem?_cons_zero, List.getElem?_cons_succ, List.head?_cons, Nat.zero_add, Nat.reduceAdd, Nat.reduceLT, Nat.reduceEqDiff, reduceCtorEq, Bool.false_eq_true, Int.natCast_nonneg, indexV, indexAt, Int.toNat_natCast, V.cells, Option.map_some, Option.bind_some, List.getElem?_toArray, beq_self_eq_true, rowOf, sizeOfBlk, tt3, tt73, tt77, wr_set, wr_getD, wr_get, lkF, runM, List.drop_succ_cons, List.drop_zero, stepM, valD, val1, maskB, Nat.reduceAdd]
            refine hK1 _ ?_
            clear hK1 K1
            refine runM_cut 6 (by simp) (by simp) fun K1 hK1 => ?_
            simp only [e81, List.getElem?_map, hg1, encPm, tyCells, List.cons_append, List.nil_append, wantedV, opV, St.eval, St.put, absV, if_true, if_false, List.length_cons, List.length_nil, List.nil_append, List.cons_append, List.getD_cons_zero, List.getD_cons_succ, tElem, tSize, List.map_nil, fieldV, tOff, fieldAt, loadV, pickCells, List.drop_zero, List.drop_succ_cons, List.take_succ_cons, List.take_zero, List.getElem?_cons_zero, List.getElem?_cons_succ, List.head?_cons, Nat.zero_add, Nat.reduceAdd, Nat.reduceLT, Nat.reduceEqDiff, Bool.false_eq_true, ev_neq, Int.natCast_nonneg, indexV, indexAt, Int.toNat_natCast, V.cells, Option.map_some, Option.bind_some, List.getElem?_toArray, beq_self_eq_true, Bool.not_false, rowOf, sizeOfBlk, gnCmp, tt3, tt73, tt77, wr_set, wr_getD, wr_get, lkF, runM, List.drop_succ_cons, List.drop_zero, stepM, valD, val1, maskB, Nat.reduceAdd]
            refine hK1 _ ?_
            clear hK1 K1
            refine runM_cut 6 (by simp) (by simp) fun K1 hK1 => ?_
            simp only [wantedV, opV, St.eval, St.put, if_true, if_false, List.length_nil, List.getD_cons_zero, List.getD_cons_succ, tElem, tSize, List.map_nil, fieldV, tOff, fieldAt, loadV, pickCells, List.drop_zero, List.drop_succ_cons, List.take_succ_cons, List.take_zero, List.getElem?_cons_zero, List.getElem?_cons_succ, Nat.zero_add, Nat.reduceLT, Nat.reduceEqDiff, indexV, indexAt, V.cells, Option.bind_some, List.getElem?_toArray, rowOf, sizeOfBlk, ev_tf, tt25, tt73, tt77, wr_set, wr_getD, wr_get, lkF, runM, List.drop_succ_cons, List.drop_zero, stepM, valD, val1, maskB]
            refine hK1 _ ?_
            clear hK1 K1
            refine runM_cut 6 (by simp) (by simp) fun K1 hK1 => ?_
            simp only [List.nil_append, wantedV, opV, St.eval, St.put, if_true, if_false, List.length_nil, List.nil_append, List.append_nil, List.getD_cons_zero, List.getD_cons_succ, tElem, tSize, List.map_nil, List.map_cons, fieldV, tOff, fieldAt, loadV, pickCells, List.drop_zero, List.drop_succ_cons, List.take_succ_cons, List.take_zero, List.getElem?_cons_zero, List.getElem?_cons_succ, Nat.zero_add, Nat.reduceLT, Nat.reduceEqDiff, indexV, indexAt, V.cells, calleeOf, Option.bind_some, List.getElem?_toArray, rowOf, sizeOfBlk, ev_tf, tt25, tt73, tt77, wr_set, wr_get, lkF, runM, List.drop_succ_cons, List.drop_zero, stepM, valD, val1, maskB]
            refine hK1 _ ?_
            clear hK1 K1
            simp only [wantedV, opV, St.eval, St.put, absV, if_true, if_false, List.length_nil, List.getD_cons_zero, List.getD_cons_succ, List.drop_zero, List.drop_succ_cons, List.getElem?_cons_zero, List.getElem?_cons_succ, Nat.reduceLT, Nat.reduceEqDiff, Option.bind_some, List.getElem?_toArray, ev_tf, wr_set, wr_getD, wr_get, lkF, runM, List.drop_succ_cons, List.drop_zero, stepM, valD, val1]
            refine hK _ _ (by kernel_rfl) ?_
            clear hK K
            simp only [mkW, lkF, Nat.reduceAdd, Nat.reduceEqDiff, if_true, if_false]
            refine tri_cond rfl ?_
            refine tri_seq_region tt_ok fun K hK => ?_
            simp only [runOps, stepOp, wantedV, opV, St.eval, St.put, absV, List.length_nil, List.set_cons_zero, List.set_cons_succ]
            refine hK _ ?_
            clear hK K
            refine tri_ret ⟨.inl rfl, ?_⟩
            rw [eqb_false (no fun e => h81 (by rw [e]))]; rfl
        · rw [eqb_false h80] at e80
          refine runM_cut 6 (by simp) (by simp) fun K1 hK1 => ?_
          simp only [List.getElem?_map, hf, encPm, tyCells, List.cons_append, List.nil_append, wantedV, opV, St.eval, St.put, if_true, if_false, List.length_cons, List.length_nil, List.nil_append, List.cons_append, List.append_nil, List.getD_cons_zero, List.getD_cons_succ, tElem, tSize, List.map_nil, fieldV, tOff, fieldAt, loadV, pickCells, List.drop_zero, List.take_succ_cons, List.take_zero, List.getElem?_cons_zero, List.head?_cons, Nat.zero_add, Nat.add_zero, Nat.reduceAdd, Nat.reduceLT, Nat.reduceEqDiff, Bool.false_eq_true, Int.natCast_nonneg, indexV, indexAt, Int.toNat_natCast, V.cells, Option.map_some, rowOf, sizeOfBlk, tt9, tt73, tt77, wr_set, wr_getD, lkF, runM, List.drop_zero, stepM, valD, val1, maskB, List.replicate, Nat.reduceAdd]
          refine hK1 _ ?_
          clear hK1 K1
          refine runM_cut 6 (by simp) (by simp) fun K1 hK1 => ?_
          simp only [e80, List.getElem?_map, hg1, encPm, tyCells, List.cons_append, List.nil_append, wantedV, opV, St.eval, St.put, if_true, if_false, List.length_cons, List.length_nil, List.nil_append, List.cons_append, List.getD_cons_zero, List.getD_cons_succ, tElem, tSize, List.map_nil, fieldV, tOff, fieldAt, loadV, pickCells, List.drop_zero, List.drop_succ_cons, List.take_succ_cons, List.take_zero, List.getElem?_cons_zero, List.head?_cons, Nat.zero_add, Nat.add_zero, Nat.reduceAdd, Nat.reduceLT, Nat.reduceEqDiff, Bool.false_eq_true, ev_sneq, Int.natCast_nonneg, indexV, indexAt, Int.toNat_natCast, V.cells, Option.map_some, Bool.not_false, rowOf, sizeOfBlk, gnCmp, tt9, tt73, tt77, wr_set, wr_getD, lkF, runM, List.drop_succ_cons, List.drop_zero, stepM, valD, val1, maskB, Nat.reduceAdd]
          refine hK1 _ ?_
          clear hK1 K1
          refine runM_cut 6 (by simp) (by simp) fun K1 hK1 => ?_
          simp only [wantedV, opV, St.eval, St.put, if_true, if_false, List.length_nil, List.getD_cons_zero, List.getD_cons_succ, tElem, tSize, List.map_nil, fieldV, tOff, fieldAt, loadV, pickCells, List.drop_zero, List.drop_succ_cons, List.take_succ_cons, List.take_zero, List.getElem?_cons_zero, List.getElem?_cons_succ, Nat.zero_add, Nat.reduceLT, Nat.reduceEqDiff, Bool.false_eq_true, indexV, indexAt, V.cells, Option.bind_some, List.getElem?_toArray, rowOf, sizeOfBlk, ev_tf, tt3, tt73, tt77, wr_set, wr_get, lkF, runM, List.drop_succ_cons, List.drop_zero, stepM, valD, val1, maskB]
          refine hK1 _ ?_
          clear hK1 K1
          refine runM_cut 6 (by simp) (by simp) fun K1 hK1 => ?_
          simp only [wantedV, opV, St.eval, St.put, absV, if_true, if_false, List.length_nil, List.getD_cons_zero, List.getD_cons_succ, tElem, tSize, List.map_nil, fieldV, tOff, fieldAt, loadV, pickCells, List.drop_zero, List.drop_succ_cons, List.take_succ_cons, List.take_zero, List.getElem?_cons_zero, List.getElem?_cons_succ, Nat.zero_add, Nat.reduceLT, Nat.reduceEqDiff, Bool.false_eq_true, indexV, indexAt, V.cells, Option.bind_some, List.getElem?_toArray, rowOf, sizeOfBlk, ev_tf, gnCmp, tt3, tt73, tt77, wr_set, wr_getD, wr_get, lkF, runM, List.drop_succ_cons, List.drop_zero, stepM, valD, val1, maskB]
          refine hK1 _ ?_
          clear hK1 K1
          refine runM_cut 6 (by simp) (by simp) fun K1 hK1 => ?_
          simp only [wantedV, opV, St.eval, St.put, if_true, if_false, List.length_nil, List.getD_cons_zero, List.getD_cons_succ, tElem, tSize, List.map_nil, fieldV, tOff, fieldAt, loadV, pickCells, List.drop_zero, List.drop_succ_cons, List.take_succ_cons, List.take_zero, List.getElem?_cons_zero, List.getElem?_cons_succ, Nat.zero_add, Nat.reduceLT, Nat.reduceEqDiff, indexV, indexAt, V.cells, Option.bind_some, List.getElem?_toArray, rowOf, sizeOfBlk, ev_tf, tt25, tt73, tt77, wr_set, wr_getD, wr_get, lkF, runM, List.drop_succ_cons, List.drop_zero, stepM, valD, val1, maskB]
          refine hK1 _ ?_
          clear hK1 K1
          refine runM_cut 6 (by simp) (by simp) fun K1 hK1 => ?_
          simp only [List.nil_append, wantedV, opV, St.eval, St.put, if_true, if_false, List.length_nil, List.nil_append, List.append_nil, List.getD_cons_zero, List.getD_cons_succ, tElem, tSize, List.map_nil, List.map_cons, fieldV, tOff, fieldAt, loadV, pickCells, List.drop_zero, List.drop_succ_cons, List.take_succ_cons, List.take_zero, List.getElem?_cons_zero, List.getElem?_cons_succ, Nat.zero_add, Nat.reduceLT, Nat.reduceEqDiff, indexV, indexAt, V.cells, calleeOf, Option.bind_some, List.getElem?_toArray, rowOf, sizeOfBlk, ev_tf, tt25, tt73, tt77, wr_set, wr_get, lkF, runM, List.drop_succ_cons, List.drop_zero, stepM, valD, val1, maskB]
          refine hK1 _ ?_
          clear hK1 K1
          simp only [wantedV, opV, St.eval, St.put, absV, if_true, if_false, List.length_nil, List.getD_cons_zero, List.getD_cons_succ, List.drop_zero, List.drop_succ_cons, List.getElem?_cons_zero, List.getElem?_cons_succ, Nat.reduceLT, Nat.reduceEqDiff, Option.bind_some, List.getElem?_toArray, ev_tf, wr_set, wr_getD, wr_get, lkF, runM, List.drop_succ_cons, List.drop_zero, stepM, valD, val1]
          refine hK _ _ (by kernel_rfl) ?_
          clear hK K
          simp only [mkW, lkF, Nat.reduceAdd, Nat.reduceEqDiff, if_true, if_false]
          refine tri_cond rfl ?_
          refine tri_seq_region tt_ok fun K hK => ?_
          simp only [runOps, stepOp, wantedV, opV, St.eval, St.put, absV, List.length_nil, List.set_cons_zero, List.set_cons_succ]
          refine hK _ ?_
          clear hK K
          refine tri_ret ⟨.inl rfl, ?_⟩
          rw [eqb_false (no fun e => h80 (by rw [e]))]; rfl
      · have hd := ge_dec hlt
        refine tri_seq_region tt_ok fun K hK => ?_
        simp only [List.length_map, hd, runOps, stepOp, wantedV, opV, St.eval, St.put, List.length_nil, List.set_cons_zero, List.set_cons_succ, List.getD_cons_zero, List.getD_cons_succ, tElem, List.map_nil, List.map_cons, List.getElem?_cons_zero, lenV, ev_lss, List.getElem?_toArray, nilLen, ev_len1, gnCmp, tt73]
        refine hK _ ?_
        clear hK K
        refine tri_cond rfl (tri_exit ?_)
        have hie : i = ts.length := by omega
        subst hie
        show Tri _ _ _ _ _ _
        refine tri_seq_region tt_ok fun K hK => ?_
        simp only [runOps, stepOp, wantedV, opV, St.eval, St.put, absV, List.length_nil, List.set_cons_zero, List.set_cons_succ]
        refine hK _ ?_
        clear hK K
        refine tri_ret ⟨.inl rfl, ?_⟩
        have he : ts = us := by
          rw [List.take_length] at htk
          rw [htk, hlen, List.take_length]
        rw [eqb_true he]; rfl
  · have hd : (!decide ((ts.length : Int) = (us.length : Int))) = true := by simp; omega
    refine tri_seq_region tt_ok fun K hK => ?_
    simp only [List.length_map, hd, runOps, stepOp, wantedV, opV, St.eval, St.put, List.length_nil, List.set_cons_zero, List.set_cons_succ, List.getD_cons_zero, List.getD_cons_succ, tElem, List.map_nil, List.map_cons, List.getElem?_cons_zero, lenV, ev_neq, List.getElem?_toArray, nilLen, sliceLen, nilAns, ne_eq, ev_len1, gnCmp, tt3, tt73]
    refine hK _ ?_
    clear hK K
    refine tri_cond rfl ?_
    refine tri_seq_region tt_ok fun K hK => ?_
    simp only [runOps, stepOp, wantedV, opV, St.eval, St.put, absV, List.length_nil, List.set_cons_zero, List.set_cons_succ]
    refine hK _ ?_
    clear hK K
    refine tri_ret ⟨.inl rfl, ?_⟩
    rw [eqb_false (fun e => hlen (by rw [e]))]; rfl
theorem Dc.ext' {t u : Dc} (h0 : t.kind = u.kind) (h1 : t.name = u.name) (h2 : t.exported = u.exported) (h3 : t.deprecated = u.deprecated) (h4 : t.note = u.note) (h5 : t.params = u.params) (h6 : t.lower = u.lower) (h7 : t.upper = u.upper) (h8 : t.type = u.type) (h9 : t.expr = u.expr) (h10 : t.mod = u.mod) (h11 : t.target = u.target) : t = u := by
  cases t; cases u; simp_all
theorem reqDc1_ok (t u : Dc) (hps : FnOk Tryz.prog 110 [.slice (t.params.map encPm), .slice (u.params.map encPm)] (bl (eqb t.params u.params))) (hlower : FnOk Tryz.prog 27 [encTy t.lower, encTy u.lower] (bl (eqb t.lower u.lower))) (hupper : FnOk Tryz.prog 27 [encTy t.upper, encTy u.upper] (bl (eqb t.upper u.upper))) (htype : FnOk Tryz.prog 27 [encTy t.type, encTy u.type] (bl (eqb t.type u.type))) (hexpr : FnOk Tryz.prog 29 [encEx t.expr, encEx u.expr] (bl (eqb t.expr u.expr))) : FnOk Tryz.prog 75 [encDc t, encDc u] (bl (eqb t u)) := by
  refine fn_ok tt_ok (fn := Tryz.f75) Tryz.func75 rfl Tryz.call75 ?_
  simp only [startSt, Tryz.ntmps75, List.length_cons, List.length_nil, Nat.reduceAdd, Nat.reduceSub, List.replicate_succ, List.replicate_zero, List.cons_append, List.nil_append]
  have hT : Tryz.prog.underlying 4 = some .bool := by kernel_rfl
  have hbe := fun x y => ev_beql (P := Tryz.prog) (T := 4) x y hT
  have hbn := fun x y => ev_bneq (P := Tryz.prog) (T := 4) x y hT
  simp only [encDc_eq, dcCells, tyCells, exCells, List.cons_append, List.nil_append]
  refine tri_seq_region tt_ok fun K hK => ?_
  simp only [runOps, stepOp, wantedV, opV, St.eval, St.put, absV, cellsV, oneV, List.all_cons, List.all_nil, Bool.and_self, Value.oneCell', if_true, if_false, setMem, List.length_cons, List.length_nil, Nat.lt_irrefl, List.nil_append, List.cons_append, List.set_cons_zero, List.set_cons_succ, List.getD_cons_zero, List.getD_cons_succ, Nat.zero_add]
  refine hK _ ?_
  clear hK K
  have e1 := bytes_eq t.name u.name
  have e4 := bytes_eq t.note u.note
  have e5 := hps
  try simp only [encTy_eq, encEx_eq] at e5
  try simp only [tyCells, exCells] at e5
  have e6 := hlower
  try simp only [encTy_eq] at e6
  try simp only [tyCells] at e6
  have e7 := hupper
  try simp only [encTy_eq] at e7
  try simp only [tyCells] at e7
  have e8 := htype
  try simp only [encTy_eq] at e8
  try simp only [tyCells] at e8
  have e9 := hexpr
  try simp only [encEx_eq] at e9
  try simp only [exCells] at e9
  have e10 := bytes_eq t.mod u.mod
  have e11 := bytes_eq t.target u.target
  refine tri_seq_region_w tt_ok 87 [0, 0, 0, 0, 2, 1, 1, 1, 1, 1, 1, 1, 1, 1, 1, 1, 1, 1, 1, 1, 1, 1, 1, 1, 1, 1, 1, 1, 1, 1, 1, 1, 1, 1, 1, 1, 1, 1, 1, 1, 1, 1, 1, 1, 1, 1, 1, 1, 1, 1, 1, 1, 1, 1, 1, 1, 1, 1, 1, 1, 1, 1, 1, 1, 1, 1, 1, 1, 1, 1, 1, 1, 1, 1, 1, 1, 1, 1, 1, 1, 1, 1, 1, 1, 1, 1, 1] [(5, 10), (12, 17), (19, 24), (26, 31), (33, 38), (40, 45), (47, 52), (54, 59), (61, 66), (68, 73), (75, 80)] (by kernel_rfl) (by kernel_rfl) fun K hK => ?_
  by_cases h0 : t.kind = u.kind
  · have e0 : decide (t.kind = u.kind) = true := decide_eq_true h0
    refine runOpsW_cut 6 fun K1 hK1 => ?_
    simp only [List.append_eq, List.cons_append, List.nil_append, List.take_succ_cons, List.take_zero]
    simp only [e0, stepOp, opV, St.eval, St.put, if_true, if_false, List.length_cons, List.length_nil, List.getD_cons_zero, List.getD_cons_succ, fieldV, tOff, fieldAt, loadV, pickCells, List.drop_zero, List.take_succ_cons, List.take_zero, List.getElem?_cons_zero, List.getElem?_cons_succ, List.head?_cons, Nat.zero_add, Nat.add_zero, Nat.reduceAdd, Nat.reduceLT, Nat.reduceLeDiff, Nat.reduceEqDiff, Bool.false_eq_true, ev_eql, nilLen, gnCmp, tt3, tt75, runOpsW, wantedW, wr_set, wr_getD, lkF]
    refine hK1 _ ?_
    clear hK1 K1
    by_cases h1 : t.name = u.name
    · rw [eqb_true h1] at e1
      refine runOpsW_cut 7 fun K1 hK1 => ?_
      simp only [List.append_eq, List.cons_append, List.nil_append, List.take_succ_cons, List.take_zero, List.drop_succ_cons, List.drop_zero]
      simp only [e1, stepOp, opV, St.eval, St.put, absV, if_true, if_false, List.length_cons, List.length_nil, List.getD_cons_zero, List.getD_cons_succ, fieldV, tOff, fieldAt, loadV, pickCells, List.drop_zero, List.drop_succ_cons, List.take_succ_cons, List.take_zero, List.getElem?_cons_zero, List.getElem?_cons_succ, List.head?_cons, Nat.zero_add, Nat.reduceAdd, Nat.reduceLT, Nat.reduceLeDiff, Nat.reduceEqDiff, Bool.false_eq_true, ev_seql, beq_self_eq_true, nilLen, gnCmp, tt9, tt75, runOpsW, wantedW, gT, gRead, wr_set, wr_getD, wr_get, lkF]
      refine hK1 _ ?_
      clear hK1 K1
      by_cases h2 : t.exported = u.exported
      · have e2 : (t.exported == u.exported) = true := by simpa using h2
        refine runOpsW_cut 7 fun K1 hK1 => ?_
        simp only [List.append_eq, List.cons_append, List.nil_append, List.take_succ_cons, List.take_zero, List.drop_succ_cons, List.drop_zero]
        simp only [e2, hbe, stepOp, opV, St.eval, St.put, absV, if_true, if_false, List.length_cons, List.length_nil, List.getD_cons_zero, List.getD_cons_succ, fieldV, tOff, fieldAt, loadV, pickCells, List.drop_zero, List.drop_succ_cons, List.take_succ_cons, List.take_zero, List.getElem?_cons_zero, List.getElem?_cons_succ, List.head?_cons, Nat.zero_add, Nat.reduceAdd, Nat.reduceLT, Nat.reduceLeDiff, Nat.reduceEqDiff, Bool.false_eq_true, beq_self_eq_true, nilLen, gnCmp, tt4, tt75, runOpsW, wantedW, gT, gRead, wr_set, wr_getD, wr_get, lkF]
        refine hK1 _ ?_
        clear hK1 K1
        by_cases h3 : t.deprecated = u.deprecated
        · have e3 : (t.deprecated == u.deprecated) = true := by simpa using h3
          refine runOpsW_cut 7 fun K1 hK1 => ?_
          simp only [List.append_eq, List.cons_append, List.nil_append, List.take_succ_cons, List.take_zero, List.drop_succ_cons, List.drop_zero]
          simp only [e3, hbe, stepOp, opV, St.eval, St.put, absV, if_true, if_false, List.length_cons, List.length_nil, List.getD_cons_zero, List.getD_cons_succ, fieldV, tOff, fieldAt, loadV, pickCells, List.drop_zero, List.drop_succ_cons, List.take_succ_cons, List.take_zero, List.getElem?_cons_zero, List.getElem?_cons_succ, List.head?_cons, Nat.zero_add, Nat.reduceAdd, Nat.reduceLT, Nat.reduceLeDiff, Nat.reduceEqDiff, Bool.false_eq_true, beq_self_eq_true, nilLen, gnCmp, tt4, tt75, runOpsW, wantedW, gT, gRead, wr_set, wr_getD, wr_get, lkF]
          refine hK1 _ ?_
          clear hK1 K1
          by_cases h4 : t.note = u.note
          · rw [eqb_true h4] at e4
            refine runOpsW_cut 7 fun K1 hK1 => ?_
            simp only [List.append_eq, List.cons_append, List.nil_append, List.take_succ_cons, List.take_zero, List.drop_succ_cons, List.drop_zero]
            simp only [e4, stepOp, opV, St.eval, St.put, absV, if_true, if_false, List.length_cons, List.length_nil, List.getD_cons_zero, List.getD_cons_succ, fieldV, tOff, fieldAt, loadV, pickCells, List.drop_zero, List.drop_succ_cons, List.take_succ_cons, List.take_zero, List.getElem?_cons_zero, List.getElem?_cons_succ, List.head?_cons, Nat.zero_add, Nat.reduceAdd, Nat.reduceLT, Nat.reduceLeDiff, Nat.reduceEqDiff, Bool.false_eq_true, ev_seql, beq_self_eq_true, nilLen, gnCmp, tt9, tt75, runOpsW, wantedW, gT, gRead, wr_set, wr_getD, wr_get, lkF]
            refine hK1 _ ?_
            clear hK1 K1
            by_cases h5 : t.params = u.params
            · rw [eqb_true h5] at e5
              refine runOpsW_cut 7 fun K1 hK1 => ?_
              simp only [List.append_eq, List.cons_append, List.nil_append, List.take_succ_cons, List.take_zero, List.drop_succ_cons, List.drop_zero]
              simp only [stepOp, opV, St.eval, St.put, absV, if_true, if_false, List.length_cons, List.length_nil, List.nil_append, List.append_nil, List.getD_cons_zero, List.getD_cons_succ, List.map_nil, List.map_cons, fieldV, tOff, fieldAt, loadV, pickCells, List.drop_zero, List.drop_succ_cons, List.take_succ_cons, List.take_zero, List.getElem?_cons_zero, List.getElem?_cons_succ, List.head?_cons, Nat.zero_add, Nat.reduceAdd, Nat.reduceLT, Nat.reduceLeDiff, Nat.reduceEqDiff, Bool.false_eq_true, calleeOf, beq_self_eq_true, tt73, tt75, runOpsW, wantedW, gT, gRead, wr_set, wr_getD, wr_get, lkF]
              refine .inl ⟨_, _, by simp only [purL, pur1, purCell], e5, ?_⟩
              try simp only [St.put, if_true, if_false, List.append_nil, List.getD_cons_zero, List.getD_cons_succ, Nat.reduceLT, Nat.reduceEqDiff, memAfter_nil, List.flatMap_cons, List.flatMap_nil, ref1, refCell, wr_set, wr_getD, lkF]
              refine hK1 _ ?_
              clear hK1 K1
              by_cases h6 : t.lower = u.lower
              · rw [eqb_true h6] at e6
                refine runOpsW_cut 7 fun K1 hK1 => ?_
                simp only [List.append_eq, List.cons_append, List.nil_append, List.take_succ_cons, List.take_zero, List.drop_succ_cons, List.drop_zero]
                simp only [stepOp, opV, St.eval, St.put, absV, if_true, if_false, List.length_cons, List.length_nil, List.nil_append, List.append_nil, List.getD_cons_zero, List.getD_cons_succ, List.map_nil, List.map_cons, fieldV, tOff, fieldAt, loadV, pickCells, List.drop_zero, List.drop_succ_cons, List.take_succ_cons, List.take_zero, List.getElem?_cons_zero, List.getElem?_cons_succ, List.head?_cons, Nat.zero_add, Nat.reduceAdd, Nat.reduceLT, Nat.reduceLeDiff, Nat.reduceEqDiff, calleeOf, beq_self_eq_true, tt25, tt75, runOpsW, wantedW, gT, gRead, wr_set, wr_getD, wr_get, lkF]
                refine .inl ⟨_, _, by simp only [purL, pur1, purCells, purCell, nilS], e6, ?_⟩
                try simp only [St.put, if_true, if_false, List.append_nil, List.getD_cons_zero, List.getD_cons_succ, Nat.reduceLT, Nat.reduceEqDiff, memAfter_nil, List.flatMap_cons, List.flatMap_nil, ref1, refCell, wr_set, wr_getD, lkF]
                refine hK1 _ ?_
                clear hK1 K1
                by_cases h7 : t.upper = u.upper
                · rw [eqb_true h7] at e7
                  refine runOpsW_cut 7 fun K1 hK1 => ?_
                  simp only [List.append_eq, List.cons_append, List.nil_append, List.take_succ_cons, List.take_zero, List.drop_succ_cons, List.drop_zero]
                  simp only [stepOp, opV, St.eval, St.put, absV, if_true, if_false, List.length_cons, List.length_nil, List.nil_append, List.append_nil, List.getD_cons_zero, List.getD_cons_succ, List.map_nil, List.map_cons, fieldV, tOff, fieldAt, loadV, pickCells, List.drop_zero, List.drop_succ_cons, List.take_succ_cons, List.take_zero, List.getElem?_cons_zero, List.getElem?_cons_succ, List.head?_cons, Nat.zero_add, Nat.reduceAdd, Nat.reduceLT, Nat.reduceLeDiff, Nat.reduceEqDiff, calleeOf, beq_self_eq_true, tt25, tt75, runOpsW, wantedW, gT, gRead, wr_set, wr_getD, wr_get, lkF]
                  refine .inl ⟨_, _, by simp only [purL, pur1, purCells, purCell, nilS], e7, ?_⟩
                  try simp only [St.put, if_true, if_false, List.append_nil, List.getD_cons_zero, List.getD_cons_succ, Nat.reduceLT, Nat.reduceEqDiff, memAfter_nil, List.flatMap_cons, List.flatMap_nil, ref1, refCell, wr_set, wr_getD, lkF]
                  refine hK1 _ ?_
                  clear hK1 K1
                  by_cases h8 : t.type = u.type
                  · rw [eqb_true h8] at e8
                    refine runOpsW_cut 7 fun K1 hK1 => ?_
                    simp only [List.append_eq, List.cons_append, List.nil_append, List.take_succ_cons, List.take_zero, List.drop_succ_cons, List.drop_zero]
                    simp only [stepOp, opV, St.eval, St.put, absV, if_true, if_false, List.length_cons, List.length_nil, List.nil_append, List.append_nil, List.getD_cons_zero, List.getD_cons_succ, List.map_nil, List.map_cons, fieldV, tOff, fieldAt, loadV, pickCells, List.drop_zero, List.drop_succ_cons, List.take_succ_cons, List.take_zero, List.getElem?_cons_zero, List.getElem?_cons_succ, List.head?_cons, Nat.zero_add, Nat.reduceAdd, Nat.reduceLT, Nat.reduceLeDiff, Nat.reduceEqDiff, calleeOf, beq_self_eq_true, tt25, tt75, runOpsW, wantedW, gT, gRead, wr_set, wr_getD, wr_get, lkF]
                    refine .inl ⟨_, _, by simp only [purL, pur1, purCells, purCell, nilS], e8, ?_⟩
                    try simp only [St.put, if_true, if_false, List.append_nil, List.getD_cons_zero, List.getD_cons_succ, Nat.reduceLT, Nat.reduceEqDiff, memAfter_nil, List.flatMap_cons, List.flatMap_nil, ref1, refCell, wr_set, wr_getD, lkF]
                    refine hK1 _ ?_
                    clear hK1 K1
                    by_cases h9 : t.expr = u.expr
                    · rw [eqb_true h9] at e9
                      refine runOpsW_cut 7 fun K1 hK1 => ?_
                      simp only [List.append_eq, List.cons_append, List.nil_append, List.take_succ_cons, List.take_zero, List.drop_succ_cons, List.drop_zero]
                      simp only [stepOp, opV, St.eval, St.put, absV, if_true, if_false, List.length_cons, List.length_nil, List.nil_append, List.append_nil, List.getD_cons_zero, List.getD_cons_succ, List.map_nil, List.map_cons, fieldV, tOff, fieldAt, loadV, pickCells, List.drop_zero, List.drop_succ_cons, List.take_succ_cons, List.take_zero, List.getElem?_cons_zero, List.getElem?_cons_succ, List.head?_cons, Nat.zero_add, Nat.reduceAdd, Nat.reduceLT, Nat.reduceLeDiff, Nat.reduceEqDiff, calleeOf, beq_self_eq_true, tt29, tt75, runOpsW, wantedW, gT, gRead, wr_set, wr_getD, wr_get, lkF]
                      refine .inl ⟨_, _, by simp only [purL, pur1, purCells, purCell, nilS], e9, ?_⟩
                      try simp only [St.put, if_true, if_false, List.append_nil, List.getD_cons_zero, List.getD_cons_succ, Nat.reduceLT, Nat.reduceEqDiff, memAfter_nil, List.flatMap_cons, List.flatMap_nil, ref1, refCell, wr_set, wr_getD, lkF]
                      refine hK1 _ ?_
                      clear hK1 K1
                      by_cases h10 : t.mod = u.mod
                      · rw [eqb_true h10] at e10
                        refine runOpsW_cut 7 fun K1 hK1 => ?_
                        simp only [List.append_eq, List.cons_append, List.nil_append, List.take_succ_cons, List.take_zero, List.drop_succ_cons, List.drop_zero]
                        simp only [e10, stepOp, opV, St.eval, St.put, absV, if_true, if_false, List.length_cons, List.length_nil, List.getD_cons_zero, List.getD_cons_succ, fieldV, tOff, fieldAt, loadV, pickCells, List.drop_zero, List.drop_succ_cons, List.take_succ_cons, List.take_zero, List.getElem?_cons_zero, List.getElem?_cons_succ, List.head?_cons, Nat.zero_add, Nat.reduceAdd, Nat.reduceLT, Nat.reduceLeDiff, Nat.reduceEqDiff, Bool.false_eq_true, ev_seql, beq_self_eq_true, nilLen, gnCmp, tt9, tt75, runOpsW, wantedW, gT, gRead, wr_set, wr_getD, wr_get, lkF]
                        refine hK1 _ ?_
                        clear hK1 K1
                        by_cases h11 : t.target = u.target
                        · rw [eqb_true h11] at e11
                          try simp only [List.append_eq, List.cons_append, List.nil_append, List.drop_succ_cons, List.drop_zero]
                          simp only [e11, stepOp, opV, St.eval, St.put, absV, if_true, if_false, List.length_cons, List.length_nil, List.getD_cons_zero, List.getD_cons_succ, fieldV, tOff, fieldAt, loadV, pickCells, List.drop_zero, List.drop_succ_cons, List.take_succ_cons, List.take_zero, List.getElem?_cons_zero, List.getElem?_cons_succ, List.head?_cons, Nat.zero_add, Nat.reduceAdd, Nat.reduceLT, Nat.reduceEqDiff, Nat.le_refl, Bool.false_eq_true, ev_seql, beq_self_eq_true, nilLen, gnCmp, tt9, tt75, runOpsW, wantedW, gT, gRead, wr_set, wr_getD, wr_get, lkF]
                          refine hK _ _ (by kernel_rfl) ?_
                          clear hK K
                          simp only [mkW, lkF, Nat.reduceAdd, Nat.reduceEqDiff, if_true, if_false]
                          refine tri_ret ⟨.inl rfl, ?_⟩
                          rw [eqb_true (Dc.ext' h0 h1 h2 h3 h4 h5 h6 h7 h8 h9 h10 h11)]; rfl
                        · rw [eqb_false h11] at e11
                          try simp only [List.append_eq, List.cons_append, List.nil_append, List.drop_succ_cons, List.drop_zero]
                          simp only [e11, stepOp, opV, St.eval, St.put, absV, if_true, if_false, List.length_cons, List.length_nil, List.getD_cons_zero, List.getD_cons_succ, fieldV, tOff, fieldAt, loadV, pickCells, List.drop_zero, List.drop_succ_cons, List.take_succ_cons, List.take_zero, List.getElem?_cons_zero, List.getElem?_cons_succ, List.head?_cons, Nat.zero_add, Nat.reduceAdd, Nat.reduceLT, Nat.reduceEqDiff, Nat.le_refl, Bool.false_eq_true, ev_seql, beq_self_eq_true, nilLen, gnCmp, tt9, tt75, runOpsW, wantedW, gT, gRead, wr_set, wr_getD, wr_get, lkF]
                          refine hK _ _ (by kernel_rfl) ?_
                          clear hK K
                          simp only [mkW, lkF, Nat.reduceAdd, Nat.reduceEqDiff, if_true, if_false]
                          refine tri_ret ⟨.inl rfl, ?_⟩
                          rw [eqb_false fun e => h11 (by rw [e])]; rfl
                      · rw [eqb_false h10] at e10
                        try simp only [List.append_eq, List.cons_append, List.nil_append, List.drop_succ_cons, List.drop_zero]
                        simp only [e10, stepOp, opV, St.eval, St.put, absV, if_true, if_false, List.length_cons, List.length_nil, List.getD_cons_zero, List.getD_cons_succ, fieldV, tOff, fieldAt, loadV, pickCells, List.drop_zero, List.drop_succ_cons, List.take_succ_cons, List.take_zero, List.getElem?_cons_zero, List.getElem?_cons_succ, List.head?_cons, Nat.zero_add, Nat.reduceAdd, Nat.reduceLT, Nat.reduceLeDiff, Nat.reduceEqDiff, Bool.false_eq_true, ev_seql, beq_self_eq_true, nilLen, ev_ft, gnCmp, tt9, tt75, runOpsW, wantedW, gT, gRead, wr_set, wr_getD, wr_get, lkF]
                        refine hK _ _ (by kernel_rfl) ?_
                        clear hK K
                        simp only [mkW, lkF, Nat.reduceAdd, Nat.reduceEqDiff, if_true, if_false]
                        refine tri_ret ⟨.inl rfl, ?_⟩
                        rw [eqb_false fun e => h10 (by rw [e])]; rfl
                    · rw [eqb_false h9] at e9
                      refine runOpsW_cut 14 fun K1 hK1 => ?_
                      simp only [List.append_eq, List.cons_append, List.nil_append, List.take_succ_cons, List.take_zero, List.drop_succ_cons, List.drop_zero]
                      simp only [stepOp, opV, St.eval, St.put, absV, if_true, if_false, List.length_cons, List.length_nil, List.nil_append, List.append_nil, List.getD_cons_zero, List.getD_cons_succ, tElem, List.map_nil, List.map_cons, fieldV, tOff, fieldAt, loadV, pickCells, List.drop_zero, List.drop_succ_cons, List.take_succ_cons, List.take_zero, List.getElem?_cons_zero, List.getElem?_cons_succ, List.head?_cons, Nat.zero_add, Nat.reduceAdd, Nat.reduceLT, Nat.reduceLeDiff, Nat.reduceEqDiff, Bool.false_eq_true, V.cells, calleeOf, beq_self_eq_true, nilLen, sliceLen, nilAns, rowOf, ne_eq, gnCmp, tt9, tt29, tt75, runOpsW, wantedW, gT, gRead, wr_set, wr_getD, wr_get, lkF]
                      refine .inl ⟨_, _, by simp only [purL, pur1, purCells, purCell, nilS], e9, ?_⟩
                      try simp only [St.put, if_true, if_false, List.append_nil, List.getD_cons_zero, List.getD_cons_succ, Nat.reduceLT, Nat.reduceEqDiff, Bool.false_eq_true, memAfter_nil, List.flatMap_cons, List.flatMap_nil, ref1, refCell, ev_ft, wr_set, wr_getD, wr_get, lkF]
                      refine hK1 _ ?_
                      clear hK1 K1
                      try simp only [List.append_eq, List.cons_append, List.nil_append, List.drop_succ_cons, List.drop_zero]
                      simp only [stepOp, opV, St.eval, St.put, absV, if_true, if_false, List.length_cons, List.length_nil, List.getD_cons_zero, List.getD_cons_succ, Nat.zero_add, Nat.reduceAdd, Nat.reduceLT, Nat.reduceEqDiff, Bool.false_eq_true, ev_ft, runOpsW, wantedW, gT, gRead, wr_set, wr_getD, wr_get, lkF]
                      refine hK _ _ (by kernel_rfl) ?_
                      clear hK K
                      simp only [mkW, lkF, Nat.reduceAdd, Nat.reduceEqDiff, if_true, if_false]
                      refine tri_ret ⟨.inl rfl, ?_⟩
                      rw [eqb_false fun e => h9 (by rw [e])]; rfl
                  · rw [eqb_false h8] at e8
                    refine runOpsW_cut 14 fun K1 hK1 => ?_
                    simp only [List.append_eq, List.cons_append, List.nil_append, List.take_succ_cons, List.take_zero, List.drop_succ_cons, List.drop_zero]
                    simp only [stepOp, opV, St.eval, St.put, absV, if_true, if_false, List.length_cons, List.length_nil, List.nil_append, List.append_nil, List.getD_cons_zero, List.getD_cons_succ, List.map_nil, List.map_cons, fieldV, tOff, fieldAt, loadV, pickCells, List.drop_zero, List.drop_succ_cons, List.take_succ_cons, List.take_zero, List.getElem?_cons_zero, List.getElem?_cons_succ, List.head?_cons, Nat.zero_add, Nat.reduceAdd, Nat.reduceLT, Nat.reduceLeDiff, Nat.reduceEqDiff, V.cells, calleeOf, beq_self_eq_true, rowOf, tt25, tt29, tt75, runOpsW, wantedW, gT, gRead, wr_set, wr_getD, wr_get, lkF]
                    refine .inl ⟨_, _, by simp only [purL, pur1, purCells, purCell, nilS], e8, ?_⟩
                    try simp only [St.put, if_true, if_false, List.append_nil, List.getD_cons_zero, List.getD_cons_succ, Nat.reduceLT, Nat.reduceEqDiff, Bool.false_eq_true, memAfter_nil, List.flatMap_cons, List.flatMap_nil, ref1, refCell, ev_ft, wr_set, wr_getD, wr_get, lkF]
                    refine hK1 _ ?_
                    clear hK1 K1
                    try simp only [List.append_eq, List.cons_append, List.nil_append, List.drop_succ_cons, List.drop_zero]
                    simp only [stepOp, opV, St.eval, St.put, absV, if_true, if_false, List.length_cons, List.length_nil, List.getD_cons_zero, List.getD_cons_succ, Nat.zero_add, Nat.reduceAdd, Nat.reduceLT, Nat.reduceEqDiff, Bool.false_eq_true, ev_ft, runOpsW, wantedW, gT, gRead, wr_set, wr_getD, wr_get, lkF]
                    refine hK _ _ (by kernel_rfl) ?_
                    clear hK K
                    simp only [mkW, lkF, Nat.reduceAdd, Nat.reduceEqDiff, if_true, if_false]
                    refine tri_ret ⟨.inl rfl, ?_⟩
                    rw [eqb_false fun e => h8 (by rw [e])]; rfl
                · rw [eqb_false h7] at e7
                  refine runOpsW_cut 14 fun K1 hK1 => ?_
                  simp only [List.append_eq, List.cons_append, List.nil_append, List.take_succ_cons, List.take_zero, List.drop_succ_cons, List.drop_zero]
                  simp only [stepOp, opV, St.eval, St.put, absV, if_true, if_false, List.length_cons, List.length_nil, List.nil_append, List.append_nil, List.getD_cons_zero, List.getD_cons_succ, List.map_nil, List.map_cons, fieldV, tOff, fieldAt, loadV, pickCells, List.drop_zero, List.drop_succ_cons, List.take_succ_cons, List.take_zero, List.getElem?_cons_zero, List.getElem?_cons_succ, List.head?_cons, Nat.zero_add, Nat.reduceAdd, Nat.reduceLT, Nat.reduceLeDiff, Nat.reduceEqDiff, V.cells, calleeOf, beq_self_eq_true, rowOf, tt25, tt75, runOpsW, wantedW, gT, gRead, wr_set, wr_getD, wr_get, lkF]
                  refine .inl ⟨_, _, by simp only [purL, pur1, purCells, purCell, nilS], e7, ?_⟩
                  try simp only [St.put, if_true, if_false, List.append_nil, List.getD_cons_zero, List.getD_cons_succ, Nat.reduceLT, Nat.reduceEqDiff, Bool.false_eq_true, memAfter_nil, List.flatMap_cons, List.flatMap_nil, ref1, refCell, ev_ft, wr_set, wr_getD, wr_get, lkF]
                  refine hK1 _ ?_
                  clear hK1 K1
                  refine runOpsW_cut 14 fun K1 hK1 => ?_
                  simp only [List.append_eq, List.cons_append, List.nil_append, List.take_succ_cons, List.take_zero, List.drop_succ_cons, List.drop_zero]
                  simp only [stepOp, opV, St.eval, St.put, absV, if_true, if_false, List.length_cons, List.length_nil, List.getD_cons_zero, List.getD_cons_succ, Nat.zero_add, Nat.reduceAdd, Nat.reduceLT, Nat.reduceEqDiff, Bool.false_eq_true, ev_ft, runOpsW, wantedW, gT, gRead, wr_set, wr_getD, wr_get, lkF]
                  refine hK1 _ ?_
                  clear hK1 K1
                  try simp only [List.append_eq, List.cons_append, List.nil_append, List.drop_succ_cons, List.drop_zero]
                  simp only [stepOp, opV, St.eval, St.put, absV, if_true, if_false, List.length_cons, List.length_nil, List.getD_cons_zero, List.getD_cons_succ, Nat.zero_add, Nat.reduceAdd, Nat.reduceLT, Nat.reduceEqDiff, Bool.false_eq_true, ev_ft, runOpsW, wantedW, gT, gRead, wr_set, wr_getD, wr_get, lkF]
                  refine hK _ _ (by kernel_rfl) ?_
                  clear hK K
                  simp only [mkW, lkF, Nat.reduceAdd, Nat.reduceEqDiff, if_true, if_false]
                  refine tri_ret ⟨.inl rfl, ?_⟩
                  rw [eqb_false fun e => h7 (by rw [e])]; rfl
              · rw [eqb_false h6] at e6
                refine runOpsW_cut 14 fun K1 hK1 => ?_
                simp only [List.append_eq, List.cons_append, List.nil_append, List.take_succ_cons, List.take_zero, List.drop_succ_cons, List.drop_zero]
                simp only [stepOp, opV, St.eval, St.put, absV, if_true, if_false, List.length_cons, List.length_nil, List.nil_append, List.append_nil, List.getD_cons_zero, List.getD_cons_succ, List.map_nil, List.map_cons, fieldV, tOff, fieldAt, loadV, pickCells, List.drop_zero, List.drop_succ_cons, List.take_succ_cons, List.take_zero, List.getElem?_cons_zero, List.getElem?_cons_succ, List.head?_cons, Nat.zero_add, Nat.reduceAdd, Nat.reduceLT, Nat.reduceLeDiff, Nat.reduceEqDiff, V.cells, calleeOf, beq_self_eq_true, rowOf, tt25, tt75, runOpsW, wantedW, gT, gRead, wr_set, wr_getD, wr_get, lkF]
                refine .inl ⟨_, _, by simp only [purL, pur1, purCells, purCell, nilS], e6, ?_⟩
                try simp only [St.put, if_true, if_false, List.append_nil, List.getD_cons_zero, List.getD_cons_succ, Nat.reduceLT, Nat.reduceEqDiff, Bool.false_eq_true, memAfter_nil, List.flatMap_cons, List.flatMap_nil, ref1, refCell, ev_ft, wr_set, wr_getD, wr_get, lkF]
                refine hK1 _ ?_
                clear hK1 K1
                refine runOpsW_cut 14 fun K1 hK1 => ?_
                simp only [List.append_eq, List.cons_append, List.nil_append, List.take_succ_cons, List.take_zero, List.drop_succ_cons, List.drop_zero]
                simp only [stepOp, opV, St.eval, St.put, absV, if_true, if_false, List.length_cons, List.length_nil, List.getD_cons_zero, List.getD_cons_succ, Nat.zero_add, Nat.reduceAdd, Nat.reduceLT, Nat.reduceEqDiff, Bool.false_eq_true, ev_ft, runOpsW, wantedW, gT, gRead, wr_set, wr_getD, wr_get, lkF]
                refine hK1 _ ?_
                clear hK1 K1
                try simp only [List.append_eq, List.cons_append, List.nil_append, List.drop_succ_cons, List.drop_zero]
                simp only [stepOp, opV, St.eval, St.put, absV, if_true, if_false, List.length_cons, List.length_nil, List.getD_cons_zero, List.getD_cons_succ, Nat.zero_add, Nat.reduceAdd, Nat.reduceLT, Nat.reduceEqDiff, Bool.false_eq_true, ev_ft, runOpsW, wantedW, gT, gRead, wr_set, wr_getD, wr_get, lkF]
                refine hK _ _ (by kernel_rfl) ?_
                clear hK K
                simp only [mkW, lkF, Nat.reduceAdd, Nat.reduceEqDiff, if_true, if_false]
                refine tri_ret ⟨.inl rfl, ?_⟩
                rw [eqb_false fun e => h6 (by rw [e])]; rfl
            · rw [eqb_false h5] at e5
              refine runOpsW_cut 14 fun K1 hK1 => ?_
              simp only [List.append_eq, List.cons_append, List.nil_append, List.take_succ_cons, List.take_zero, List.drop_succ_cons, List.drop_zero]
              simp only [stepOp, opV, St.eval, St.put, absV, if_true, if_false, List.length_cons, List.length_nil, List.nil_append, List.append_nil, List.getD_cons_zero, List.getD_cons_succ, List.map_nil, List.map_cons, fieldV, tOff, fieldAt, loadV, pickCells, List.drop_zero, List.drop_succ_cons, List.take_succ_cons, List.take_zero, List.getElem?_cons_zero, List.getElem?_cons_succ, List.head?_cons, Nat.zero_add, Nat.reduceAdd, Nat.reduceLT, Nat.reduceLeDiff, Nat.reduceEqDiff, Bool.false_eq_true, V.cells, calleeOf, beq_self_eq_true, rowOf, tt25, tt73, tt75, runOpsW, wantedW, gT, gRead, wr_set, wr_getD, wr_get, lkF]
              refine .inl ⟨_, _, by simp only [purL, pur1, purCell], e5, ?_⟩
              try simp only [St.put, if_true, if_false, List.append_nil, List.getD_cons_zero, List.getD_cons_succ, Nat.reduceLT, Nat.reduceEqDiff, Bool.false_eq_true, memAfter_nil, List.flatMap_cons, List.flatMap_nil, ref1, refCell, ev_ft, wr_set, wr_getD, wr_get, lkF]
              refine hK1 _ ?_
              clear hK1 K1
              refine runOpsW_cut 14 fun K1 hK1 => ?_
              simp only [List.append_eq, List.cons_append, List.nil_append, List.take_succ_cons, List.take_zero, List.drop_succ_cons, List.drop_zero]
              simp only [stepOp, opV, St.eval, St.put, absV, if_true, if_false, List.length_cons, List.length_nil, List.getD_cons_zero, List.getD_cons_succ, Nat.zero_add, Nat.reduceAdd, Nat.reduceLT, Nat.reduceEqDiff, Bool.false_eq_true, ev_ft, runOpsW, wantedW, gT, gRead, wr_set, wr_getD, wr_get, lkF]
              refine hK1 _ ?_
              clear hK1 K1
              refine runOpsW_cut 14 fun K1 hK1 => ?_
              simp only [List.append_eq, List.cons_append, List.nil_append, List.take_succ_cons, List.take_zero, List.drop_succ_cons, List.drop_zero]
              simp only [stepOp, opV, St.eval, St.put, absV, if_true, if_false, List.length_cons, List.length_nil, List.getD_cons_zero, List.getD_cons_succ, Nat.zero_add, Nat.reduceAdd, Nat.reduceLT, Nat.reduceEqDiff, Bool.false_eq_true, ev_ft, runOpsW, wantedW, gT, gRead, wr_set, wr_getD, wr_get, lkF]
              refine hK1 _ ?_
              clear hK1 K1
              try simp only [List.append_eq, List.cons_append, List.nil_append, List.drop_succ_cons, List.drop_zero]
              simp only [stepOp, opV, St.eval, St.put, absV, if_true, if_false, List.length_cons, List.length_nil, List.getD_cons_zero, List.getD_cons_succ, Nat.zero_add, Nat.reduceAdd, Nat.reduceLT, Nat.reduceEqDiff, Bool.false_eq_true, ev_ft, runOpsW, wantedW, gT, gRead, wr_set, wr_getD, wr_get, lkF]
              refine hK _ _ (by kernel_rfl) ?_
              clear hK K
              simp only [mkW, lkF, Nat.reduceAdd, Nat.reduceEqDiff, if_true, if_false]
              refine tri_ret ⟨.inl rfl, ?_⟩
              rw [eqb_false fun e => h5 (by rw [e])]; rfl
          · rw [eqb_false h4] at e4
            refine runOpsW_cut 14 fun K1 hK1 => ?_
            simp only [List.append_eq, List.cons_append, List.nil_append, List.take_succ_cons, List.take_zero, List.drop_succ_cons, List.drop_zero]
            simp only [e4, stepOp, opV, St.eval, St.put, absV, if_true, if_false, List.length_cons, List.length_nil, List.getD_cons_zero, List.getD_cons_succ, fieldV, tOff, fieldAt, loadV, pickCells, List.drop_zero, List.drop_succ_cons, List.take_succ_cons, List.take_zero, List.getElem?_cons_zero, List.getElem?_cons_succ, List.head?_cons, Nat.zero_add, Nat.reduceAdd, Nat.reduceLT, Nat.reduceLeDiff, Nat.reduceEqDiff, Bool.false_eq_true, ev_seql, beq_self_eq_true, nilLen, ev_ft, gnCmp, tt9, tt75, runOpsW, wantedW, gT, gRead, wr_set, wr_getD, wr_get, lkF]
            refine hK1 _ ?_
            clear hK1 K1
            refine runOpsW_cut 14 fun K1 hK1 => ?_
            simp only [List.append_eq, List.cons_append, List.nil_append, List.take_succ_cons, List.take_zero, List.drop_succ_cons, List.drop_zero]
            simp only [stepOp, opV, St.eval, St.put, absV, if_true, if_false, List.length_cons, List.length_nil, List.getD_cons_zero, List.getD_cons_succ, Nat.zero_add, Nat.reduceAdd, Nat.reduceLT, Nat.reduceEqDiff, Bool.false_eq_true, ev_ft, runOpsW, wantedW, gT, gRead, wr_set, wr_getD, wr_get, lkF]
            refine hK1 _ ?_
            clear hK1 K1
            refine runOpsW_cut 14 fun K1 hK1 => ?_
            simp only [List.append_eq, List.cons_append, List.nil_append, List.take_succ_cons, List.take_zero, List.drop_succ_cons, List.drop_zero]
            simp only [stepOp, opV, St.eval, St.put, absV, if_true, if_false, List.length_cons, List.length_nil, List.getD_cons_zero, List.getD_cons_succ, Nat.zero_add, Nat.reduceAdd, Nat.reduceLT, Nat.reduceEqDiff, Bool.false_eq_true, ev_ft, runOpsW, wantedW, gT, gRead, wr_set, wr_getD, wr_get, lkF]
            refine hK1 _ ?_
            clear hK1 K1
            try simp only [List.append_eq, List.cons_append, List.nil_append, List.drop_succ_cons, List.drop_zero]
            simp only [stepOp, opV, St.eval, St.put, absV, if_true, if_false, List.length_cons, List.length_nil, List.getD_cons_zero, List.getD_cons_succ, Nat.zero_add, Nat.reduceAdd, Nat.reduceLT, Nat.reduceEqDiff, Bool.false_eq_true, ev_ft, runOpsW, wantedW, gT, gRead, wr_set, wr_getD, wr_get, lkF]
            refine hK _ _ (by kernel_rfl) ?_
            clear hK K
            simp only [mkW, lkF, Nat.reduceAdd, Nat.reduceEqDiff, if_true, if_false]
            refine tri_ret ⟨.inl rfl, ?_⟩
            rw [eqb_false fun e => h4 (by rw [e])]; rfl
        · have e3 : (t.deprecated == u.deprecated) = false := by simpa using h3
          refine runOpsW_cut 14 fun K1 hK1 => ?_
          simp only [List.append_eq, List.cons_append, List.nil_append, List.take_succ_cons, List.take_zero, List.drop_succ_cons, List.drop_zero]
          simp only [e3, hbe, stepOp, opV, St.eval, St.put, absV, if_true, if_false, List.length_cons, List.length_nil, List.getD_cons_zero, List.getD_cons_succ, fieldV, tOff, fieldAt, loadV, pickCells, List.drop_zero, List.drop_succ_cons, List.take_succ_cons, List.take_zero, List.getElem?_cons_zero, List.getElem?_cons_succ, List.head?_cons, Nat.zero_add, Nat.reduceAdd, Nat.reduceLT, Nat.reduceLeDiff, Nat.reduceEqDiff, Bool.false_eq_true, beq_self_eq_true, nilLen, ev_ft, gnCmp, tt4, tt75, runOpsW, wantedW, gT, gRead, wr_set, wr_getD, wr_get, lkF]
          refine hK1 _ ?_
          clear hK1 K1
          refine runOpsW_cut 14 fun K1 hK1 => ?_
          simp only [List.append_eq, List.cons_append, List.nil_append, List.take_succ_cons, List.take_zero, List.drop_succ_cons, List.drop_zero]
          simp only [stepOp, opV, St.eval, St.put, absV, if_true, if_false, List.length_cons, List.length_nil, List.getD_cons_zero, List.getD_cons_succ, Nat.zero_add, Nat.reduceAdd, Nat.reduceLT, Nat.reduceEqDiff, Bool.false_eq_true, ev_ft, runOpsW, wantedW, gT, gRead, wr_set, wr_getD, wr_get, lkF]
          refine hK1 _ ?_
          clear hK1 K1
          refine runOpsW_cut 14 fun K1 hK1 => ?_
          simp only [List.append_eq, List.cons_append, List.nil_append, List.take_succ_cons, List.take_zero, List.drop_succ_cons, List.drop_zero]
          simp only [stepOp, opV, St.eval, St.put, absV, if_true, if_false, List.length_cons, List.length_nil, List.getD_cons_zero, List.getD_cons_succ, Nat.zero_add, Nat.reduceAdd, Nat.reduceLT, Nat.reduceEqDiff, Bool.false_eq_true, ev_ft, runOpsW, wantedW, gT, gRead, wr_set, wr_getD, wr_get, lkF]
          refine hK1 _ ?_
          clear hK1 K1
          refine runOpsW_cut 14 fun K1 hK1 => ?_
          simp only [List.append_eq, List.cons_append, List.nil_append, List.take_succ_cons, List.take_zero, List.drop_succ_cons, List.drop_zero]
          simp only [stepOp, opV, St.eval, St.put, absV, if_true, if_false, List.length_cons, List.length_nil, List.getD_cons_zero, List.getD_cons_succ, Nat.zero_add, Nat.reduceAdd, Nat.reduceLT, Nat.reduceEqDiff, Bool.false_eq_true, ev_ft, runOpsW, wantedW, gT, gRead, wr_set, wr_getD, wr_get, lkF]
          refine hK1 _ ?_
          clear hK1 K1
          try simp only [List.append_eq, List.cons_append, List.nil_append, List.drop_succ_cons, List.drop_zero]
          simp only [stepOp, opV, St.eval, St.put, absV, if_true, if_false, List.length_cons, List.length_nil, List.getD_cons_zero, List.getD_cons_succ, Nat.zero_add, Nat.reduceAdd, Nat.reduceLT, Nat.reduceEqDiff, Bool.false_eq_true, ev_ft, runOpsW, wantedW, gT, gRead, wr_set, wr_getD, wr_get, lkF]
          refine hK _ _ (by kernel_rfl) ?_
          clear hK K
          simp only [mkW, lkF, Nat.reduceAdd, Nat.reduceEqDiff, if_true, if_false]
          refine tri_ret ⟨.inl rfl, ?_⟩
          rw [eqb_false fun e => h3 (by rw [e])]; rfl
      · have e2 : (t.exported == u.exported) = false := by simpa using h2
        refine runOpsW_cut 14 fun K1 hK1 => ?_
        simp only [List.append_eq, List.cons_append, List.nil_append, List.take_succ_cons, List.take_zero, List.drop_succ_cons, List.drop_zero]
        simp only [e2, hbe, stepOp, opV, St.eval, St.put, absV, if_true, if_false, List.length_cons, List.length_nil, List.getD_cons_zero, List.getD_cons_succ, fieldV, tOff, fieldAt, loadV, pickCells, List.drop_zero, List.drop_succ_cons, List.take_succ_cons, List.take_zero, List.getElem?_cons_zero, List.getElem?_cons_succ, List.head?_cons, Nat.zero_add, Nat.reduceAdd, Nat.reduceLT, Nat.reduceLeDiff, Nat.reduceEqDiff, Bool.false_eq_true, beq_self_eq_true, nilLen, ev_ft, gnCmp, tt4, tt75, runOpsW, wantedW, gT, gRead, wr_set, wr_getD, wr_get, lkF]
        refine hK1 _ ?_
        clear hK1 K1
        refine runOpsW_cut 14 fun K1 hK1 => ?_
        simp only [List.append_eq, List.cons_append, List.nil_append, List.take_succ_cons, List.take_zero, List.drop_succ_cons, List.drop_zero]
        simp only [stepOp, opV, St.eval, St.put, absV, if_true, if_false, List.length_cons, List.length_nil, List.getD_cons_zero, List.getD_cons_succ, Nat.zero_add, Nat.reduceAdd, Nat.reduceLT, Nat.reduceEqDiff, Bool.false_eq_true, ev_ft, runOpsW, wantedW, gT, gRead, wr_set, wr_getD, wr_get, lkF]
        refine hK1 _ ?_
        clear hK1 K1
        refine runOpsW_cut 14 fun K1 hK1 => ?_
        simp only [List.append_eq, List.cons_append, List.nil_append, List.take_succ_cons, List.take_zero, List.drop_succ_cons, List.drop_zero]
        simp only [stepOp, opV, St.eval, St.put, absV, if_true, if_false, List.length_cons, List.length_nil, List.getD_cons_zero, List.getD_cons_succ, Nat.zero_add, Nat.reduceAdd, Nat.reduceLT, Nat.reduceEqDiff, Bool.false_eq_true, ev_ft, runOpsW, wantedW, gT, gRead, wr_set, wr_getD, wr_get, lkF]
        refine hK1 _ ?_
        clear hK1 K1
        refine runOpsW_cut 14 fun K1 hK1 => ?_
        simp only [List.append_eq, List.cons_append, List.nil_append, List.take_succ_cons, List.take_zero, List.drop_succ_cons, List.drop_zero]
        simp only [stepOp, opV, St.eval, St.put, absV, if_true, if_false, List.length_cons, List.length_nil, List.getD_cons_zero, List.getD_cons_succ, Nat.zero_add, Nat.reduceAdd, Nat.reduceLT, Nat.reduceEqDiff, Bool.false_eq_true, ev_ft, runOpsW, wantedW, gT, gRead, wr_set, wr_getD, wr_get, lkF]
        refine hK1 _ ?_
        clear hK1 K1
        try simp only [List.append_eq, List.cons_append, List.nil_append, List.drop_succ_cons, List.drop_zero]
        simp only [stepOp, opV, St.eval, St.put, absV, if_true, if_false, List.length_cons, List.length_nil, List.getD_cons_zero, List.getD_cons_succ, Nat.zero_add, Nat.reduceAdd, Nat.reduceLT, Nat.reduceEqDiff, Bool.false_eq_true, ev_ft, runOpsW, wantedW, gT, gRead, wr_set, wr_getD, wr_get, lkF]
        refine hK _ _ (by kernel_rfl) ?_
        clear hK K
        simp only [mkW, lkF, Nat.reduceAdd, Nat.reduceEqDiff, if_true, if_false]
        refine tri_ret ⟨.inl rfl, ?_⟩
        rw [eqb_false fun e => h2 (by rw [e])]; rfl
    · rw [eqb_false h1] at e1
      refine runOpsW_cut 14 fun K1 hK1 => ?_
      simp only [List.append_eq, List.cons_append, List.nil_append, List.take_succ_cons, List.take_zero, List.drop_succ_cons, List.drop_zero]
      simp only [e1, stepOp, opV, St.eval, St.put, absV, if_true, if_false, List.length_cons, List.length_nil, List.getD_cons_zero, List.getD_cons_succ, fieldV, tOff, fieldAt, loadV, pickCells, List.drop_zero, List.drop_succ_cons, List.take_succ_cons, List.take_zero, List.getElem?_cons_zero, List.getElem?_cons_succ, List.head?_cons, Nat.zero_add, Nat.reduceAdd, Nat.reduceLT, Nat.reduceLeDiff, Nat.reduceEqDiff, Bool.false_eq_true, ev_seql, beq_self_eq_true, nilLen, ev_ft, gnCmp, tt9, tt75, runOpsW, wantedW, gT, gRead, wr_set, wr_getD, wr_get, lkF]
      refine hK1 _ ?_
      clear hK1 K1
      refine runOpsW_cut 14 fun K1 hK1 => ?_
      simp only [List.append_eq, List.cons_append, List.nil_append, List.take_succ_cons, List.take_zero, List.drop_succ_cons, List.drop_zero]
      simp only [stepOp, opV, St.eval, St.put, absV, if_true, if_false, List.length_cons, List.length_nil, List.getD_cons_zero, List.getD_cons_succ, Nat.zero_add, Nat.reduceAdd, Nat.reduceLT, Nat.reduceEqDiff, Bool.false_eq_true, ev_ft, runOpsW, wantedW, gT, gRead, wr_set, wr_getD, wr_get, lkF]
      refine hK1 _ ?_
      clear hK1 K1
      refine runOpsW_cut 14 fun K1 hK1 => ?_
      simp only [List.append_eq, List.cons_append, List.nil_append, List.take_succ_cons, List.take_zero, List.drop_succ_cons, List.drop_zero]
      simp only [stepOp, opV, St.eval, St.put, absV, if_true, if_false, List.length_cons, List.length_nil, List.getD_cons_zero, List.getD_cons_succ, Nat.zero_add, Nat.reduceAdd, Nat.reduceLT, Nat.reduceEqDiff, Bool.false_eq_true, ev_ft, runOpsW, wantedW, gT, gRead, wr_set, wr_getD, wr_get, lkF]
      refine hK1 _ ?_
      clear hK1 K1
      refine runOpsW_cut 14 fun K1 hK1 => ?_
      simp only [List.append_eq, List.cons_append, List.nil_append, List.take_succ_cons, List.take_zero, List.drop_succ_cons, List.drop_zero]
      simp only [stepOp, opV, St.eval, St.put, absV, if_true, if_false, List.length_cons, List.length_nil, List.getD_cons_zero, List.getD_cons_succ, Nat.zero_add, Nat.reduceAdd, Nat.reduceLT, Nat.reduceEqDiff, Bool.false_eq_true, ev_ft, runOpsW, wantedW, gT, gRead, wr_set, wr_getD, wr_get, lkF]
      refine hK1 _ ?_
      clear hK1 K1
      refine runOpsW_cut 14 fun K1 hK1 => ?_
      simp only [List.append_eq, List.cons_append, List.nil_append, List.take_succ_cons, List.take_zero, List.drop_succ_cons, List.drop_zero]
      simp only [stepOp, opV, St.eval, St.put, absV, if_true, if_false, List.length_cons, List.length_nil, List.getD_cons_zero, List.getD_cons_succ, Nat.zero_add, Nat.reduceAdd, Nat.reduceLT, Nat.reduceEqDiff, Bool.false_eq_true, ev_ft, runOpsW, wantedW, gT, gRead, wr_set, wr_getD, wr_get, lkF]
      refine hK1 _ ?_
      clear hK1 K1
      try simp only [List.append_eq, List.cons_append, List.nil_append, List.drop_succ_cons, List.drop_zero]
      simp only [stepOp, opV, St.eval, St.put, absV, if_true, if_false, List.length_cons, List.length_nil, List.getD_cons_zero, List.getD_cons_succ, Nat.zero_add, Nat.reduceAdd, Nat.reduceLT, Nat.reduceEqDiff, Bool.false_eq_true, ev_ft, runOpsW, wantedW, gT, gRead, wr_set, wr_getD, wr_get, lkF]
      refine hK _ _ (by kernel_rfl) ?_
      clear hK K
      simp only [mkW, lkF, Nat.reduceAdd, Nat.reduceEqDiff, if_true, if_false]
      refine tri_ret ⟨.inl rfl, ?_⟩
      rw [eqb_false fun e => h1 (by rw [e])]; rfl
  · have e0 : decide (t.kind = u.kind) = false := decide_eq_false h0
    refine runOpsW_cut 14 fun K1 hK1 => ?_
    simp only [List.append_eq, List.cons_append, List.nil_append, List.take_succ_cons, List.take_zero]
    simp only [e0, stepOp, opV, St.eval, St.put, absV, if_true, if_false, List.length_cons, List.length_nil, List.getD_cons_zero, List.getD_cons_succ, fieldV, tOff, fieldAt, loadV, pickCells, List.drop_zero, List.take_succ_cons, List.take_zero, List.getElem?_cons_zero, List.getElem?_cons_succ, List.head?_cons, Nat.zero_add, Nat.add_zero, Nat.reduceAdd, Nat.reduceLT, Nat.reduceLeDiff, Nat.reduceEqDiff, Bool.false_eq_true, ev_eql, nilLen, ev_ft, gnCmp, tt3, tt75, runOpsW, wantedW, gT, gRead, wr_set, wr_getD, wr_get, lkF]
    refine hK1 _ ?_
    clear hK1 K1
    refine runOpsW_cut 14 fun K1 hK1 => ?_
    simp only [List.append_eq, List.cons_append, List.nil_append, List.take_succ_cons, List.take_zero, List.drop_succ_cons, List.drop_zero]
    simp only [stepOp, opV, St.eval, St.put, absV, if_true, if_false, List.length_cons, List.length_nil, List.getD_cons_zero, List.getD_cons_succ, Nat.zero_add, Nat.reduceAdd, Nat.reduceLT, Nat.reduceEqDiff, Bool.false_eq_true, ev_ft, runOpsW, wantedW, gT, gRead, wr_set, wr_getD, wr_get, lkF]
    refine hK1 _ ?_
    clear hK1 K1
    refine runOpsW_cut 14 fun K1 hK1 => ?_
    simp only [List.append_eq, List.cons_append, List.nil_append, List.take_succ_cons, List.take_zero, List.drop_succ_cons, List.drop_zero]
    simp only [stepOp, opV, St.eval, St.put, absV, if_true, if_false, List.length_cons, List.length_nil, List.getD_cons_zero, List.getD_cons_succ, Nat.zero_add, Nat.reduceAdd, Nat.reduceLT, Nat.reduceEqDiff, Bool.false_eq_true, ev_ft, runOpsW, wantedW, gT, gRead, wr_set, wr_getD, wr_get, lkF]
    refine hK1 _ ?_
    clear hK1 K1
    refine runOpsW_cut 14 fun K1 hK1 => ?_
    simp only [List.append_eq, List.cons_append, List.nil_append, List.take_succ_cons, List.take_zero, List.drop_succ_cons, List.drop_zero]
    simp only [stepOp, opV, St.eval, St.put, absV, if_true, if_false, List.length_cons, List.length_nil, List.getD_cons_zero, List.getD_cons_succ, Nat.zero_add, Nat.reduceAdd, Nat.reduceLT, Nat.reduceEqDiff, Bool.false_eq_true, ev_ft, runOpsW, wantedW, gT, gRead, wr_set, wr_getD, wr_get, lkF]
    refine hK1 _ ?_
    clear hK1 K1
    refine runOpsW_cut 14 fun K1 hK1 => ?_
    simp only [List.append_eq, List.cons_append, List.nil_append, List.take_succ_cons, List.take_zero, List.drop_succ_cons, List.drop_zero]
    simp only [stepOp, opV, St.eval, St.put, absV, if_true, if_false, List.length_cons, List.length_nil, List.getD_cons_zero, List.getD_cons_succ, Nat.zero_add, Nat.reduceAdd, Nat.reduceLT, Nat.reduceEqDiff, Bool.false_eq_true, ev_ft, runOpsW, wantedW, gT, gRead, wr_set, wr_getD, wr_get, lkF]
    refine hK1 _ ?_
    clear hK1 K1
    try simp only [List.append_eq, List.cons_append, List.nil_append, List.drop_succ_cons, List.drop_zero]
    simp only [stepOp, opV, St.eval, St.put, absV, if_true, if_false, List.length_cons, List.length_nil, List.getD_cons_zero, List.getD_cons_succ, Nat.zero_add, Nat.reduceAdd, Nat.reduceLT, Nat.reduceEqDiff, Bool.false_eq_true, ev_ft, runOpsW, wantedW, gT, gRead, wr_set, wr_getD, wr_get, lkF]
    refine hK _ _ (by kernel_rfl) ?_
    clear hK K
    simp only [mkW, lkF, Nat.reduceAdd, Nat.reduceEqDiff, if_true, if_false]
    refine tri_ret ⟨.inl rfl, ?_⟩
    rw [eqb_false fun e => h0 (by rw [e])]; rfl

end Go.Proofs.YtpjdfcigadnhcaaGreatDoor
end
