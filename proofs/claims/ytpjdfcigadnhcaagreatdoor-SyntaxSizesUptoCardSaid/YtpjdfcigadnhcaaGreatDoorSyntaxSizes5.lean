/-
  CLOSED CALLS: the example of the chapter: what its names come to, whatever MaxLen is.
  CLOSED CALLS: names, by computing.
  CLOSED CALLS: names, by computing.
  CLOSED CALLS: names, by computing.
  CLOSED CALLS: names, by computing.
  CLOSED CALLS: names, by computing.
  CLOSED CALLS: names, by computing.
  CLOSED CALLS: names, by computing.
  CLOSED CALLS: names, by computing.
  CLOSED CALLS: names, by computing.
  CLOSED CALLS: the example of the chapter, by computing.
  THE LAW SyntaxSizes, A: what it does at every argument of the bound, in every world of the shape.
  THE LAW SyntaxSizes, B: a world for the witness.
-/
import Derived.Test.YtpjdfcigadnhcaaGreatDoorSyntaxSizes4
import Derived.WalkKit
import Derived.ProofKit
import Derived.OpenShut
import Derived.WideKeyArgs
import Derived.Deep.DeepHandedRow
import Derived.Test.YtpjdfcigadnhcaaGreatDoorCards
import Derived.Test.YtpjdfcigadnhcaaGreatDoorTie
import Derived.Lib.LaidTab
set_option linter.all false
section
namespace Go.Proofs.YtpjdfcigadnhcaaGreatDoor
open Go.Eng
/-- MaxLen at least 4, 3, less than 3. -/
@[reducible] def gGe (n : Int) (h : 4 ≤ n) : Glob := { n := n, κ := fun j => if j ≤ 4 then some true else none, ok := fun j b hb => by split at hb <;> simp at hb; subst hb; simp; omega, g := some 0, tabs := fun _ => none }
@[reducible] def gEq : Glob := { n := 3, κ := fun j => some (decide (j ≤ 3)), ok := fun j b hb => by simpa using hb, g := some 0, tabs := fun _ => none }
@[reducible] def gLt (n : Int) (h : n < 3) : Glob := { n := n, κ := fun j => if 3 ≤ j then some false else none, ok := fun j b hb => by split at hb <;> simp at hb; subst hb; simp; omega, g := some 0, tabs := fun _ => none }
def noOrc : FuncId → List V → Option V := fun _ _ => none
theorem noOrc_ok [Glob] : OrcOk Tryz.prog noOrc := fun f vs r h => by cases h
abbrev sA : V := .sc (.string ⟨#[97]⟩)
abbrev sB : V := .sc (.string ⟨#[98]⟩)
abbrev sV1 : V := .sc (.string ⟨#[118, 49]⟩)
abbrev tru : V := .sc (.bool true)
abbrev sP : V := .sc (.string ⟨#[97, 47, 118, 49]⟩)
/-- The text between whose blanks the keywords stand. -/
def kw : ByteArray := ⟨#[32, 97, 110, 100, 32, 97, 110, 121, 32, 97, 115, 32, 98, 111, 111, 108, 32, 100, 101, 112, 114, 101, 99, 97, 116, 101, 100, 32, 101, 108, 115, 101, 32, 101, 120, 112, 111, 114, 116, 32, 102, 97, 108, 115, 101, 32, 102, 110, 32, 102, 111, 108, 100, 32, 102, 114, 111, 109, 32, 105, 102, 32, 105, 109, 112, 111, 114, 116, 32, 105, 110, 32, 105, 110, 116, 32, 108, 101, 110, 103, 116, 104, 32, 108, 101, 116, 32, 108, 105, 115, 116, 32, 109, 97, 116, 99, 104, 32, 109, 111, 100, 117, 108, 101, 32, 110, 111, 110, 101, 32, 110, 111, 116, 32, 111, 114, 32, 116, 101, 120, 116, 32, 116, 104, 101, 110, 32, 116, 114, 117, 101, 32, 116, 121, 112, 101, 32, 117, 115, 101, 32]⟩
abbrev tA : ByteArray := ⟨#[32, 97, 32]⟩
abbrev tB : ByteArray := ⟨#[32, 98, 32]⟩
abbrev tV : ByteArray := ⟨#[32, 118, 49, 32]⟩
def isStr (v : V) (l : ByteArray) : Bool := match v with | .sc (.string s) => s.data.toList == l.data.toList | _ => false
theorem isStr_eq {v : V} {l : ByteArray} (h : isStr v l = true) : v = .sc (.string l) := by
  unfold isStr at h
  split at h
  · rename_i s
    have h1 : s.data.toList = l.data.toList := by simpa using h
    have h2 : s = l := ByteArray.ext (Array.toList_inj.1 h1)
    rw [h2]
  · cases h
def orcRK : FuncId → List V → Option V := fun f vs =>
  if f = 206 then (match vs with
    | [.sc (.string s), b] => if decide (s.size ≤ 1152921504606846975) then
        (if isStr b tA && decide (3 ≤ s.size) then some (num (rkRun s tA 558884339 1055306571))
        else if isStr b tB && decide (3 ≤ s.size) then some (num (rkRun s tB 575661958 1055306571))
        else if isStr b tV && decide (4 ≤ s.size) then some (num (rkRun s tV 2465932041 1345077009)) else none) else none
    | _ => none) else none
section
variable [Glob] (hG : Glob.g = some 0)
include hG
theorem h214A : FnOk Tryz.prog 214 [str tA] (.tup [u32 558884339, u32 1055306571]) := ev_call noOrc_ok (natS_ok hG) 2000 (by kernel_rfl)
theorem h214B : FnOk Tryz.prog 214 [str tB] (.tup [u32 575661958, u32 1055306571]) := ev_call noOrc_ok (natS_ok hG) 2000 (by kernel_rfl)
theorem h214V : FnOk Tryz.prog 214 [str tV] (.tup [u32 2465932041, u32 1345077009]) := ev_call noOrc_ok (natS_ok hG) 2000 (by kernel_rfl)
theorem orcRK_ok : OrcOk Tryz.prog orcRK := fun f vs r h => by
  unfold orcRK at h
  split at h
  · rename_i hf
    subst hf
    split at h
    · rename_i s b
      split at h
      · rename_i hs
        have hs := of_decide_eq_true hs
        split at h
        · rename_i hc
          simp only [Bool.and_eq_true, decide_eq_true_eq] at hc
          cases h
          rw [isStr_eq hc.1]
          exact rk_ok s tA _ _ (h214A hG) hc.2 hs
        · split at h
          · rename_i hc
            simp only [Bool.and_eq_true, decide_eq_true_eq] at hc
            cases h
            rw [isStr_eq hc.1]
            exact rk_ok s tB _ _ (h214B hG) hc.2 hs
          · split at h
            · rename_i hc
              simp only [Bool.and_eq_true, decide_eq_true_eq] at hc
              cases h
              rw [isStr_eq hc.1]
              exact rk_ok s tV _ _ (h214V hG) hc.2 hs
            · cases h
      · cases h
    · cases h
  · cases h
end
end Go.Proofs.YtpjdfcigadnhcaaGreatDoor
end

section
namespace Go.Proofs.YtpjdfcigadnhcaaGreatDoor
open Go.Eng
theorem a_ge (n : Int) (h : 4 ≤ n) : @FnOk (gGe n h) Tryz.prog 99 [sA] tru := @ev_call (gGe n h) _ _ (@orcRK_ok (gGe n h) rfl) (@natS_ok (gGe n h) rfl) 3000 _ _ _ (by kernel_rfl)
end Go.Proofs.YtpjdfcigadnhcaaGreatDoor
end

section
namespace Go.Proofs.YtpjdfcigadnhcaaGreatDoor
open Go.Eng
theorem b_ge (n : Int) (h : 4 ≤ n) : @FnOk (gGe n h) Tryz.prog 99 [sB] tru := @ev_call (gGe n h) _ _ (@orcRK_ok (gGe n h) rfl) (@natS_ok (gGe n h) rfl) 3000 _ _ _ (by kernel_rfl)
end Go.Proofs.YtpjdfcigadnhcaaGreatDoor
end

section
namespace Go.Proofs.YtpjdfcigadnhcaaGreatDoor
open Go.Eng
theorem v_ge (n : Int) (h : 4 ≤ n) : @FnOk (gGe n h) Tryz.prog 99 [sV1] tru := @ev_call (gGe n h) _ _ (@orcRK_ok (gGe n h) rfl) (@natS_ok (gGe n h) rfl) 3000 _ _ _ (by kernel_rfl)
end Go.Proofs.YtpjdfcigadnhcaaGreatDoor
end

section
namespace Go.Proofs.YtpjdfcigadnhcaaGreatDoor
open Go.Eng
theorem a_eq : @FnOk gEq Tryz.prog 99 [sA] tru := @ev_call gEq _ _ (@orcRK_ok gEq rfl) (@natS_ok gEq rfl) 3000 _ _ _ (by kernel_rfl)
end Go.Proofs.YtpjdfcigadnhcaaGreatDoor
end

section
namespace Go.Proofs.YtpjdfcigadnhcaaGreatDoor
open Go.Eng
theorem b_eq : @FnOk gEq Tryz.prog 99 [sB] tru := @ev_call gEq _ _ (@orcRK_ok gEq rfl) (@natS_ok gEq rfl) 3000 _ _ _ (by kernel_rfl)
end Go.Proofs.YtpjdfcigadnhcaaGreatDoor
end

section
namespace Go.Proofs.YtpjdfcigadnhcaaGreatDoor
open Go.Eng
theorem v_eq : @FnOk gEq Tryz.prog 99 [sV1] tru := @ev_call gEq _ _ (@orcRK_ok gEq rfl) (@natS_ok gEq rfl) 3000 _ _ _ (by kernel_rfl)
end Go.Proofs.YtpjdfcigadnhcaaGreatDoor
end

section
namespace Go.Proofs.YtpjdfcigadnhcaaGreatDoor
open Go.Eng
theorem a_lt (n : Int) (h : n < 3) : @FnOk (gLt n h) Tryz.prog 99 [sA] tru := @ev_call (gLt n h) _ _ (@orcRK_ok (gLt n h) rfl) (@natS_ok (gLt n h) rfl) 3000 _ _ _ (by kernel_rfl)
end Go.Proofs.YtpjdfcigadnhcaaGreatDoor
end

section
namespace Go.Proofs.YtpjdfcigadnhcaaGreatDoor
open Go.Eng
theorem b_lt (n : Int) (h : n < 3) : @FnOk (gLt n h) Tryz.prog 99 [sB] tru := @ev_call (gLt n h) _ _ (@orcRK_ok (gLt n h) rfl) (@natS_ok (gLt n h) rfl) 3000 _ _ _ (by kernel_rfl)
end Go.Proofs.YtpjdfcigadnhcaaGreatDoor
end

section
namespace Go.Proofs.YtpjdfcigadnhcaaGreatDoor
open Go.Eng
theorem v_lt (n : Int) (h : n < 3) : @FnOk (gLt n h) Tryz.prog 99 [sV1] tru := @ev_call (gLt n h) _ _ (@orcRK_ok (gLt n h) rfl) (@natS_ok (gLt n h) rfl) 3000 _ _ _ (by kernel_rfl)
end Go.Proofs.YtpjdfcigadnhcaaGreatDoor
end

section
namespace Go.Proofs.YtpjdfcigadnhcaaGreatDoor
open Go.Eng
def orcN : FuncId → List V → Option V := fun f vs =>
  if f = 99 then (match vs with
    | [a] => if isStr a ⟨#[97]⟩ || isStr a ⟨#[98]⟩ || isStr a ⟨#[118, 49]⟩ then some tru else none
    | _ => none) else none
theorem orcN_ok [Glob] (ha : FnOk Tryz.prog 99 [sA] tru) (hb : FnOk Tryz.prog 99 [sB] tru) (hv : FnOk Tryz.prog 99 [sV1] tru) : OrcOk Tryz.prog orcN := fun f vs r h => by
  unfold orcN at h
  split at h
  · rename_i hf
    subst hf
    split at h
    · split at h
      · rename_i hc
        cases h
        simp only [Bool.or_eq_true] at hc
        rcases hc with (h2 | h2) | h2
        · rw [isStr_eq h2]; exact ha
        · rw [isStr_eq h2]; exact hb
        · rw [isStr_eq h2]; exact hv
      · cases h
    · cases h
  · cases h
theorem awake_ge (n : Int) (h : 4 ≤ n) : @FnOk (gGe n h) Tryz.prog 10 [] tru := @ev_call (gGe n h) _ _ (@orcN_ok (gGe n h) (a_ge n h) (b_ge n h) (v_ge n h)) (@natS_ok (gGe n h) rfl) 3000 _ _ _ (by kernel_rfl)
theorem awake_eq : @FnOk gEq Tryz.prog 10 [] tru := @ev_call gEq _ _ (@orcN_ok gEq (a_eq ) (b_eq ) (v_eq )) (@natS_ok gEq rfl) 3000 _ _ _ (by kernel_rfl)
theorem awake_lt (n : Int) (h : n < 3) : @FnOk (gLt n h) Tryz.prog 10 [] tru := @ev_call (gLt n h) _ _ (@orcN_ok (gLt n h) (a_lt n h) (b_lt n h) (v_lt n h)) (@natS_ok (gLt n h) rfl) 3000 _ _ _ (by kernel_rfl)
end Go.Proofs.YtpjdfcigadnhcaaGreatDoor
end

section
namespace Go.Proofs.YtpjdfcigadnhcaaGreatDoor
open Go.Eng
set_option maxRecDepth 100000
open Go.ChangeShapes Go.WideShapes Go.ChangeAt Go.RowKit
theorem cell_int {W : World} {v : Value} (hok : Cell.ok Tryz.prog W .any 0 3 v) : ∃ n : Int, v = .int .i64 n := by
  unfold Cell.ok at hok
  rw [Tryz.underlying3] at hok
  cases v with
  | int k n => exact ⟨n, by rw [show k = .i64 from hok.1]⟩
  | _ => exact hok.elim
theorem maxLen_at {W : World} (hS : W.ShapedOpen Tryz.prog) : ∃ n : Int, W.cell? ⟨0, 0, none⟩ = some (.int .i64 n) := by
  have h0 : (((begin Tryz.prog (fun _ _ => 0) default).world.heap[0]?).bind Obj.row?) = some (#[.int .i64 0], 3) := by kernel_rfl
  obtain ⟨cs, hc, hz, hr⟩ := hS.1 0 _ _ (of_decide_eq_true (by kernel_rfl)) h0
  obtain ⟨ts, h1, -, h3⟩ := hr (by kernel_rfl)
  obtain rfl : [3] = ts := Option.some.inj ((show Tryz.prog.cellTypes Tryz.prog.depth 3 = some [3] by kernel_rfl).symm.trans h1)
  have hz' : cs.size = 1 := hz
  obtain ⟨v, hv⟩ : ∃ v, cs[0]? = some v := ⟨cs[0], Array.getElem?_eq_getElem (by omega)⟩
  obtain ⟨u, hu, hok⟩ := h3 0 v hv
  obtain rfl : 3 = u := by simpa using hu
  obtain ⟨n, rfl⟩ := cell_int hok
  exact ⟨n, by simp [World.cell?, hc, hv]⟩
theorem rep_one {F : Addr → Option Value} [Glob] {hg : Gl F} {cs : List V} {v : Value} (hne : cs.length ≠ 1) (h : Rd F hg cs v.cells.toList) : Rep ⟨F, fun _ _ => none, hg⟩ (.agg cs) v := by
  cases v with
  | agg xs => exact .agg _ _ _ (by simpa [Value.cells] using h.1.1) fun i c x hc hx => h.1.2 i c x hc (by simpa [Value.cells] using hx)
  | _ => exact absurd h.1.1 (by simpa [Value.cells] using hne)
/-- What a call that wrote nothing of what was there leaves behind: the row's 'behind the call', frozen cells asked for at the places read alone. -/
theorem post_kept {H : Type} {enc : TypeId × Value → H} {P : Program} {f : Func} {s : ChangeSpec} {apart fresh handsOn again : Bool} {W W' : World} {args : Array Value} {v : Value} {ds gs : List (DataW H)} {before pa pv : List MemPlace}
    (hW : DataW.Whole enc P f.params.toList s.vars apart W args.toList ds gs before)
    (hres : ∀ (b : Nat) (sp : Nat → Bool) (hd : Bool), DataW.TrodAll enc P W' b sp hd f.resultTypes.toList (v.resultList f.resultTypes.size) (s.fn H (ds ++ gs)).results [])
    (hargs : ∀ sp : Nat → Bool, (∀ p ∈ before, sp p.block = true) → DataW.TrodAll enc P W' 0 sp true f.params.toList args.toList (s.fn H (ds ++ gs)).args pa)
    (hvars : ∀ sp : Nat → Bool, (∀ p ∈ before, sp p.block = true) → DataW.TrodVars enc P W' sp s.vars (s.fn H (ds ++ gs)).vars pv)
    (hps : before = pa ++ pv) (hb : Below W.heap.size W W')
    (hok : ∀ (j : Nat) (t : TypeId) (r : Value), f.resultTypes[j]? = some t → (v.resultList f.resultTypes.size)[j]? = some r → Value.okWide P W' .any 0 t r) :
    s.post enc P f apart fresh handsOn again W args v W' := by
  have hlt := hW.lt
  refine ⟨ds, gs, before, [], pa, pv, hW, hres _ _ _, hargs _ (fun p hp => by simpa using hlt p hp), hvars _ (fun p hp => by simpa using hlt p hp), hb.frame _, fun _ => ?_⟩
  obtain ⟨_, _, _, _, _, hz, hn⟩ := hW
  refine ⟨hok, _, _, ([] ++ pa) ++ pv, ⟨[] ++ pa, pv, trodAll_append (hargs _ (fun _ _ => rfl)) (hres _ _ _), hvars _ (fun _ _ => rfl), rfl, fun b off hp => ?_, fun ha => ?_⟩, fun p hp _ => ?_⟩
  · have hp' : MemPlace.cell b off ∈ before := by rw [hps]; simpa using hp
    rw [hb.frozen (show (⟨b, off, none⟩ : Addr).block < W.heap.size from hlt _ hp')]
    exact hz b off hp'
  · have := hn ha
    rw [hps] at this
    simpa using this
  · rw [hps]
    simpa using hp
theorem contract (H : Type) (enc : TypeId × Value → H) (W : World) (args : Array Value) (ds gs : List (DataW H)) (before : List MemPlace)
    (hW : DataW.Whole enc Tryz.prog Tryz.f3.params.toList Rows.syntaxSizesSpec.vars false W args.toList ds gs before) (hb : Rows.uptoBulkAll (ds ++ gs) ≤ 1048576) (hS : W.ShapedOpen Tryz.prog) :
    Calls Tryz.prog 3 args W fun e W' => ∃ v, e = .returned v ∧ Rows.syntaxSizesSpec.post enc Tryz.prog Tryz.f3 false true false false W args v W' := by
  have hW' := hW
  have hlt := hW.lt
  obtain ⟨p, q, hA0, hV, rfl, hfz, hnd⟩ := hW
  have hA : DataW.TrodAll enc Tryz.prog W 0 (fun _ => true) true Tryz.f3.params.toList args.toList ds p := hA0
  rw [Tryz.params3] at hA
  obtain ⟨v0, vs0, d0, ds0, p0, q0, hargs, rfl, rfl, h0, r0⟩ := trodAll_cons hA
  obtain ⟨v1, vs1, d1, ds1, p1, q1, rfl, rfl, rfl, h1, r1⟩ := trodAll_cons r0
  obtain ⟨v2, vs2, d2, ds2, p2, q2, rfl, rfl, rfl, h2, r2⟩ := trodAll_cons r1
  obtain ⟨rfl, rfl, rfl⟩ := trodAll_nil r2
  obtain rfl : args = #[v0, v1, v2] := by cases args; simp_all
  obtain ⟨rfl, rfl⟩ := trodVars_none hV
  clear hA0 hA r0 r1 r2 hargs hV
  simp only [List.append_nil] at hW' hlt
  simp only [List.append_nil, Rows.uptoBulkAll] at hb
  have h0' := h0
  have h1' := h1
  have h2' := h2
  obtain ⟨f0, h0⟩ := h0
  obtain ⟨f1, h1⟩ := h1
  obtain ⟨f2, h2⟩ := h2
  have main : Calls Tryz.prog 3 #[v0, v1, v2] W fun e W' => e = .returned (.bool true) ∧ Below W.heap.size W W' := by
    obtain ⟨n, hn⟩ := maxLen_at hS
    have go : ∀ (G : Glob) (hg : @Gl G W.cell?), @FnOk G Tryz.prog 10 [] tru → Calls Tryz.prog 3 #[v0, v1, v2] W fun e W' => e = .returned (.bool true) ∧ Below W.heap.size W W' := fun G hg haw => by
      obtain ⟨t, ht, bt⟩ := rd_ty (F := W.cell?) (hg := hg) rfl _ h0
      obtain ⟨e, he, be⟩ := rd_ex (F := W.cell?) (hg := hg) rfl _ h1
      obtain ⟨m, hm, bm⟩ := rd_md (F := W.cell?) (hg := hg) rfl h2
      rw [encTy_eq] at ht
      rw [encEx_eq] at he
      rw [encMd_eq] at hm
      have hc := sizes_ok haw t e m (by omega) (by omega) (by omega)
      refine (hc.2 W.cell? hg W #[v0, v1, v2] (fun _ _ h => h) ?_).mono fun o W' h => ?_
      · rw [encTy_eq, encEx_eq, encMd_eq]
        exact .cons (rep_one (by simp [tyCells]) ht) (.cons (rep_one (by simp [exCells]) he) (.cons (rep_one (by simp [mdCells]) hm) (.nil _)))
      · obtain ⟨F', x, rfl, -, -, -, ⟨hg', hx⟩, hbel⟩ := h
        obtain rfl := rep_sc hx
        exact ⟨rfl, hbel⟩
    by_cases hge : 4 ≤ n
    · exact go (gGe n hge) (@Gl.mk (gGe n hge) _ (fun g hg => by cases hg; exact hn) (fun g cs j x h => by cases h)) (awake_ge n hge)
    · by_cases he3 : n = 3
      · subst he3
        exact go gEq (@Gl.mk gEq _ (fun g hg => by cases hg; exact hn) (fun g cs j x h => by cases h)) awake_eq
      · have hl : n < 3 := by omega
        exact go (gLt n hl) (@Gl.mk (gLt n hl) _ (fun g hg => by cases hg; exact hn) (fun g cs j x h => by cases h)) (awake_lt n hl)
  refine main.mono fun e W' ⟨he, hbel⟩ => ?_
  subst he
  have hlaid : laidOutB Tryz.prog = true := by kernel_rfl
  refine ⟨_, rfl, post_kept (pa := p0 ++ (p1 ++ (p2 ++ []))) (pv := []) hW' (fun _ _ _ => trodAll_cons_mk (shut_bool Tryz.underlying4 _) trodAll_mk0) (fun sp hsp => ?_) (fun _ _ => rfl) (by simp)
    hbel (ok_one (by kernel_rfl) rfl (okWide_bool_mk Tryz.underlying4 _))⟩
  · refine trodAll_cons_mk (WideElems.Trod_stays hlaid (by kernel_rfl) (of_decide_eq_true (by kernel_rfl)) h0' (fun x hx => hbel.same (hlt x (by simp [hx]))) (fun x hx => hsp x (by simp [hx])))
      (trodAll_cons_mk (WideElems.Trod_stays hlaid (by kernel_rfl) (of_decide_eq_true (by kernel_rfl)) h1' (fun x hx => hbel.same (hlt x (by simp [hx]))) (fun x hx => hsp x (by simp [hx])))
      (trodAll_cons_mk (WideElems.Trod_stays hlaid (by kernel_rfl) (of_decide_eq_true (by kernel_rfl)) h2' (fun x hx => hbel.same (hlt x (by simp [hx]))) (fun x hx => hsp x (by simp [hx]))) trodAll_mk0))
end Go.Proofs.YtpjdfcigadnhcaaGreatDoor
end

section
namespace Go.Proofs.YtpjdfcigadnhcaaGreatDoor
open Go.ChangeShapes Go.WideShapes Go.ChangeAt Go.RowKit
theorem own : ownKnob Tryz.prog.godebug = none := by kernel_rfl
/-- The witness: the empty trees. -/
def wTy : Value := .agg #[.int .i64 0, .string ⟨#[]⟩, .string ⟨#[]⟩, .slice none 0 0, .slice none 0 0]
def wEx : Value := .agg #[.int .i64 0, .string ⟨#[]⟩, .string ⟨#[]⟩, .string ⟨#[]⟩, .int .i64 0, .slice none 0 0, .slice none 0 0, .slice none 0 0]
def wMd : Value := .agg #[.string ⟨#[]⟩, .slice none 0 0, .slice none 0 0]
def dTy (H : Type) : DataW H := .agg [.lit (.int .i64 0), .lit (.string []), .lit (.string []), .nil, .nil]
def dEx (H : Type) : DataW H := .agg [.lit (.int .i64 0), .lit (.string []), .lit (.string []), .lit (.string []), .lit (.int .i64 0), .nil, .nil, .nil]
def dMd (H : Type) : DataW H := .agg [.lit (.string []), .nil, .nil]
def layAs (cs : Array Value) : Obj → Obj
  | .cells _ t frozen => .cells cs t frozen
  | o => o
def accZ : List Nat := [128, 191, 160, 191, 128, 159, 144, 191, 128, 143, 0, 0, 0, 0, 0, 0, 0, 0, 0, 0, 0, 0, 0, 0, 0, 0, 0, 0, 0, 0, 0, 0]
/-- A world for the witness: the settled one, the two listed tables holding what the row lists. -/
noncomputable def laidWorld (os : Os) : World :=
  { World.holding Tryz.prog os ⟨#[], #[], []⟩ with heap := ((World.holding Tryz.prog os ⟨#[], #[], []⟩).heap.modify 1 (layAs ⟨Pinned.utf8FirstZ.map fun n => Value.int .u8 (Int.ofNat n)⟩)).modify 2 (layAs ⟨accZ.map fun n => Value.int .u8 (Int.ofNat n)⟩) }
def wArgs : Array Value := #[wTy, wEx, wMd]
def wData (H : Type) : List (DataW H) := [dTy H, dEx H, dMd H]
theorem laid_met (os : Os) : laidMet Tryz.prog Rows.syntaxSizesUptoRow.laid ((laidWorld os).forCall (fun _ _ => 0) ⟨#[], wArgs, []⟩).memory :=
  laidMet_of_run' 8 (by kernel_rfl) (by kernel_rfl)
end Go.Proofs.YtpjdfcigadnhcaaGreatDoor
end
