/-
  CLOSED CALLS: the example of the chapter: what its names come to, whatever MaxLen is.
  CLOSED CALLS: names, by computing.
  CLOSED CALLS: names, by computing.
  CLOSED CALLS: names, by computing.
  CLOSED CALLS: names, by computing.
  CLOSED CALLS: names, by computing.
  CLOSED CALLS: names, by computing.
  CLOSED CALLS: names, by computing.
  CLOSED CALLS: names, by computing.
  CLOSED CALLS: names, by computing.
  CLOSED CALLS: the example of the chapter, by computing.
  CLOSING: what is common to the laws over trees.
  THE DATA of declarations and modules.
  READINGS, E: declarations and modules.
  CONTRACTS: bytes of names.
  CONTRACTS: names of types.
  CONTRACTS: the model's own functions on strings.
  CONTRACTS: strings: bytes, hashes.
  CONTRACTS: strings.Index.
  CONTRACTS: names.
  CONTRACTS: nodes of types.
  CONTRACTS: neighbours, shapes.
  CONTRACTS: leaves of expressions.
  CONTRACTS: kids.
  CONTRACTS: neighbours of labels.
  CONTRACTS: lists of parameters, declarations, imports.
  CONTRACTS: how often a byte stands in a string.
  CONTRACTS: looking for a slash.
  CONTRACTS: prefixes, versions.
-/
import Derived.Test.YtpjdfcigadnhcaaGreatDoorQ3
import Derived.WalkKit
import Derived.ProofKit
import Derived.OpenShut
import Derived.WideKeyArgs
import Derived.Deep.DeepHandedRow
import Derived.Lib.Bytealg
set_option linter.all false
section
namespace Go.Proofs.YtpjdfcigadnhcaaGreatDoor
open Go.Eng
@[reducible] def gGe (n : Int) (h : 4 ≤ n) : Glob := { n := n, κ := fun j => if j ≤ 4 then some true else none, ok := fun j b hb => by split at hb <;> simp at hb; subst hb; simp; omega, g := some 0, tabs := fun _ => none }
@[reducible] def gEq : Glob := { n := 3, κ := fun j => some (decide (j ≤ 3)), ok := fun j b hb => by simpa using hb, g := some 0, tabs := fun _ => none }
@[reducible] def gLt (n : Int) (h : n < 3) : Glob := { n := n, κ := fun j => if 3 ≤ j then some false else none, ok := fun j b hb => by split at hb <;> simp at hb; subst hb; simp; omega, g := some 0, tabs := fun _ => none }
def noOrc : FuncId → List V → Option V := fun _ _ => none
theorem noOrc_ok [Glob] : OrcOk Tryz.prog noOrc := fun f vs r h => by cases h
abbrev sA : V := .sc (.string ⟨#[97]⟩)
abbrev sB : V := .sc (.string ⟨#[98]⟩)
abbrev sV1 : V := .sc (.string ⟨#[118,49]⟩)
abbrev tru : V := .sc (.bool true)
abbrev tA : ByteArray := ⟨#[32,97,32]⟩
abbrev tB : ByteArray := ⟨#[32,98,32]⟩
abbrev tV : ByteArray := ⟨#[32,118,49,32]⟩
def isStr (v : V) (l : ByteArray) : Bool := match v with | .sc (.string s) => s.data.toList == l.data.toList | _ => false
theorem isStr_eq {v : V} {l : ByteArray} (h : isStr v l = true) : v = .sc (.string l) := by
 unfold isStr at h
 split at h
 ·rename_i s
  have h1 : s.data.toList = l.data.toList := by simpa using h
  have h2 : s = l := ByteArray.ext (Array.toList_inj.1 h1)
  rw [h2]
 ·cases h
def orcRK : FuncId → List V → Option V := fun f vs =>
 if f = 206 then (match vs with
  | [.sc (.string s), b] => if decide (s.size ≤ 1152921504606846975) then
    (if isStr b tA && decide (3 ≤ s.size) then some (num (rkRun s tA 558884339 1055306571))
    else if isStr b tB && decide (3 ≤ s.size) then some (num (rkRun s tB 575661958 1055306571))
    else if isStr b tV && decide (4 ≤ s.size) then some (num (rkRun s tV 2465932041 1345077009)) else none) else none
  | _ => none) else none
section
variable [Glob] (hG : Glob.g = some 0)
include hG
theorem h214A : FnOk Tryz.prog 214 [str tA] (.tup [u32 558884339, u32 1055306571]) := ev_call noOrc_ok (natS_ok hG) 2000 (by kernel_rfl)
theorem h214B : FnOk Tryz.prog 214 [str tB] (.tup [u32 575661958, u32 1055306571]) := ev_call noOrc_ok (natS_ok hG) 2000 (by kernel_rfl)
theorem h214V : FnOk Tryz.prog 214 [str tV] (.tup [u32 2465932041, u32 1345077009]) := ev_call noOrc_ok (natS_ok hG) 2000 (by kernel_rfl)
theorem orcRK_ok : OrcOk Tryz.prog orcRK := fun f vs r h => by
 unfold orcRK at h
 split at h
 ·rename_i hf
  subst hf
  split at h
  ·rename_i s b
   split at h
   ·rename_i hs
    have hs := of_decide_eq_true hs
    split at h
    ·rename_i hc
     simp only [Bool.and_eq_true,decide_eq_true_eq] at hc
     cases h
     rw [isStr_eq hc.1]
     exact rk_ok s tA _ _ (h214A hG) hc.2 hs
    ·split at h
     ·rename_i hc
      simp only [Bool.and_eq_true,decide_eq_true_eq] at hc
      cases h
      rw [isStr_eq hc.1]
      exact rk_ok s tB _ _ (h214B hG) hc.2 hs
     ·split at h
      ·rename_i hc
       simp only [Bool.and_eq_true,decide_eq_true_eq] at hc
       cases h
       rw [isStr_eq hc.1]
       exact rk_ok s tV _ _ (h214V hG) hc.2 hs
      ·cases h
   ·cases h
  ·cases h
 ·cases h
end
end Go.Proofs.YtpjdfcigadnhcaaGreatDoor
end

section
namespace Go.Proofs.YtpjdfcigadnhcaaGreatDoor
open Go.Eng
theorem a_ge (n : Int) (h : 4 ≤ n) : @FnOk (gGe n h) Tryz.prog 99 [sA] tru := @ev_call (gGe n h) _ _ (@orcRK_ok (gGe n h) rfl) (@natS_ok (gGe n h) rfl) 3000 _ _ _ (by kernel_rfl)
end Go.Proofs.YtpjdfcigadnhcaaGreatDoor
end

section
namespace Go.Proofs.YtpjdfcigadnhcaaGreatDoor
open Go.Eng
theorem b_ge (n : Int) (h : 4 ≤ n) : @FnOk (gGe n h) Tryz.prog 99 [sB] tru := @ev_call (gGe n h) _ _ (@orcRK_ok (gGe n h) rfl) (@natS_ok (gGe n h) rfl) 3000 _ _ _ (by kernel_rfl)
end Go.Proofs.YtpjdfcigadnhcaaGreatDoor
end

section
namespace Go.Proofs.YtpjdfcigadnhcaaGreatDoor
open Go.Eng
theorem v_ge (n : Int) (h : 4 ≤ n) : @FnOk (gGe n h) Tryz.prog 99 [sV1] tru := @ev_call (gGe n h) _ _ (@orcRK_ok (gGe n h) rfl) (@natS_ok (gGe n h) rfl) 3000 _ _ _ (by kernel_rfl)
end Go.Proofs.YtpjdfcigadnhcaaGreatDoor
end

section
namespace Go.Proofs.YtpjdfcigadnhcaaGreatDoor
open Go.Eng
theorem a_eq : @FnOk gEq Tryz.prog 99 [sA] tru := @ev_call gEq _ _ (@orcRK_ok gEq rfl) (@natS_ok gEq rfl) 3000 _ _ _ (by kernel_rfl)
end Go.Proofs.YtpjdfcigadnhcaaGreatDoor
end

section
namespace Go.Proofs.YtpjdfcigadnhcaaGreatDoor
open Go.Eng
theorem b_eq : @FnOk gEq Tryz.prog 99 [sB] tru := @ev_call gEq _ _ (@orcRK_ok gEq rfl) (@natS_ok gEq rfl) 3000 _ _ _ (by kernel_rfl)
end Go.Proofs.YtpjdfcigadnhcaaGreatDoor
end

section
namespace Go.Proofs.YtpjdfcigadnhcaaGreatDoor
open Go.Eng
theorem v_eq : @FnOk gEq Tryz.prog 99 [sV1] tru := @ev_call gEq _ _ (@orcRK_ok gEq rfl) (@natS_ok gEq rfl) 3000 _ _ _ (by kernel_rfl)
end Go.Proofs.YtpjdfcigadnhcaaGreatDoor
end

section
namespace Go.Proofs.YtpjdfcigadnhcaaGreatDoor
open Go.Eng
theorem a_lt (n : Int) (h : n < 3) : @FnOk (gLt n h) Tryz.prog 99 [sA] tru := @ev_call (gLt n h) _ _ (@orcRK_ok (gLt n h) rfl) (@natS_ok (gLt n h) rfl) 3000 _ _ _ (by kernel_rfl)
end Go.Proofs.YtpjdfcigadnhcaaGreatDoor
end

section
namespace Go.Proofs.YtpjdfcigadnhcaaGreatDoor
open Go.Eng
theorem b_lt (n : Int) (h : n < 3) : @FnOk (gLt n h) Tryz.prog 99 [sB] tru := @ev_call (gLt n h) _ _ (@orcRK_ok (gLt n h) rfl) (@natS_ok (gLt n h) rfl) 3000 _ _ _ (by kernel_rfl)
end Go.Proofs.YtpjdfcigadnhcaaGreatDoor
end

section
namespace Go.Proofs.YtpjdfcigadnhcaaGreatDoor
open Go.Eng
theorem v_lt (n : Int) (h : n < 3) : @FnOk (gLt n h) Tryz.prog 99 [sV1] tru := @ev_call (gLt n h) _ _ (@orcRK_ok (gLt n h) rfl) (@natS_ok (gLt n h) rfl) 3000 _ _ _ (by kernel_rfl)
end Go.Proofs.YtpjdfcigadnhcaaGreatDoor
end

section
namespace Go.Proofs.YtpjdfcigadnhcaaGreatDoor
open Go.Eng
def orcN : FuncId → List V → Option V := fun f vs =>
 if f = 99 then (match vs with
  | [a] => if isStr a ⟨#[97]⟩ || isStr a ⟨#[98]⟩ || isStr a ⟨#[118,49]⟩ then some tru else none
  | _ => none) else none
theorem orcN_ok [Glob] (ha : FnOk Tryz.prog 99 [sA] tru) (hb : FnOk Tryz.prog 99 [sB] tru) (hv : FnOk Tryz.prog 99 [sV1] tru) : OrcOk Tryz.prog orcN := fun f vs r h => by
 unfold orcN at h
 split at h
 ·rename_i hf
  subst hf
  split at h
  ·split at h
   ·rename_i hc
    cases h
    simp only [Bool.or_eq_true] at hc
    rcases hc with (h2 | h2) | h2
    ·rw [isStr_eq h2]; exact ha
    ·rw [isStr_eq h2]; exact hb
    ·rw [isStr_eq h2]; exact hv
   ·cases h
  ·cases h
 ·cases h
theorem awake_ge (n : Int) (h : 4 ≤ n) : @FnOk (gGe n h) Tryz.prog 10 [] tru := @ev_call (gGe n h) _ _ (@orcN_ok (gGe n h) (a_ge n h) (b_ge n h) (v_ge n h)) (@natS_ok (gGe n h) rfl) 3000 _ _ _ (by kernel_rfl)
theorem awake_eq : @FnOk gEq Tryz.prog 10 [] tru := @ev_call gEq _ _ (@orcN_ok gEq (a_eq ) (b_eq ) (v_eq )) (@natS_ok gEq rfl) 3000 _ _ _ (by kernel_rfl)
theorem awake_lt (n : Int) (h : n < 3) : @FnOk (gLt n h) Tryz.prog 10 [] tru := @ev_call (gLt n h) _ _ (@orcN_ok (gLt n h) (a_lt n h) (b_lt n h) (v_lt n h)) (@natS_ok (gLt n h) rfl) 3000 _ _ _ (by kernel_rfl)
end Go.Proofs.YtpjdfcigadnhcaaGreatDoor
end

section
namespace Go.Proofs.YtpjdfcigadnhcaaGreatDoor
open Go.Eng
set_option maxRecDepth 100000
open Go.ChangeShapes Go.WideShapes Go.ChangeAt Go.RowKit
theorem cell_int {W : World} {v : Value} (hok : Cell.ok Tryz.prog W .any 0 3 v) : ∃ n : Int, v = .int .i64 n := by
 unfold Cell.ok at hok
 rw [Tryz.underlying3] at hok
 cases v with
 | int k n => exact ⟨n, by rw [show k = .i64 from hok.1]⟩
 | _ => exact hok.elim
theorem maxLen_at {W : World} (hS : W.ShapedOpen Tryz.prog) : ∃ n : Int, W.cell? ⟨0, 0, none⟩ = some (.int .i64 n) := by
 have h0 : (((begin Tryz.prog (fun _ _ => 0) default).world.heap[0]?).bind Obj.row?) = some (#[.int .i64 0], 3) := by kernel_rfl
 obtain ⟨cs, hc, hz, hr⟩ := hS.1 0 _ _ (of_decide_eq_true (by kernel_rfl)) h0
 obtain ⟨ts, h1, -, h3⟩ := hr (by kernel_rfl)
 obtain rfl : [3] = ts := Option.some.inj ((show Tryz.prog.cellTypes Tryz.prog.depth 3 = some [3] by kernel_rfl).symm.trans h1)
 have hz' : cs.size = 1 := hz
 obtain ⟨v, hv⟩ : ∃ v, cs[0]? = some v := ⟨cs[0], Array.getElem?_eq_getElem (by omega)⟩
 obtain ⟨u, hu, hok⟩ := h3 0 v hv
 obtain rfl : 3 = u := by simpa using hu
 obtain ⟨n, rfl⟩ := cell_int hok
 exact ⟨n, by simp [World.cell?, hc, hv]⟩
theorem rep_one {F : Addr → Option Value} [Glob] {hg : Gl F} {cs : List V} {v : Value} (hne : cs.length ≠ 1) (h : Rd F hg cs v.cells.toList) : Rep ⟨F, fun _ _ => none, hg⟩ (.agg cs) v := by
 cases v with
 | agg xs => exact .agg _ _ _ (by simpa [Value.cells] using h.1.1) fun i c x hc hx => h.1.2 i c x hc (by simpa [Value.cells] using hx)
 | _ => exact absurd h.1.1 (by simpa [Value.cells] using hne)
theorem post_kept {H : Type} {enc : TypeId × Value → H} {P : Program} {f : Func} {s : ChangeSpec} {apart fresh handsOn again : Bool} {W W' : World} {args : Array Value} {v : Value} {ds gs : List (DataW H)} {before pa pv : List MemPlace}
  (hW : DataW.Whole enc P f.params.toList s.vars apart W args.toList ds gs before)
  (hres : ∀ (b : Nat) (sp : Nat → Bool) (hd : Bool), DataW.TrodAll enc P W' b sp hd f.resultTypes.toList (v.resultList f.resultTypes.size) (s.fn H (ds ++ gs)).results [])
  (hargs : ∀ sp : Nat → Bool, (∀ p ∈ before, sp p.block = true) → DataW.TrodAll enc P W' 0 sp true f.params.toList args.toList (s.fn H (ds ++ gs)).args pa)
  (hvars : ∀ sp : Nat → Bool, (∀ p ∈ before, sp p.block = true) → DataW.TrodVars enc P W' sp s.vars (s.fn H (ds ++ gs)).vars pv)
  (hps : before = pa ++ pv) (hb : Below W.heap.size W W')
  (hok : ∀ (j : Nat) (t : TypeId) (r : Value), f.resultTypes[j]? = some t → (v.resultList f.resultTypes.size)[j]? = some r → Value.okWide P W' .any 0 t r) :
  s.post enc P f apart fresh handsOn again W args v W' := by
 have hlt := hW.lt
 refine ⟨ds, gs, before, [], pa, pv, hW, hres _ _ _, hargs _ (fun p hp => by simpa using hlt p hp), hvars _ (fun p hp => by simpa using hlt p hp), hb.frame _, fun _ => ?_⟩
 obtain ⟨_, _, _, _, _, hz, hn⟩ := hW
 refine ⟨hok, _, _, ([] ++ pa) ++ pv, ⟨[] ++ pa, pv, trodAll_append (hargs _ (fun _ _ => rfl)) (hres _ _ _), hvars _ (fun _ _ => rfl), rfl, fun b off hp => ?_, fun ha => ?_⟩, fun p hp _ => ?_⟩
 ·have hp' : MemPlace.cell b off ∈ before := by rw [hps]; simpa using hp
  rw [hb.frozen (show (⟨b, off, none⟩ : Addr).block < W.heap.size from hlt _ hp')]
  exact hz b off hp'
 ·have := hn ha
  rw [hps] at this
  simpa using this
 ·rw [hps]
  simpa using hp
end Go.Proofs.YtpjdfcigadnhcaaGreatDoor
end

section
namespace Go.Proofs.YtpjdfcigadnhcaaGreatDoor
open Go.Eng
variable [Glob]
def dcCells (d : Dc) : List V := [num d.kind, str d.name, bl d.exported, bl d.deprecated, str d.note, .slice (d.params.map encPm)] ++ tyCells d.lower ++ tyCells d.upper ++ tyCells d.type ++ exCells d.expr ++ [str d.mod, str d.target]
theorem encDc_eq (d : Dc) : encDc d = .agg (dcCells d) := rfl
def Dc.bulk (d : Dc) : Nat := 1 + d.params.length + sumBy (fun p => p.bound.size) d.params + d.lower.size + d.upper.size + d.type.size + d.expr.bulk
theorem Dc.bulk_pos (d : Dc) : 0 < d.bulk := by unfold Dc.bulk; omega
def Md.bulk (m : Md) : Nat := 1 + m.imports.length + sumBy Dc.bulk m.decls
def mdCells (m : Md) : List V := [str m.path, .slice (m.imports.map encIm), .slice (m.decls.map encDc)]
theorem encMd_eq (m : Md) : encMd m = .agg (mdCells m) := rfl
def Pm.wt (p : Pm) : Nat := 1 + p.name.size + p.bound.wt
def Im.wt (i : Im) : Nat := 1 + i.path.size + i.alias.size
def Dc.wt (d : Dc) : Nat := 1 + d.name.size + d.note.size + sumBy Pm.wt d.params + d.lower.wt + d.upper.wt + d.type.wt + d.expr.wt + d.mod.size + d.target.size
def Md.wt (m : Md) : Nat := 1 + m.path.size + sumBy Im.wt m.imports + sumBy Dc.wt m.decls
theorem sumBy_pm (l : List Pm) : l.length + sumBy (fun p => p.bound.size) l ≤ sumBy Pm.wt l := by
 induction l with
 | nil => exact Nat.le_refl _
 | cons a r ih => have := a.bound.size_le_wt; simp only [sumBy,List.length_cons,Pm.wt]; omega
theorem Dc.bulk_le_wt (d : Dc) : d.bulk ≤ d.wt := by
 have h1 := sumBy_pm d.params
 have h2 := d.lower.size_le_wt
 have h3 := d.upper.size_le_wt
 have h4 := d.type.size_le_wt
 have h5 := d.expr.bulk_le_wt
 unfold Dc.bulk Dc.wt
 omega
theorem Md.bulk_le_wt (m : Md) : m.bulk ≤ m.wt := by
 have h1 := sumBy_le (g := Dc.bulk) (h := Dc.wt) Dc.bulk_le_wt m.decls
 have h2 := length_le_sum Im.wt (fun l => by unfold Im.wt; omega) m.imports
 unfold Md.bulk Md.wt
 omega
end Go.Proofs.YtpjdfcigadnhcaaGreatDoor
end

section
namespace Go.Proofs.YtpjdfcigadnhcaaGreatDoor
open Go.Eng
variable [Glob]
section
variable {F : Addr → Option Value} {hg : Gl F} {H : Type} {enc : TypeId × Value → H} {w : World} {sp : Nat → Bool} {held : Bool} {f : Nat} {cs : List Value} {d : DataW H} {p : List MemPlace}
theorem rd_pm (hF : F = w.cell?) (h : DataW.trod enc Tryz.prog w 0 sp held f 77 cs = some (d, p)) : ∃ x : Pm, Rd F hg (encPm x).cells cs ∧ x.wt ≤ Rows.uptoBulk d := by
 cases f with
 | zero => simp [DataW.trod] at h
 | succ f =>
  obtain ⟨hl, d0, p0, h0, d1, p1, h1, d2, p2, h2, rfl⟩ := trod_parts Tryz.underlying77 h
  simp only [c3,c9,c25] at h0 h1 h2
  rw [c77] at hl
  obtain ⟨n, hn, s0⟩ := rd_str (F := F) (hg := hg) h0
  obtain ⟨v, hv⟩ := rd_num (F := F) (hg := hg) h1
  obtain ⟨t, ht, bt⟩ := rd_ty (hg := hg) hF _ h2
  rw [encTy_eq] at ht
  refine ⟨⟨n, v, t⟩, ?_, ?_⟩
  ·show Rd F hg ([str n, num v] ++ tyCells t) (cs.drop 0)
   exact rd_step (a := [str n]) hn (rd_step (a := [num v]) hv (rd_last ht hl))
  ·simp only [Rows.uptoBulk,Rows.uptoBulkAll,Pm.wt]; omega
theorem rd_im (h : DataW.trod enc Tryz.prog w 0 sp held f 109 cs = some (d, p)) : ∃ x : Im, Rd F hg (encIm x).cells cs ∧ x.wt ≤ Rows.uptoBulk d := by
 cases f with
 | zero => simp [DataW.trod] at h
 | succ f =>
  obtain ⟨hl, d0, p0, h0, d1, p1, h1, rfl⟩ := trod_parts Tryz.underlying109 h
  simp only [c9] at h0 h1
  rw [c109] at hl
  obtain ⟨n, hn, s0⟩ := rd_str (F := F) (hg := hg) h0
  obtain ⟨v, hv, s1⟩ := rd_str (F := F) (hg := hg) h1
  refine ⟨⟨n, v⟩, ?_, ?_⟩
  ·exact rd_step (a := [str n]) (off := 0) hn (rd_last (a := [str v]) hv hl)
  ·simp only [Rows.uptoBulk,Rows.uptoBulkAll,Im.wt]; omega
theorem rd_dc (hF : F = w.cell?) (h : DataW.trod enc Tryz.prog w 0 sp held f 75 cs = some (d, p)) : ∃ x : Dc, Rd F hg (encDc x).cells cs ∧ x.wt ≤ Rows.uptoBulk d := by
 cases f with
 | zero => simp [DataW.trod] at h
 | succ f =>
  obtain ⟨hl, d0, p0, h0, d1, p1, h1, d2, p2, h2, d3, p3, h3, d4, p4, h4, d5, p5, h5, d6, p6, h6, d7, p7, h7, d8, p8, h8, d9, p9, h9, d10, p10, h10, d11, p11, h11, rfl⟩ := trod_parts Tryz.underlying75 h
  simp only [c3,c4,c9,c25,c29,c73] at h0 h1 h2 h3 h4 h5 h6 h7 h8 h9 h10 h11
  rw [c75] at hl
  obtain ⟨k, hk⟩ := rd_num (F := F) (hg := hg) h0
  obtain ⟨n, hn, s1⟩ := rd_str (F := F) (hg := hg) h1
  obtain ⟨x, hx⟩ := rd_bl (F := F) (hg := hg) h2
  obtain ⟨y, hy⟩ := rd_bl (F := F) (hg := hg) h3
  obtain ⟨o, ho, s4⟩ := rd_str (F := F) (hg := hg) h4
  obtain ⟨ps, hps, bps⟩ := rd_sl (F := F) (hg := hg) hF Tryz.underlying73 c77 (fun f' _ {cs d p} h => rd_pm hF h) h5
  obtain ⟨lo, hlo, blo⟩ := rd_ty (hg := hg) hF _ h6
  obtain ⟨up, hup, bup⟩ := rd_ty (hg := hg) hF _ h7
  obtain ⟨ty, hty, bty⟩ := rd_ty (hg := hg) hF _ h8
  obtain ⟨e, he, be⟩ := rd_ex (hg := hg) hF _ h9
  obtain ⟨m, hm, s10⟩ := rd_str (F := F) (hg := hg) h10
  obtain ⟨t, ht, s11⟩ := rd_str (F := F) (hg := hg) h11
  rw [encTy_eq] at hlo hup hty
  rw [encEx_eq] at he
  refine ⟨⟨k, n, x, y, o, ps, lo, up, ty, e, m, t⟩, ?_, ?_⟩
  ·show Rd F hg ([num k, str n, bl x, bl y, str o, .slice (ps.map encPm)] ++ tyCells lo ++ tyCells up ++ tyCells ty ++ exCells e ++ [str m, str t]) (cs.drop 0)
   simp only [List.append_assoc]
   exact rd_step (a := [num k]) hk (rd_step (a := [str n]) hn (rd_step (a := [bl x]) hx (rd_step (a := [bl y]) hy (rd_step (a := [str o]) ho (rd_step (a := [.slice (ps.map encPm)]) hps
    (rd_step hlo (rd_step hup (rd_step hty (rd_step he (rd_step (a := [str m]) hm (rd_last (a := [str t]) ht hl)))))))))))
  ·simp only [Rows.uptoBulk,Rows.uptoBulkAll,Dc.wt]; omega
theorem rd_md (hF : F = w.cell?) (h : DataW.trod enc Tryz.prog w 0 sp held f 33 cs = some (d, p)) : ∃ x : Md, Rd F hg (encMd x).cells cs ∧ x.wt ≤ Rows.uptoBulk d := by
 cases f with
 | zero => simp [DataW.trod] at h
 | succ f =>
  obtain ⟨hl, d0, p0, h0, d1, p1, h1, d2, p2, h2, rfl⟩ := trod_parts Tryz.underlying33 h
  simp only [c9,c30,c31] at h0 h1 h2
  rw [c33] at hl
  obtain ⟨n, hn, s0⟩ := rd_str (F := F) (hg := hg) h0
  obtain ⟨is, his, bis⟩ := rd_sl (F := F) (hg := hg) hF Tryz.underlying30 c109 (fun f' _ {cs d p} h => rd_im h) h1
  obtain ⟨ds, hds, bds⟩ := rd_sl (F := F) (hg := hg) hF Tryz.underlying31 c75 (fun f' _ {cs d p} h => rd_dc hF h) h2
  refine ⟨⟨n, is, ds⟩, ?_, ?_⟩
  ·exact rd_step (a := [str n]) (off := 0) hn (rd_step (a := [.slice (is.map encIm)]) his (rd_last (a := [.slice (ds.map encDc)]) hds hl))
  ·simp only [Rows.uptoBulk,Rows.uptoBulkAll,Md.wt]; omega
end
end Go.Proofs.YtpjdfcigadnhcaaGreatDoor
end

section
namespace Go.Proofs.YtpjdfcigadnhcaaGreatDoor
open Go.Eng
open Nat (reduceAdd reduceLT reduceLeDiff reduceMul reduceEqDiff reduceSub)
variable [Glob]
set_option maxHeartbeats 4000000
set_option maxRecDepth 100000
attribute [local irreducible] runM stepM valD stepOp stepD callF
def isB (v : V) : Prop := ∃ b : Bool, v = bl b
def isN (v : V) : Prop := ∃ n : Int, v = num n
theorem small_tot (c : Int) : ∃ r, isB r ∧ FnOk Tryz.prog 148 [.sc (.int .u8 c)] r := by
 refine fn_ex tt_ok (fn := Tryz.f148) Tryz.func148 rfl Tryz.call148 ?_
 simp only [ltb,startSt,Tryz.ntmps148,List.length_cons,List.length_nil,reduceAdd,reduceSub,List.replicate_succ,List.replicate_zero]
 refine ex_region_w tt_ok 9 [0,0,2] [] rfl rfl fun K hK => ?_
 try simp only [ltb]
 simp only [ltb,go_sem,reduceIte,reduceAdd,reduceLT,reduceLeDiff,reduceMul,reduceEqDiff,reduceSub,reduceCtorEq,List.take_length]
 refine hK _ _ rfl ?_
 simp only [mwb,reduceAdd,reduceEqDiff]
 refine ex_region_w tt_ok 9 [0,0,2,1,1,1,1,1,1] [(2, 5)] rfl rfl fun K hK => ?_
 try simp only [ltb]
 refine runX_cut 3 fun K1 hK1 => ?_
 simp only [ltb,go_sem,reduceIte,reduceAdd,reduceLT,reduceLeDiff,reduceMul,reduceEqDiff,reduceSub,reduceCtorEq,List.take_length]
 refine hK1 _ ?_
 refine runX_case 5 (by rfl) fun b hb1_2 => ?_
 cases b
 ·simp only [ltb,go_sem,reduceIte,reduceAdd,reduceLT,reduceLeDiff,reduceMul,reduceEqDiff,reduceSub,reduceCtorEq,List.take_length]
  refine hK _ _ rfl ?_
  simp only [mwb,reduceAdd,reduceEqDiff]
  exact ex_ret ⟨.inl rfl, _, ⟨_, rfl⟩, rfl⟩
 ·simp only [ltb,go_sem,reduceIte,reduceAdd,reduceLT,reduceLeDiff,reduceMul,reduceEqDiff,reduceSub,reduceCtorEq,List.take_length]
  refine hK _ _ rfl ?_
  simp only [mwb,reduceAdd,reduceEqDiff]
  exact ex_ret ⟨.inl rfl, _, ⟨_, rfl⟩, rfl⟩
theorem capital_tot (c : Int) : ∃ r, isB r ∧ FnOk Tryz.prog 118 [.sc (.int .u8 c)] r := by
 refine fn_ex tt_ok (fn := Tryz.f118) Tryz.func118 rfl Tryz.call118 ?_
 simp only [ltb,startSt,Tryz.ntmps118,List.length_cons,List.length_nil,reduceAdd,reduceSub,List.replicate_succ,List.replicate_zero]
 refine ex_region_w tt_ok 9 [0,0,2] [] rfl rfl fun K hK => ?_
 try simp only [ltb]
 simp only [ltb,go_sem,reduceIte,reduceAdd,reduceLT,reduceLeDiff,reduceMul,reduceEqDiff,reduceSub,reduceCtorEq,List.take_length]
 refine hK _ _ rfl ?_
 simp only [mwb,reduceAdd,reduceEqDiff]
 refine ex_region_w tt_ok 9 [0,0,2,1,1,1,1,1,1] [(2, 5)] rfl rfl fun K hK => ?_
 try simp only [ltb]
 refine runX_cut 3 fun K1 hK1 => ?_
 simp only [ltb,go_sem,reduceIte,reduceAdd,reduceLT,reduceLeDiff,reduceMul,reduceEqDiff,reduceSub,reduceCtorEq,List.take_length]
 refine hK1 _ ?_
 refine runX_case 5 (by rfl) fun b hb1_2 => ?_
 cases b
 ·simp only [ltb,go_sem,reduceIte,reduceAdd,reduceLT,reduceLeDiff,reduceMul,reduceEqDiff,reduceSub,reduceCtorEq,List.take_length]
  refine hK _ _ rfl ?_
  simp only [mwb,reduceAdd,reduceEqDiff]
  exact ex_ret ⟨.inl rfl, _, ⟨_, rfl⟩, rfl⟩
 ·simp only [ltb,go_sem,reduceIte,reduceAdd,reduceLT,reduceLeDiff,reduceMul,reduceEqDiff,reduceSub,reduceCtorEq,List.take_length]
  refine hK _ _ rfl ?_
  simp only [mwb,reduceAdd,reduceEqDiff]
  exact ex_ret ⟨.inl rfl, _, ⟨_, rfl⟩, rfl⟩
theorem digit_tot (c : Int) : ∃ r, isB r ∧ FnOk Tryz.prog 169 [.sc (.int .u8 c)] r := by
 refine fn_ex tt_ok (fn := Tryz.f169) Tryz.func169 rfl Tryz.call169 ?_
 simp only [ltb,startSt,Tryz.ntmps169,List.length_cons,List.length_nil,reduceAdd,reduceSub,List.replicate_succ,List.replicate_zero]
 refine ex_region_w tt_ok 9 [0,0,2] [] rfl rfl fun K hK => ?_
 try simp only [ltb]
 simp only [ltb,go_sem,reduceIte,reduceAdd,reduceLT,reduceLeDiff,reduceMul,reduceEqDiff,reduceSub,reduceCtorEq,List.take_length]
 refine hK _ _ rfl ?_
 simp only [mwb,reduceAdd,reduceEqDiff]
 refine ex_region_w tt_ok 9 [0,0,2,1,1,1,1,1,1] [(2, 5)] rfl rfl fun K hK => ?_
 try simp only [ltb]
 refine runX_cut 3 fun K1 hK1 => ?_
 simp only [ltb,go_sem,reduceIte,reduceAdd,reduceLT,reduceLeDiff,reduceMul,reduceEqDiff,reduceSub,reduceCtorEq,List.take_length]
 refine hK1 _ ?_
 refine runX_case 5 (by rfl) fun b hb1_2 => ?_
 cases b
 ·simp only [ltb,go_sem,reduceIte,reduceAdd,reduceLT,reduceLeDiff,reduceMul,reduceEqDiff,reduceSub,reduceCtorEq,List.take_length]
  refine hK _ _ rfl ?_
  simp only [mwb,reduceAdd,reduceEqDiff]
  exact ex_ret ⟨.inl rfl, _, ⟨_, rfl⟩, rfl⟩
 ·simp only [ltb,go_sem,reduceIte,reduceAdd,reduceLT,reduceLeDiff,reduceMul,reduceEqDiff,reduceSub,reduceCtorEq,List.take_length]
  refine hK _ _ rfl ?_
  simp only [mwb,reduceAdd,reduceEqDiff]
  exact ex_ret ⟨.inl rfl, _, ⟨_, rfl⟩, rfl⟩
theorem word_tot (c : Int) : ∃ r, isB r ∧ FnOk Tryz.prog 120 [.sc (.int .u8 c)] r := by
 refine fn_ex tt_ok (fn := Tryz.f120) Tryz.func120 rfl Tryz.call120 ?_
 simp only [ltb,startSt,Tryz.ntmps120,List.length_cons,List.length_nil,reduceAdd,reduceSub,List.replicate_succ,List.replicate_zero]
 refine ex_region_w tt_ok 17 [0,0,2] [] rfl rfl fun K hK => ?_
 try simp only [ltb]
 simp only [ltb,go_sem,reduceIte,reduceAdd,reduceLT,reduceLeDiff,reduceMul,reduceEqDiff,reduceSub,reduceCtorEq,List.take_length]
 refine hK _ _ rfl ?_
 simp only [mwb,reduceAdd,reduceEqDiff]
 refine ex_region_w tt_ok 17 (0::0::2::(rp 14 1 [])) [(2, 5), (6, 9), (10, 13)] rfl rfl fun K hK => ?_
 try simp only [ltb]
 refine runX_cut 2 fun K1 hK1 => ?_
 simp only [ltb,go_sem,reduceIte,reduceAdd,reduceLT,reduceLeDiff,reduceMul,reduceEqDiff,reduceSub,reduceCtorEq,List.take_length]
 refine callF_ex (small_tot _) ?_
 rintro _ ⟨r1, rfl⟩
 try simp only [go_sem,reduceIte,reduceAdd,reduceLT,reduceLeDiff,reduceMul,reduceEqDiff,reduceSub,reduceCtorEq,List.take_length]
 refine hK1 _ ?_
 refine runX_cut 1 fun K1 hK1 => ?_
 simp only [ltb,go_sem,reduceIte,reduceAdd,reduceLT,reduceLeDiff,reduceMul,reduceEqDiff,reduceSub,reduceCtorEq,List.take_length]
 refine hK1 _ ?_
 refine runX_case 5 (by rfl) fun b hb1_2 => ?_
 cases b
 ·refine runX_cut 2 fun K1 hK1 => ?_
  simp only [ltb,go_sem,reduceIte,reduceAdd,reduceLT,reduceLeDiff,reduceMul,reduceEqDiff,reduceSub,reduceCtorEq,List.take_length]
  refine callF_ex (capital_tot _) ?_
  rintro _ ⟨r2, rfl⟩
  try simp only [go_sem,reduceIte,reduceAdd,reduceLT,reduceLeDiff,reduceMul,reduceEqDiff,reduceSub,reduceCtorEq,List.take_length]
  refine hK1 _ ?_
  refine runX_cut 2 fun K1 hK1 => ?_
  simp only [ltb,go_sem,reduceIte,reduceAdd,reduceLT,reduceLeDiff,reduceMul,reduceEqDiff,reduceSub,reduceCtorEq,List.take_length]
  refine hK1 _ ?_
  refine runX_case 9 (by rfl) fun b hb1_6 => ?_
  cases b
  ·refine runX_cut 2 fun K1 hK1 => ?_
   simp only [ltb,go_sem,reduceIte,reduceAdd,reduceLT,reduceLeDiff,reduceMul,reduceEqDiff,reduceSub,reduceCtorEq,List.take_length]
   refine callF_ex (digit_tot _) ?_
   rintro _ ⟨r3, rfl⟩
   try simp only [go_sem,reduceIte,reduceAdd,reduceLT,reduceLeDiff,reduceMul,reduceEqDiff,reduceSub,reduceCtorEq,List.take_length]
   refine hK1 _ ?_
   refine runX_cut 2 fun K1 hK1 => ?_
   simp only [ltb,go_sem,reduceIte,reduceAdd,reduceLT,reduceLeDiff,reduceMul,reduceEqDiff,reduceSub,reduceCtorEq,List.take_length]
   refine hK1 _ ?_
   refine runX_case 13 (by rfl) fun b hb1_10 => ?_
   cases b
   ·simp only [ltb,go_sem,reduceIte,reduceAdd,reduceLT,reduceLeDiff,reduceMul,reduceEqDiff,reduceSub,reduceCtorEq,List.take_length]
    refine hK _ _ rfl ?_
    simp only [mwb,reduceAdd,reduceEqDiff]
    exact ex_ret ⟨.inl rfl, _, ⟨_, rfl⟩, rfl⟩
   ·simp only [ltb,go_sem,reduceIte,reduceAdd,reduceLT,reduceLeDiff,reduceMul,reduceEqDiff,reduceSub,reduceCtorEq,List.take_length]
    refine hK _ _ rfl ?_
    simp only [mwb,reduceAdd,reduceEqDiff]
    exact ex_ret ⟨.inl rfl, _, ⟨_, rfl⟩, rfl⟩
  ·simp only [ltb,go_sem,reduceIte,reduceAdd,reduceLT,reduceLeDiff,reduceMul,reduceEqDiff,reduceSub,reduceCtorEq,List.take_length]
   refine hK _ _ rfl ?_
   simp only [mwb,reduceAdd,reduceEqDiff]
   exact ex_ret ⟨.inl rfl, _, ⟨_, rfl⟩, rfl⟩
 ·refine runX_cut 8 fun K1 hK1 => ?_
  simp only [ltb,go_sem,reduceIte,reduceAdd,reduceLT,reduceLeDiff,reduceMul,reduceEqDiff,reduceSub,reduceCtorEq,List.take_length]
  refine hK1 _ ?_
  simp only [ltb,go_sem,reduceIte,reduceAdd,reduceLT,reduceLeDiff,reduceMul,reduceEqDiff,reduceSub,reduceCtorEq,List.take_length]
  refine hK _ _ rfl ?_
  simp only [mwb,reduceAdd,reduceEqDiff]
  exact ex_ret ⟨.inl rfl, _, ⟨_, rfl⟩, rfl⟩
end Go.Proofs.YtpjdfcigadnhcaaGreatDoor
end

section
namespace Go.Proofs.YtpjdfcigadnhcaaGreatDoor
open Go.Eng
open Nat (reduceAdd reduceLT reduceLeDiff reduceMul reduceEqDiff reduceSub)
variable [Glob]
set_option maxHeartbeats 4000000
set_option maxRecDepth 100000
attribute [local irreducible] runM stepM valD stepOp stepD callF
theorem ne_get {s e : ByteArray} (he : e.size = 0) (h : (!(s.toList == e.toList)) = true) : ∃ c, s[0]? = some c := by
 refine get_byte (s := s) (i := 0) ?_
 rcases Nat.eq_zero_or_pos s.size with hz | hz
 ·exfalso
  have e1 : s.toList = e.toList := by
   rw [ByteArray.toList_eq, ByteArray.toList_eq]
   have a1 : s.data.toList = [] := by simpa [← List.length_eq_zero_iff, Array.length_toList] using hz
   have a2 : e.data.toList = [] := by simpa [← List.length_eq_zero_iff, Array.length_toList] using he
   rw [a1, a2]
  rw [e1] at h; simp at h
 ·exact hz
theorem all_tot (g : FuncId) (hg : ∀ c : Int, ∃ r, isB r ∧ FnOk Tryz.prog g [.sc (.int .u8 c)] r) (s : ByteArray) (hs : s.size ≤ 1048576) : ∃ r, isB r ∧ FnOk Tryz.prog 119 [str s, .sc (.func (.func g) #[] #[])] r := by
 refine fn_ex tt_ok (fn := Tryz.f119) Tryz.func119 rfl Tryz.call119 ?_
 simp only [ltb,startSt,Tryz.ntmps119,List.length_cons,List.length_nil,reduceAdd,reduceSub,List.replicate_succ,List.replicate_zero]
 have hT9 : Tryz.prog.underlying 9 = some .string := by kernel_rfl
 have sl : ∀ (a : ByteArray) (ty : TypeId), liftL Tryz.prog (Builtin.len_ #[9] ty) [.sc (.string a)] = some (num a.size) := fun a ty => ev_slen (P := Tryz.prog) (tt := tt) (T := 9) a hT9 ty
 refine ex_region_w tt_ok 18 [0,0,0,0,2] [] rfl rfl fun K hK => ?_
 try simp only [ltb]
 try simp only [ltb]
 simp only [sl,go_sem,reduceIte,reduceAdd,reduceLT,reduceLeDiff,reduceMul,reduceEqDiff,reduceSub,reduceCtorEq,List.take_length]
 refine hK _ _ rfl ?_
 simp only [mwb,reduceAdd,reduceEqDiff]
 refine ex_seq ?_
 refine ex_region_w tt_ok 18 [0,0,0,0,0,0,1,2,2] [] rfl rfl fun K hK => ?_
 try simp only [ltb]
 try simp only [ltb]
 simp only [sl,go_sem,reduceIte,reduceAdd,reduceLT,reduceLeDiff,reduceMul,reduceEqDiff,reduceSub,reduceCtorEq,List.take_length]
 refine hK _ _ rfl ?_
 simp only [mwb,reduceAdd,reduceEqDiff]
 refine ex_block ?_
 refine ex_range 8 (s.size) 0 [true,true,false,false,true,false,false,true,true] (by omega) (by simp only [maskFr,belowV,belowL,belowB,reduceLT,mkb]) (by simp only [maskFr,belowV,belowL,belowB,reduceLT,mkb]) (by rfl) fun i hii => ?_
 simp only [maskFr,belowV,belowL,belowB,reduceLT,List.set_cons_zero,List.set_cons_succ,mkb]
 refine ex_region_w tt_ok 18 (rp 9 0 [2]) [] rfl rfl fun K hK => ?_
 try simp only [ltb]
 try simp only [ltb]
 simp only [sl,go_sem,reduceIte,reduceAdd,reduceLT,reduceLeDiff,reduceMul,reduceEqDiff,reduceSub,reduceCtorEq,List.take_length]
 refine hK _ _ rfl ?_
 simp only [mwb,reduceAdd,reduceEqDiff]
 refine ex_seq ?_
 refine ex_if rfl (fun hc9 => ?_) (fun hc9 => ?_)
 ·have hlti : i < (s.size) := by simpa using hc9
  refine ex_skip ?_
  show Go.Eng.Ex _ _ _ _ _ _
  refine ex_seq ?_
  refine ex_block ?_
  refine ex_region_w tt_ok 18 [0,0,0,0,0,2,0,0,0,0,1] [] rfl rfl fun K hK => ?_
  try simp only [ltb]
  try simp only [ltb]
  simp only [hlti,sl,go_sem,reduceIte,reduceAdd,reduceLT,reduceLeDiff,reduceMul,reduceEqDiff,reduceSub,reduceCtorEq,List.take_length]
  refine hK _ _ rfl ?_
  simp only [mwb,reduceAdd,reduceEqDiff]
  refine ex_region_w tt_ok 18 (rp 11 0 [1,1,1,1,1,2]) [] rfl rfl fun K hK => ?_
  try simp only [ltb]
  refine runX_cut 3 fun K1 hK1 => ?_
  simp only [ltb]
  simp only [hlti,sl,go_sem,reduceIte,reduceAdd,reduceLT,reduceLeDiff,reduceMul,reduceEqDiff,reduceSub,reduceCtorEq,List.take_length]
  refine hK1 _ ?_
  obtain ⟨c, hcb⟩ := get_byte (s := s) (i := i) hlti
  have hix := ev_index (P := Tryz.prog) s hT9 .i64 (i : Int) (by omega) (c := c) (show s[((i : Nat) : Int).toNat]? = some c from hcb)
  refine runX_cut 2 fun K1 hK1 => ?_
  simp only [ltb]
  simp only [hlti,hix,sl,go_sem,reduceIte,reduceAdd,reduceLT,reduceLeDiff,reduceMul,reduceEqDiff,reduceSub,reduceCtorEq,List.take_length]
  refine callF_ex (hg _) ?_
  rintro _ ⟨r1, rfl⟩
  try simp only [hlti,hix,sl,go_sem,reduceIte,reduceAdd,reduceLT,reduceLeDiff,reduceMul,reduceEqDiff,reduceSub,reduceCtorEq,List.take_length]
  refine hK1 _ ?_
  try simp only [ltb]
  simp only [hlti,hix,sl,go_sem,reduceIte,reduceAdd,reduceLT,reduceLeDiff,reduceMul,reduceEqDiff,reduceSub,reduceCtorEq,List.take_length]
  refine hK _ _ rfl ?_
  simp only [mwb,reduceAdd,reduceEqDiff]
  refine ex_if rfl (fun hc16 => ?_) (fun hc16 => ?_)
  ·refine ex_region_w tt_ok 18 [0,0,0,0,2] [] rfl rfl fun K hK => ?_
   try simp only [ltb]
   try simp only [ltb]
   simp only [hlti,hix,sl,go_sem,reduceIte,reduceAdd,reduceLT,reduceLeDiff,reduceMul,reduceEqDiff,reduceSub,reduceCtorEq,List.take_length]
   refine hK _ _ rfl ?_
   simp only [mwb,reduceAdd,reduceEqDiff]
   exact ex_ret ⟨.inl rfl, _, ⟨_, rfl⟩, rfl⟩
  ·refine ex_skip ?_
   show Go.Eng.Ex _ _ _ _ _ _
   refine ex_last_region_w tt_ok 18 (rp 8 0 (2::(rp 8 0 [2]))) [] (by kernel_rfl) rfl rfl fun K hK => ?_
   try simp only [ltb]
   try simp only [ltb]
   simp only [hlti,hix,sl,go_sem,reduceIte,reduceAdd,reduceLT,reduceLeDiff,reduceMul,reduceEqDiff,reduceSub,reduceCtorEq,List.take_length]
   refine hK _ _ rfl ?_
   simp only [mwb,reduceAdd,reduceEqDiff]
   have hwi := i64_succ i (by omega)
   refine ⟨hlti, 0, [true,true,false,false,true,false,false,true,true], by omega, by simp only [maskFr,belowV,belowL,belowB,reduceLT,mkb], by simp only [maskFr,belowV,belowL,belowB,reduceLT,mkb], ?_⟩
   simp only [hwi,maskFr,belowV,belowL,belowB,reduceLT,List.set_cons_zero,List.set_cons_succ,mkb]
 ·have hgei : ¬ i < (s.size) := by simpa using hc9
  refine ex_exit ?_
  show Go.Eng.Ex _ _ _ _ _ _
  refine ex_region_w tt_ok 18 [0,0,0,0,2] [] rfl rfl fun K hK => ?_
  try simp only [ltb]
  try simp only [ltb]
  simp only [sl,go_sem,reduceIte,reduceAdd,reduceLT,reduceLeDiff,reduceMul,reduceEqDiff,reduceSub,reduceCtorEq,List.take_length]
  refine hK _ _ rfl ?_
  simp only [mwb,reduceAdd,reduceEqDiff]
  exact ex_ret ⟨.inl rfl, _, ⟨_, rfl⟩, rfl⟩
theorem isType_tot (s : ByteArray) : ∃ r, isB r ∧ FnOk Tryz.prog 78 [str s] r := by
 refine fn_ex tt_ok (fn := Tryz.f78) Tryz.func78 rfl Tryz.call78 ?_
 simp only [ltb,startSt,Tryz.ntmps78,List.length_cons,List.length_nil,reduceAdd,reduceSub,List.replicate_succ,List.replicate_zero]
 have hT9 : Tryz.prog.underlying 9 = some .string := by kernel_rfl
 have sl : ∀ (a : ByteArray) (ty : TypeId), liftL Tryz.prog (Builtin.len_ #[9] ty) [.sc (.string a)] = some (num a.size) := fun a ty => ev_slen (P := Tryz.prog) (tt := tt) (T := 9) a hT9 ty
 refine ex_region_w tt_ok 19 [0,0,2] [] rfl rfl fun K hK => ?_
 try simp only [ltb]
 try simp only [ltb]
 simp only [sl,go_sem,reduceIte,reduceAdd,reduceLT,reduceLeDiff,reduceMul,reduceEqDiff,reduceSub,reduceCtorEq,List.take_length]
 refine hK _ _ rfl ?_
 simp only [mwb,reduceAdd,reduceEqDiff]
 refine ex_region_w tt_ok 19 (0::0::2::(rp 16 1 [])) [(2, 5), (7, 10), (12, 15)] rfl rfl fun K hK => ?_
 try simp only [ltb]
 refine runX_cut 3 fun K1 hK1 => ?_
 simp only [ltb]
 simp only [sl,go_sem,reduceIte,reduceAdd,reduceLT,reduceLeDiff,reduceMul,reduceEqDiff,reduceSub,reduceCtorEq,List.take_length]
 refine hK1 _ ?_
 refine runX_case 5 (by rfl) fun b hb1_2 => ?_
 cases b
 ·refine runX_cut 8 fun K1 hK1 => ?_
  simp only [ltb]
  simp only [sl,go_sem,reduceIte,reduceAdd,reduceLT,reduceLeDiff,reduceMul,reduceEqDiff,reduceSub,reduceCtorEq,List.take_length]
  refine hK1 _ ?_
  try simp only [ltb]
  simp only [sl,go_sem,reduceIte,reduceAdd,reduceLT,reduceLeDiff,reduceMul,reduceEqDiff,reduceSub,reduceCtorEq,List.take_length]
  refine hK _ _ rfl ?_
  simp only [mwb,reduceAdd,reduceEqDiff]
  exact ex_ret ⟨.inl rfl, _, ⟨_, rfl⟩, rfl⟩
 ·refine runX_cut 5 fun K1 hK1 => ?_
  simp only [ltb]
  simp only [sl,go_sem,reduceIte,reduceAdd,reduceLT,reduceLeDiff,reduceMul,reduceEqDiff,reduceSub,reduceCtorEq,List.take_length]
  refine hK1 _ ?_
  refine runX_case 10 (by rfl) fun b hb1_7 => ?_
  cases b
  ·refine runX_cut 8 fun K1 hK1 => ?_
   simp only [ltb]
   simp only [sl,go_sem,reduceIte,reduceAdd,reduceLT,reduceLeDiff,reduceMul,reduceEqDiff,reduceSub,reduceCtorEq,List.take_length]
   refine hK1 _ ?_
   try simp only [ltb]
   simp only [sl,go_sem,reduceIte,reduceAdd,reduceLT,reduceLeDiff,reduceMul,reduceEqDiff,reduceSub,reduceCtorEq,List.take_length]
   refine hK _ _ rfl ?_
   simp only [mwb,reduceAdd,reduceEqDiff]
   exact ex_ret ⟨.inl rfl, _, ⟨_, rfl⟩, rfl⟩
  ·have hsz : s.size ≤ 1048576 := by have h1 := hb1_7; simp at h1; omega
   refine runX_cut 1 fun K1 hK1 => ?_
   simp only [ltb]
   simp only [sl,go_sem,reduceIte,reduceAdd,reduceLT,reduceLeDiff,reduceMul,reduceEqDiff,reduceSub,reduceCtorEq,List.take_length]
   refine hK1 _ ?_
   obtain ⟨c0, hcb0⟩ := ne_get rfl hb1_2
   have hix0 := ev_index (P := Tryz.prog) s hT9 .i64 0 (by omega) (c := c0) (show s[(0 : Int).toNat]? = some c0 from hcb0)
   refine runX_cut 2 fun K1 hK1 => ?_
   simp only [ltb]
   simp only [hix0,sl,go_sem,reduceIte,reduceAdd,reduceLT,reduceLeDiff,reduceMul,reduceEqDiff,reduceSub,reduceCtorEq,List.take_length]
   refine callF_ex (capital_tot _) ?_
   rintro _ ⟨r1, rfl⟩
   try simp only [hix0,sl,go_sem,reduceIte,reduceAdd,reduceLT,reduceLeDiff,reduceMul,reduceEqDiff,reduceSub,reduceCtorEq,List.take_length]
   refine hK1 _ ?_
   refine runX_cut 2 fun K1 hK1 => ?_
   simp only [ltb]
   simp only [hix0,sl,go_sem,reduceIte,reduceAdd,reduceLT,reduceLeDiff,reduceMul,reduceEqDiff,reduceSub,reduceCtorEq,List.take_length]
   refine hK1 _ ?_
   refine runX_case 15 (by rfl) fun b hb1_12 => ?_
   cases b
   ·try simp only [ltb]
    simp only [hix0,sl,go_sem,reduceIte,reduceAdd,reduceLT,reduceLeDiff,reduceMul,reduceEqDiff,reduceSub,reduceCtorEq,List.take_length]
    refine hK _ _ rfl ?_
    simp only [mwb,reduceAdd,reduceEqDiff]
    exact ex_ret ⟨.inl rfl, _, ⟨_, rfl⟩, rfl⟩
   ·refine runX_cut 2 fun K1 hK1 => ?_
    simp only [ltb]
    simp only [hix0,sl,go_sem,reduceIte,reduceAdd,reduceLT,reduceLeDiff,reduceMul,reduceEqDiff,reduceSub,reduceCtorEq,List.take_length]
    refine callF_ex (all_tot 120 word_tot _ hsz) ?_
    rintro _ ⟨r2, rfl⟩
    try simp only [hix0,sl,go_sem,reduceIte,reduceAdd,reduceLT,reduceLeDiff,reduceMul,reduceEqDiff,reduceSub,reduceCtorEq,List.take_length]
    refine hK1 _ ?_
    try simp only [ltb]
    simp only [hix0,sl,go_sem,reduceIte,reduceAdd,reduceLT,reduceLeDiff,reduceMul,reduceEqDiff,reduceSub,reduceCtorEq,List.take_length]
    refine hK _ _ rfl ?_
    simp only [mwb,reduceAdd,reduceEqDiff]
    exact ex_ret ⟨.inl rfl, _, ⟨_, rfl⟩, rfl⟩
end Go.Proofs.YtpjdfcigadnhcaaGreatDoor
end

section
namespace Go.Proofs.YtpjdfcigadnhcaaGreatDoor
open Go.Eng
variable [Glob]
theorem find_range {n : Nat} {p : Nat → Bool} : match (List.range n).find? p with | some i => i < n | none => True := by
 cases h : (List.range n).find? p with
 | none => trivial
 | some i => simpa using List.mem_of_find?_eq_some h
theorem idxByte_nat (s : ByteArray) (c : Int) : ∃ r, (∃ o : Int, r = num o ∧ -1 ≤ o ∧ o < s.size) ∧ NatOk Tryz.prog 213 [str s, .sc (.int .u8 c)] r := by
 obtain ⟨v, hv⟩ : ∃ v : Value, v = (match (List.range s.size).find? fun i => s[i]! == c.toNat.toUInt8 with | some i => goInt i | none => goInt (-1)) := ⟨_, rfl⟩
 refine ⟨absV v, ?_, natOk_of (P := Tryz.prog) (fn := Tryz.f213) (ext := Extern.BytealgIndexByte.indexByte) Tryz.func213 (by kernel_rfl) rfl (by kernel_rfl) (by kernel_rfl) (l := [.string s, .int .u8 c]) rfl fun w => ?_⟩
 ·have := find_range (n := s.size) (p := fun i => s[i]! == c.toNat.toUInt8)
  rw [hv]
  revert this
  cases (List.range s.size).find? (fun i => s[i]! == c.toNat.toUInt8) with
  | none => intro _; exact ⟨-1, rfl, by omega, by omega⟩
  | some i => intro h; exact ⟨i, rfl, by omega, by dsimp only at h; omega⟩
 ·rw [hv]
  show (do
   let b ← Extern.Bytes.bytesOf (.string s)
   let c ← Extern.Bytes.asByte (.int .u8 c)
   match (List.range b.size).find? fun i => b[i]! == c with
   | some i => pure (goInt i)
   | none => pure (goInt (-1)) : Sem Value).run Tryz.prog w = _
  simp only [Extern.Bytes.bytesOf,Extern.Bytes.asByte,Sem.run_bind,Sem.run_pure,Result.andThen_ok]
  cases (List.range s.size).find? (fun i => s[i]! == c.toNat.toUInt8) <;> rfl
theorem cmp_nat (s t : ByteArray) : ∃ r, isN r ∧ NatOk Tryz.prog 198 [str s, str t] r :=
 ⟨_, ⟨_, rfl⟩, natOk_of (P := Tryz.prog) (fn := Tryz.f198) (ext := Extern.BytealgCompare.compare) Tryz.func198 (by kernel_rfl) rfl (by kernel_rfl) (by kernel_rfl) (l := [.string s, .string t]) rfl fun w => rfl⟩
theorem idxStr_nat (hG : Glob.g = some 0) (s t : ByteArray) (h2 : 2 ≤ t.size) (hc : cmpG t.size = true) (hs : s.size < 4294967281) : ∃ r, isN r ∧ NatOk Tryz.prog 204 [str s, str t] r := by
 obtain ⟨v, hv⟩ : ∃ v : V, v = (match (List.range (s.size + 1 - t.size)).find? fun i => s.extract i (i + t.size) == t with | some i => num i | none => num (-1)) := ⟨_, rfl⟩
 refine ⟨v, ?_, natS_ok hG 204 _ _ ?_⟩
 ·rw [hv]
  cases (List.range (s.size + 1 - t.size)).find? (fun i => s.extract i (i + t.size) == t) <;> exact ⟨_, rfl⟩
 ·unfold natS
  rw [if_pos rfl]
  simp only [idxStr]
  rw [if_pos ⟨h2, hc, hs⟩, hv]
  cases (List.range (s.size + 1 - t.size)).find? (fun i => s.extract i (i + t.size) == t) <;> rfl
end Go.Proofs.YtpjdfcigadnhcaaGreatDoor
end

section
namespace Go.Proofs.YtpjdfcigadnhcaaGreatDoor
open Go.Eng
open Nat (reduceAdd reduceLT reduceLeDiff reduceMul reduceEqDiff reduceSub)
variable [Glob]
set_option maxHeartbeats 4000000
set_option maxRecDepth 100000
attribute [local irreducible] runM stepM valD stepOp stepD callF
theorem hdiv (i : Int) (h : 0 < i) : (i.fdiv (2 ^ min (1 : Int).toNat IntKind.i64.bits)).toNat < i.toNat := by
 have e : (2 : Int) ^ min (1 : Int).toNat IntKind.i64.bits = 2 := by decide
 rw [e, Int.fdiv_eq_ediv_of_nonneg _ (by omega)]
 omega
theorem indexByte_tot (s : ByteArray) (c : Int) : ∃ r, (fun v => ∃ o : Int, v = num o ∧ -1 ≤ o ∧ o < s.size) r ∧ FnOk Tryz.prog 203 [str s, .sc (.int .u8 c)] r := by
 refine fn_ex tt_ok (fn := Tryz.f203) Tryz.func203 rfl Tryz.call203 ?_
 simp only [ltb,startSt,Tryz.ntmps203,List.length_cons,List.length_nil,reduceAdd,reduceSub,List.replicate_succ,List.replicate_zero]
 refine ex_region_w tt_ok 8 [0,0,0,0,2] [] rfl rfl fun K hK => ?_
 simp only [ltb,go_sem]
 refine hK _ _ rfl ?_
 simp only [mwb,reduceAdd]
 refine ex_region_w tt_ok 8 [0,0,0,0,2,1,1,1] [] rfl rfl fun K hK => ?_
 refine runX_cut 3 fun K1 hK1 => ?_
 simp only [ltb,go_sem,reduceLT,reduceEqDiff]
 refine callF_nat (idxByte_nat _ _) ?_
 rintro _ ⟨o, rfl, hl, hu⟩
 try simp only [go_sem]
 refine hK1 _ ?_
 simp only [ltb,go_sem,reduceLT,reduceEqDiff]
 refine hK _ _ rfl ?_
 simp only [mwb,reduceAdd,reduceEqDiff]
 exact ex_ret ⟨.inl rfl, _, ⟨o, rfl, hl, hu⟩, rfl⟩
theorem cutover_tot (n : Int) : ∃ r, isN r ∧ FnOk Tryz.prog 205 [num n] r := by
 refine fn_ex tt_ok (fn := Tryz.f205) Tryz.func205 rfl Tryz.call205 ?_
 simp only [ltb,startSt,Tryz.ntmps205,List.length_cons,List.length_nil,reduceAdd,reduceSub,List.replicate_succ,List.replicate_zero]
 have e8 := fun x y a => ev_quo Tryz.prog 3 x y .i64 a 8 (by omega)
 refine ex_region_w tt_ok 6 [0,0,2] [] rfl rfl fun K hK => ?_
 simp only [ltb,go_sem]
 refine hK _ _ rfl ?_
 simp only [mwb,reduceAdd]
 refine ex_region_w tt_ok 6 [0,0,2,1,1,1] [] rfl rfl fun K hK => ?_
 try simp only [ltb]
 simp only [e8,go_sem,reduceLT,reduceEqDiff]
 refine hK _ _ rfl ?_
 simp only [mwb,reduceAdd,reduceEqDiff]
 exact ex_ret ⟨.inl rfl, _, ⟨_, rfl⟩, rfl⟩
theorem hashStr_tot (s : ByteArray) (hs : s.size ≤ 1048576) : ∃ r, (fun v => ∃ a b : Int, v = .tup [u32 a, u32 b]) r ∧ FnOk Tryz.prog 214 [str s] r := by
 refine fn_ex tt_ok (fn := Tryz.f214) Tryz.func214 rfl Tryz.call214 ?_
 simp only [ltb,startSt,Tryz.ntmps214,List.length_cons,List.length_nil,reduceAdd,reduceSub,List.replicate_succ,List.replicate_zero]
 have hT9 : Tryz.prog.underlying 9 = some .string := by kernel_rfl
 have sl : ∀ (a : ByteArray) (ty : TypeId), liftL Tryz.prog (Builtin.len_ #[9] ty) [.sc (.string a)] = some (num a.size) := fun a ty => ev_slen (P := Tryz.prog) (tt := tt) (T := 9) a hT9 ty
 have hT5 : Tryz.prog.underlying 5 = some (.int .u8) := by kernel_rfl
 have hT160 : Tryz.prog.underlying 160 = some (.int .u32) := by kernel_rfl
 have cv := fun (k : IntKind) (n : Int) => ev_conv (P := Tryz.prog) (src := 5) (dst := 160) hT5 hT160 k n
 have ea := fun x y a => ev_and Tryz.prog 3 x y .i64 a 1
 have es := fun x y a => ev_shr Tryz.prog 3 x y .i64 .i64 a 1 (by omega)
 refine ex_region_w tt_ok 39 [0,0,2,2] [] rfl rfl fun K hK => ?_
 simp only [ltb,go_sem]
 refine hK _ _ rfl ?_
 simp only [mwb,reduceAdd,reduceEqDiff]
 refine ex_region_w tt_ok 39 [0,0,0,0,2] [] rfl rfl fun K hK => ?_
 simp only [ltb,go_sem]
 refine hK _ _ rfl ?_
 simp only [mwb,reduceAdd]
 refine ex_seq ?_
 refine ex_region_w tt_ok 39 [0,0,0,0,0,2] [] rfl rfl fun K hK => ?_
 simp only [ltb,go_sem]
 refine hK _ _ rfl ?_
 simp only [mwb,reduceAdd]
 refine ex_block ?_
 refine ex_loopK [5,4] [num 0, u32 0] 0 [true,false,true,true,true,true] (fun vs => ((s.size : Int) - intOf (vs.headD .undef)).toNat) (fun vs => ∃ (i : Nat) (h : Int), vs = [num i, u32 h] ∧ i ≤ s.size) (by omega) (by simp only [maskFr,belowV,mkb]) (by simp only [List.all_nil,List.take_nil]) (by rfl) (⟨0, 0, rfl, by omega⟩) fun vs hI => ?_
 obtain ⟨i, h, rfl, hi⟩ := hI
 simp only [maskFr,putAll,List.set_cons_zero,List.set_cons_succ,mkb]
 refine ex_seq ?_
 refine ex_region_w tt_ok 39 (rp 9 0 [1,1,1,2]) [] rfl rfl fun K hK => ?_
 try simp only [ltb]
 simp only [sl,go_sem,reduceLT,reduceEqDiff,reduceCtorEq]
 refine hK _ _ rfl ?_
 simp only [mwb,reduceAdd,reduceEqDiff]
 refine ex_if rfl (fun hc12 => ?_) (fun hc12 => ?_)
 ·have hlti : i < s.size := by simpa using hc12
  have hw := i64_succ i (by omega)
  refine ex_skip ?_
  show Go.Eng.Ex _ _ _ _ _ _
  refine ex_seq ?_
  refine ex_block ?_
  refine ex_last_region_w tt_ok 39 [0,0,0,0,2,0,0,0,0,0,0,0,0,0,0,2,2,2,2,2,2,2] [] (by kernel_rfl) rfl rfl fun K hK => ?_
  refine runX_cut 4 fun K1 hK1 => ?_
  simp only [ltb,go_sem,reduceLT,reduceEqDiff,reduceCtorEq]
  refine hK1 _ ?_
  obtain ⟨c, hcb⟩ := get_byte (s := s) (i := i) hlti
  have hix := ev_index (P := Tryz.prog) s hT9 .i64 (i : Int) (by omega) (c := c) (show s[((i : Nat) : Int).toNat]? = some c from hcb)
  try simp only [ltb]
  simp only [hix,cv,go_sem,reduceLT,reduceEqDiff]
  refine hK _ _ rfl ?_
  simp only [mwb,reduceAdd,reduceEqDiff]
  show Go.Eng.Ex _ _ _ _ _ _
  refine ex_last_region_w tt_ok 39 [0,0,0,0,0,2,0,0,0,0,0,0,0,2,2] [] (by kernel_rfl) rfl rfl fun K hK => ?_
  try simp only [ltb]
  simp only [hw,go_sem,reduceLT,reduceEqDiff]
  refine hK _ _ rfl ?_
  simp only [mwb,reduceAdd,reduceEqDiff]
  refine ⟨[_, _], ?_, ?_, 0, [true,false,true,true,true,true], by omega, by simp only [maskFr,belowV,mkb], by simp only [List.all_nil,List.take_nil], by simp only [maskFr,putAll,List.set_cons_zero,List.set_cons_succ,mkb]; rfl⟩
  ·exact ⟨i + 1, _, rfl, by omega⟩
  ·simp only [intOf,List.headD_cons]; omega
 ·refine ex_exit ?_
  show Go.Eng.Ex _ _ _ _ _ _
  refine ex_region_w tt_ok 39 [0,0,0,0,0,0,2,2] [] rfl rfl fun K hK => ?_
  simp only [ltb,go_sem]
  refine hK _ _ rfl ?_
  simp only [mwb,reduceAdd,reduceEqDiff]
  refine ex_seq ?_
  refine ex_region_w tt_ok 39 (rp 8 0 (2::(rp 13 0 [1,1]))) [] rfl rfl fun K hK => ?_
  try simp only [ltb]
  simp only [sl,go_sem,reduceLT,reduceEqDiff]
  refine hK _ _ rfl ?_
  simp only [mwb,reduceAdd,reduceEqDiff]
  refine ex_block ?_
  refine ex_loopK [8,6,7] [num s.size, u32 1, u32 16777619] 0 [false,false,true,true,true,false,true,true,true,false,false,false,true] (fun vs => (intOf (vs.headD .undef)).toNat) (fun vs => ∃ (i : Int) (h g : Int), vs = [num i, u32 h, u32 g] ∧ 0 ≤ i) (by omega) (by simp only [maskFr,belowV,mkb]) (by simp only [List.all_nil,List.take_nil]) (by rfl) (⟨_, _, _, rfl, by omega⟩) fun vs hI => ?_
  obtain ⟨i, h, g, rfl, hi⟩ := hI
  simp only [maskFr,putAll,List.set_cons_zero,List.set_cons_succ,mkb]
  refine ex_seq ?_
  refine ex_region_w tt_ok 39 (rp 24 0 [1,2]) [] rfl rfl fun K hK => ?_
  simp only [ltb,go_sem,reduceLT]
  refine hK _ _ rfl ?_
  simp only [mwb,reduceAdd,reduceEqDiff]
  refine ex_if rfl (fun hc25 => ?_) (fun hc25 => ?_)
  ·refine ex_skip ?_
   show Go.Eng.Ex _ _ _ _ _ _
   refine ex_seq ?_
   refine ex_block ?_
   refine ex_seq ?_
   refine ex_region_w tt_ok 39 (rp 28 0 [1,1,2]) [] rfl rfl fun K hK => ?_
   try simp only [ltb]
   simp only [ea,go_sem,reduceLT,reduceEqDiff]
   refine hK _ _ rfl ?_
   simp only [mwb,reduceAdd,reduceEqDiff]
   refine ex_if rfl (fun hc30 => ?_) (fun hc30 => ?_)
   ·refine ex_last_region_w tt_ok 39 (0::0::0::0::0::0::2::(rp 24 0 [2,2,2])) [] (by kernel_rfl) rfl rfl fun K hK => ?_
    simp only [ltb,go_sem,reduceLT,reduceEqDiff]
    refine hK _ _ rfl ?_
    simp only [mwb,reduceAdd,reduceEqDiff]
    show Go.Eng.Ex _ _ _ _ _ _
    refine ex_last_region_w tt_ok 39 (0::0::0::0::0::0::0::2::(rp 26 0 [2,2,2])) [] (by kernel_rfl) rfl rfl fun K hK => ?_
    simp only [ltb,go_sem,reduceLT,reduceEqDiff]
    refine hK _ _ rfl ?_
    simp only [mwb,reduceAdd,reduceEqDiff]
    show Go.Eng.Ex _ _ _ _ _ _
    refine ex_last_region_w tt_ok 39 (rp 8 0 (2::(rp 17 0 [2,2]))) [] (by kernel_rfl) rfl rfl fun K hK => ?_
    simp only [ltb,go_sem,reduceLT,reduceEqDiff]
    refine hK _ _ rfl ?_
    simp only [mwb,reduceAdd,reduceEqDiff]
    refine ⟨[_, _, _], ?_, ?_, 0, [false,false,true,true,true,false,true,true,true,false,false,false,true], by omega, by simp only [absV,maskFr,belowV,mkb], by simp only [List.all_nil,List.take_nil], by simp only [absV,maskFr,putAll,List.set_cons_zero,List.set_cons_succ,mkb]; rfl⟩
    ·exact ⟨_, _, _, rfl, Int.fdiv_nonneg hi (by decide)⟩
    ·simp only [intOf,List.headD_cons]; exact hdiv i (by simpa using hc25)
   ·refine ex_skip ?_
    show Go.Eng.Ex _ _ _ _ _ _
    refine ex_last_region_w tt_ok 39 (0::0::0::0::0::0::0::2::(rp 26 0 [2,2,2])) [] (by kernel_rfl) rfl rfl fun K hK => ?_
    simp only [ltb,go_sem,reduceLT,reduceEqDiff]
    refine hK _ _ rfl ?_
    simp only [mwb,reduceAdd,reduceEqDiff]
    show Go.Eng.Ex _ _ _ _ _ _
    refine ex_last_region_w tt_ok 39 (rp 8 0 (2::(rp 17 0 [2,2]))) [] (by kernel_rfl) rfl rfl fun K hK => ?_
    simp only [ltb,go_sem,reduceLT,reduceEqDiff]
    refine hK _ _ rfl ?_
    simp only [mwb,reduceAdd,reduceEqDiff]
    refine ⟨[_, _, _], ?_, ?_, 0, [false,false,true,true,true,false,true,true,true,false,false,false,true], by omega, by simp only [absV,maskFr,belowV,mkb], by simp only [List.all_nil,List.take_nil], by simp only [absV,maskFr,putAll,List.set_cons_zero,List.set_cons_succ,mkb]; rfl⟩
    ·exact ⟨_, _, _, rfl, Int.fdiv_nonneg hi (by decide)⟩
    ·simp only [intOf,List.headD_cons]; exact hdiv i (by simpa using hc25)
  ·refine ex_exit ?_
   show Go.Eng.Ex _ _ _ _ _ _
   refine ex_region_w tt_ok 39 (0::0::2::2::(rp 33 0 [1,1])) [] rfl rfl fun K hK => ?_
   simp only [ltb,go_sem,reduceLT,reduceEqDiff]
   refine hK _ _ rfl ?_
   simp only [mwb,reduceAdd,reduceEqDiff]
   exact ex_ret ⟨.inl rfl, _, ⟨_, _, rfl⟩, rfl⟩
end Go.Proofs.YtpjdfcigadnhcaaGreatDoor
end

section
namespace Go.Proofs.YtpjdfcigadnhcaaGreatDoor
open Go.Eng
open Nat (reduceAdd reduceLT reduceLeDiff reduceMul reduceEqDiff reduceSub)
variable [Glob]
set_option maxHeartbeats 4000000
set_option maxRecDepth 100000
attribute [local irreducible] runM stepM valD stepOp stepD callF
theorem size_ext {s : ByteArray} {a b : Nat} : (s.extract a b).size = min b s.size - a := by simp [ByteArray.size_extract]
theorem rk_tot (s t : ByteArray) (hs : s.size ≤ 1048576) (ht : t.size ≤ 1048576) (hts : t.size ≤ s.size) : ∃ r, isN r ∧ FnOk Tryz.prog 206 [str s, str t] r := by
 obtain ⟨_, ⟨a, b, rfl⟩, h⟩ := hashStr_tot t ht
 exact ⟨_, ⟨_, rfl⟩, rk_ok s t a b h hts (by omega)⟩
theorem index_tot (hG : Glob.g = some 0) (s t : ByteArray) (hs : s.size ≤ 1048576) (ht : t.size ≤ 1048576) : ∃ r, isN r ∧ FnOk Tryz.prog 199 [str s, str t] r := by
 refine fn_ex tt_ok (fn := Tryz.f199) Tryz.func199 rfl Tryz.call199 ?_
 simp only [ltb,startSt,Tryz.ntmps199,List.length_cons,List.length_nil,reduceAdd,reduceSub,List.replicate_succ,List.replicate_zero]
 have hT9 : Tryz.prog.underlying 9 = some .string := by kernel_rfl
 have sl : ∀ (a : ByteArray) (ty : TypeId), liftL Tryz.prog (Builtin.len_ #[9] ty) [.sc (.string a)] = some (num a.size) := fun a ty => ev_slen (P := Tryz.prog) (tt := tt) (T := 9) a hT9 ty
 have e4 := fun x y a => ev_shr Tryz.prog 3 x y .i64 .i64 a 4 (by omega)
 obtain ⟨T, hT⟩ : ∃ T : Int, T = (s.size : Int) - (t.size : Int) + 1 := ⟨_, rfl⟩
 have hw1 : IntKind.i64.wrap ((s.size : Int) - (t.size : Int)) = (s.size : Int) - (t.size : Int) := IntWalk.i64_in _ (by omega)
 have hw2 : IntKind.i64.wrap ((s.size : Int) - (t.size : Int) + 1) = T := by rw [IntWalk.i64_in _ (by omega)]; exact hT.symm
 refine ex_region_w tt_ok 143 [0,0,0,0,2] [] rfl rfl fun K hK => ?_
 simp only [ltb,go_sem]
 refine hK _ _ rfl ?_
 simp only [mwb,reduceAdd]
 refine ex_region_w tt_ok 143 [0,0,0,0,0,2,0,0,0,0,0,0,0,0,1,1] [] rfl rfl fun K hK => ?_
 try simp only [ltb]
 simp only [sl,go_sem,reduceLT,reduceEqDiff]
 refine hK _ _ rfl ?_
 simp only [mwb,reduceAdd,reduceEqDiff]
 refine ex_seq_joinK [] 0 (true::true::false::false::false::true::(rp 8 false [true,true])) (fun vs => vs = [] ∧ 2 ≤ t.size ∧ t.size < s.size) ?_ ?_
 ·refine ex_block ?_
  refine ex_region_w tt_ok 143 (rp 16 0 [2,1,1,1,1,1,1,1]) [(2, 19)] rfl rfl fun K hK => ?_
  refine runX_cut 3 fun K1 hK1 => ?_
  simp only [ltb,go_sem,reduceLT,reduceEqDiff]
  refine hK1 _ ?_
  refine runX_case 19 (by rfl) fun b hb2_2 => ?_
  cases b
  ·have hz : t.size ≠ 0 := by have := of_decide_eq_false hb2_2; omega
   simp only [ltb,go_sem,reduceLT,reduceEqDiff,reduceCtorEq]
   refine hK _ _ rfl ?_
   simp only [mwb,reduceAdd,reduceEqDiff]
   refine ex_if rfl (fun hc16 => ?_) (fun hc16 => ?_)
   ·refine ex_region_w tt_ok 143 [0,0,0,0,2] [] rfl rfl fun K hK => ?_
    simp only [ltb,go_sem]
    refine hK _ _ rfl ?_
    simp only [mwb,reduceAdd]
    exact ex_ret ⟨.inl rfl, _, ⟨_, rfl⟩, rfl⟩
   ·refine ex_region_w tt_ok 143 (rp 24 0 [2,1,1]) [] rfl rfl fun K hK => ?_
    simp only [ltb,go_sem,reduceLT,reduceEqDiff]
    refine hK _ _ rfl ?_
    simp only [mwb,reduceAdd,reduceEqDiff]
    refine ex_if rfl (fun hc24 => ?_) (fun hc24 => ?_)
    ·have ht1 : t.size = 1 := by have := of_decide_eq_true hc24; omega
     obtain ⟨ct0, hcbt0⟩ := get_byte (s := t) (i := (0 : Int).toNat) (by omega)
     have hixt0 := ev_index (P := Tryz.prog) t hT9 .i64 (0) (by omega) (c := ct0) hcbt0
     refine ex_region_w tt_ok 143 (0::0::0::0::2::(rp 22 0 [1,1,1,1])) [] rfl rfl fun K hK => ?_
     refine runX_cut 4 fun K1 hK1 => ?_
     simp only [ltb]
     simp only [hixt0,go_sem,reduceLT,reduceEqDiff]
     refine callF_ex (indexByte_tot _ _) ?_
     rintro _ ⟨o, rfl, hol, hou⟩
     try simp only [go_sem]
     refine hK1 _ ?_
     simp only [ltb,go_sem,reduceLT,reduceEqDiff]
     refine hK _ _ rfl ?_
     simp only [mwb,reduceAdd,reduceEqDiff]
     exact ex_ret ⟨.inl rfl, _, ⟨_, rfl⟩, rfl⟩
    ·have ht1 : t.size ≠ 1 := by have := of_decide_eq_false hc24; omega
     have ht0 : t.size ≠ 0 := fun e => by subst_vars; simp [e] at *
     refine ex_region_w tt_ok 143 (rp 31 0 [2,1,1,1,1]) [] rfl rfl fun K hK => ?_
     try simp only [ltb]
     simp only [sl,go_sem,reduceLT,reduceEqDiff,reduceCtorEq]
     refine hK _ _ rfl ?_
     simp only [mwb,reduceAdd,reduceEqDiff]
     refine ex_if rfl (fun hc31 => ?_) (fun hc31 => ?_)
     ·refine ex_region_w tt_ok 143 [0,0,0,0,2] [] rfl rfl fun K hK => ?_
      simp only [ltb,go_sem]
      refine hK _ _ rfl ?_
      simp only [mwb,reduceAdd]
      exact ex_ret ⟨.inl rfl, _, ⟨_, rfl⟩, rfl⟩
     ·have htls : t.size < s.size := by have := of_decide_eq_false hc31; omega
      have ht2 : 2 ≤ t.size := by omega
      refine ex_region_w tt_ok 143 (rp 36 0 (2::(rp 8 1 []))) [(3, 40)] rfl rfl fun K hK => ?_
      refine runX_cut 4 fun K1 hK1 => ?_
      simp only [ltb]
      simp only [hG,go_sem,reduceLT,reduceEqDiff]
      refine hK1 _ ?_
      refine runX_case 40 (by rfl) fun b hb8_3 => ?_
      cases b
      ·simp only [ltb,go_sem,reduceLT,reduceEqDiff]
       refine hK _ _ rfl ?_
       simp only [mwb,reduceAdd,reduceEqDiff]
       refine ex_cond rfl ?_
       refine ex_skip ?_
       refine ⟨[], ?_, 0, (true::true::false::false::false::true::(rp 8 false [true,true])), by omega, by simp only [maskFr,belowV,mkb], by simp only [List.all_nil,List.take_nil], by simp only [maskFr,putAll,mkb]⟩
       exact ⟨rfl, ht2, htls⟩
      ·try simp only [ltb]
       simp only [sl,go_sem,reduceLT,reduceEqDiff,reduceCtorEq]
       refine hK _ _ rfl ?_
       simp only [mwb,reduceAdd,reduceEqDiff]
       refine ex_if rfl (fun hc36 => ?_) (fun hc36 => ?_)
       ·refine ex_region_w tt_ok 143 (0::0::0::0::2::(rp 40 0 [1,1,1])) [] rfl rfl fun K hK => ?_
        refine runX_cut 3 fun K1 hK1 => ?_
        simp only [ltb,go_sem,reduceLT,reduceEqDiff]
        refine callF_nat (idxStr_nat hG _ _ ht2 hb8_3 (by omega)) ?_
        rintro _ ⟨r2, rfl⟩
        try simp only [go_sem]
        refine hK1 _ ?_
        simp only [ltb,go_sem,reduceLT,reduceEqDiff]
        refine hK _ _ rfl ?_
        simp only [mwb,reduceAdd,reduceEqDiff]
        exact ex_ret ⟨.inl rfl, _, ⟨_, rfl⟩, rfl⟩
       ·refine ex_skip ?_
        refine ⟨[], ?_, 0, (true::true::false::false::false::true::(rp 8 false [true,true])), by omega, by simp only [maskFr,belowV,mkb], by simp only [List.all_nil,List.take_nil], by simp only [maskFr,putAll,mkb]⟩
        exact ⟨rfl, ht2, htls⟩
  ·simp only [ltb,go_sem,reduceLT,reduceEqDiff]
   refine hK _ _ rfl ?_
   simp only [mwb,reduceAdd,reduceEqDiff]
   refine ex_cond rfl ?_
   refine ex_region_w tt_ok 143 [0,0,0,0,2] [] rfl rfl fun K hK => ?_
   simp only [ltb,go_sem]
   refine hK _ _ rfl ?_
   simp only [mwb,reduceAdd]
   exact ex_ret ⟨.inl rfl, _, ⟨_, rfl⟩, rfl⟩
 ·intro vs hJ
  obtain ⟨rfl, ht2, htls⟩ := hJ
  simp only [maskFr,putAll,mkb]
  obtain ⟨ct0, hcbt0⟩ := get_byte (s := t) (i := (0 : Int).toNat) (by omega)
  have hixt0 := ev_index (P := Tryz.prog) t hT9 .i64 (0) (by omega) (c := ct0) hcbt0
  refine ex_region_w tt_ok 143 (0::0::0::0::0::0::2::(rp 41 0 [1,1])) [] rfl rfl fun K hK => ?_
  try simp only [ltb]
  simp only [hixt0,go_sem,reduceLT,reduceEqDiff]
  refine hK _ _ rfl ?_
  simp only [mwb,reduceAdd,reduceEqDiff]
  obtain ⟨ct1, hcbt1⟩ := get_byte (s := t) (i := (1 : Int).toNat) (by omega)
  have hixt1 := ev_index (P := Tryz.prog) t hT9 .i64 (1) (by omega) (c := ct1) hcbt1
  refine ex_region_w tt_ok 143 (0::0::0::0::0::0::0::2::(rp 42 0 [1,1])) [] rfl rfl fun K hK => ?_
  try simp only [ltb]
  simp only [hixt1,go_sem,reduceLT,reduceEqDiff]
  refine hK _ _ rfl ?_
  simp only [mwb,reduceAdd,reduceEqDiff]
  refine ex_region_w tt_ok 143 (rp 8 0 [2]) [] rfl rfl fun K hK => ?_
  simp only [ltb,go_sem]
  refine hK _ _ rfl ?_
  simp only [mwb,reduceAdd]
  refine ex_region_w tt_ok 143 (rp 9 0 (2::(rp 42 0 [1,1,1,1,1]))) [] rfl rfl fun K hK => ?_
  try simp only [ltb]
  simp only [sl,hw1,hw2,go_sem,reduceLT,reduceEqDiff]
  refine hK _ _ rfl ?_
  simp only [mwb,reduceAdd,reduceEqDiff]
  refine ex_region_w tt_ok 143 (rp 10 0 [2]) [] rfl rfl fun K hK => ?_
  simp only [ltb,go_sem]
  refine hK _ _ rfl ?_
  simp only [mwb,reduceAdd]
  refine ex_seq ?_
  refine ex_block ?_
  refine ex_loopK [8,10] [num 0, num 0] 0 [true,true,false,false,true,true,true,true,true,true,true,false,false,false,false,false,true,false,false,false,false,false,false,false,true,false,false,false,false,false,false,true,false,false,false,false,true] (fun vs => (T - intOf (vs.headD .undef)).toNat) (fun vs => ∃ i f : Int, vs = [num i, num f] ∧ 0 ≤ i ∧ i ≤ T ∧ 0 ≤ f ∧ f ≤ i) (by omega) (by simp only [maskFr,belowV,mkb]) (by simp only [List.all_nil,List.take_nil]) (by rfl) (⟨0, 0, rfl, by omega, by omega, by omega, by omega⟩) fun vs hI => ?_
  obtain ⟨i, f, rfl, hi0, hiT, hf0, hfi⟩ := hI
  simp only [maskFr,putAll,List.set_cons_zero,List.set_cons_succ,mkb]
  refine ex_seq ?_
  refine ex_region_w tt_ok 143 (rp 57 0 [1,1,2]) [] rfl rfl fun K hK => ?_
  simp only [ltb,go_sem,reduceLT,reduceEqDiff]
  refine hK _ _ rfl ?_
  simp only [mwb,reduceAdd,reduceEqDiff]
  refine ex_if rfl (fun hc59 => ?_) (fun hc59 => ?_)
  ·have hlt : i < T := by simpa using hc59
   obtain ⟨cs0, hcbs0⟩ := get_byte (s := s) (i := (i : Int).toNat) (by omega)
   have hixs0 := ev_index (P := Tryz.prog) s hT9 .i64 (i) (by omega) (c := cs0) hcbs0
   refine ex_skip ?_
   show Go.Eng.Ex _ _ _ _ _ _
   refine ex_block ?_
   refine ex_seq_joinK [8] 0 (true::true::false::false::false::true::true::true::true::true::true::false::false::false::(rp 46 true [])) (fun vs => ∃ j : Int, vs = [num j] ∧ i ≤ j ∧ j < T) ?_ ?_
   ·refine ex_region_w tt_ok 143 (rp 60 0 [1,1,1,1,2]) [] rfl rfl fun K hK => ?_
    try simp only [ltb]
    simp only [hixs0,go_sem,reduceLT,reduceEqDiff]
    refine hK _ _ rfl ?_
    simp only [mwb,reduceAdd,reduceEqDiff]
    refine ex_if rfl (fun hc64 => ?_) (fun hc64 => ?_)
    ·have hwi : IntKind.i64.wrap (i + 1) = i + 1 := IntWalk.i64_in _ (by omega)
     have hcm : lift2 Tryz.prog (fun a l => Instr.sliceAt 9 a (some l) (some (.int .i64 (T))) none) (.sc (.string s)) (.sc (.int .i64 (i + 1))) = some (.sc (.string (s.extract (i + 1 : Int).toNat (T : Int).toNat))) := ev_cutmid (P := Tryz.prog) (tt := tt) (mem := []) (T := 9) s hT9 .i64 .i64 (i + 1) (T) (by omega) (by omega) (by omega)
     refine ex_region_w tt_ok 143 (rp 11 0 (2::(rp 53 0 [1,1,1,1,1,1,1]))) [] rfl rfl fun K hK => ?_
     refine runX_cut 7 fun K1 hK1 => ?_
     simp only [ltb]
     simp only [hwi,hcm,toVal,go_sem,reduceLT,reduceEqDiff]
     refine callF_ex (indexByte_tot _ _) ?_
     rintro _ ⟨o, rfl, hol, hou⟩
     try simp only [go_sem]
     have hox : o < T - (i + 1) := by have := size_ext (s := s) (a := (i + 1 : Int).toNat) (b := T.toNat); omega
     refine hK1 _ ?_
     simp only [ltb,go_sem,reduceLT,reduceEqDiff]
     refine hK _ _ rfl ?_
     simp only [mwb,reduceAdd,reduceEqDiff]
     refine ex_seq ?_
     refine ex_region_w tt_ok 143 (rp 72 0 [1,2]) [] rfl rfl fun K hK => ?_
     simp only [ltb,go_sem,reduceLT]
     refine hK _ _ rfl ?_
     simp only [mwb,reduceAdd,reduceEqDiff]
     refine ex_if rfl (fun hc73 => ?_) (fun hc73 => ?_)
     ·refine ex_region_w tt_ok 143 [0,0,0,0,2] [] rfl rfl fun K hK => ?_
      simp only [ltb,go_sem]
      refine hK _ _ rfl ?_
      simp only [mwb,reduceAdd]
      exact ex_ret ⟨.inl rfl, _, ⟨_, rfl⟩, rfl⟩
     ·have ho0 : 0 ≤ o := by have := of_decide_eq_false hc73; omega
      obtain ⟨j, hj⟩ : ∃ j : Int, j = i + (o + 1) := ⟨_, rfl⟩
      have hwo : IntKind.i64.wrap (o + 1) = o + 1 := IntWalk.i64_in _ (by omega)
      have hwj : IntKind.i64.wrap (i + (o + 1)) = j := by rw [IntWalk.i64_in _ (by omega)]; exact hj.symm
      have hj0 : i ≤ j := by omega
      have hjT : j < T := by omega
      refine ex_skip ?_
      show Go.Eng.Ex _ _ _ _ _ _
      refine ex_last_region_w tt_ok 143 (rp 8 0 (2::(rp 65 0 [2,2,2,2]))) [] (by kernel_rfl) rfl rfl fun K hK => ?_
      try simp only [ltb]
      simp only [hwo,hwj,go_sem,reduceLT,reduceEqDiff]
      refine hK _ _ rfl ?_
      simp only [mwb,reduceAdd,reduceEqDiff]
      refine ⟨[_], ?_, 0, (true::true::false::false::false::true::true::true::true::true::true::false::false::false::(rp 46 true [])), by omega, by simp only [maskFr,belowV,mkb], by simp only [List.all_nil,List.take_nil], by simp only [maskFr,putAll,List.set_cons_zero,List.set_cons_succ,mkb]; rfl⟩
      exact ⟨j, by rw [hj], by omega, hjT⟩
    ·obtain ⟨j, hj⟩ : ∃ j : Int, j = i := ⟨i, rfl⟩
     have hjT : j < T := by omega
     refine ex_skip ?_
     refine ⟨[_], ?_, 0, (true::true::false::false::false::true::true::true::true::true::true::false::false::false::(rp 46 true [])), by omega, by simp only [maskFr,belowV,mkb], by simp only [List.all_nil,List.take_nil], by simp only [maskFr,putAll,List.set_cons_zero,List.set_cons_succ,mkb]; rfl⟩
     exact ⟨j, by rw [hj], by omega, hjT⟩
   ·intro vs hJ
    obtain ⟨j, rfl, hj0, hjT⟩ := hJ
    simp only [maskFr,putAll,List.set_cons_zero,List.set_cons_succ,mkb]
    refine ex_seq ?_
    have hwj1 : IntKind.i64.wrap (j + 1) = j + 1 := IntWalk.i64_in _ (by omega)
    have hwjn : IntKind.i64.wrap (j + (t.size : Int)) = j + (t.size : Int) := IntWalk.i64_in _ (by omega)
    obtain ⟨cs1, hcbs1⟩ := get_byte (s := s) (i := (j + 1 : Int).toNat) (by omega)
    have hixs1 := ev_index (P := Tryz.prog) s hT9 .i64 (j + 1) (by omega) (c := cs1) hcbs1
    have hcm1 : lift2 Tryz.prog (fun a l => Instr.sliceAt 9 a (some l) (some (.int .i64 (j + (t.size : Int)))) none) (.sc (.string s)) (.sc (.int .i64 (j))) = some (.sc (.string (s.extract (j : Int).toNat (j + (t.size : Int) : Int).toNat))) := ev_cutmid (P := Tryz.prog) (tt := tt) (mem := []) (T := 9) s hT9 .i64 .i64 (j) (j + (t.size : Int)) (by omega) (by omega) (by omega)
    have hcf1 : lift2 Tryz.prog (fun a l => Instr.sliceAt 9 a (some l) none none) (.sc (.string s)) (.sc (.int .i64 (j + 1))) = some (.sc (.string (s.extract (j + 1 : Int).toNat s.size))) := ev_cutfrom (P := Tryz.prog) (tt := tt) (mem := []) (T := 9) s hT9 .i64 (j + 1) (by omega) (by omega)
    have hwf : IntKind.i64.wrap (f + 1) = f + 1 := IntWalk.i64_in _ (by omega)
    refine ex_region_w tt_ok 143 (rp 78 0 (rp 15 1 [2])) [(6, 84)] rfl rfl fun K hK => ?_
    refine runX_cut 7 fun K1 hK1 => ?_
    simp only [ltb]
    simp only [hwj1,hixs1,go_sem,reduceLT,reduceEqDiff]
    refine hK1 _ ?_
    refine runX_case 84 (by rfl) fun b hb21_6 => ?_
    cases b
    ·refine runX_cut 8 fun K1 hK1 => ?_
     simp only [ltb,go_sem,reduceLT,reduceEqDiff]
     refine hK1 _ ?_
     simp only [ltb,go_sem,reduceLT,reduceEqDiff]
     refine hK _ _ rfl ?_
     simp only [mwb,reduceAdd,reduceEqDiff]
     refine ex_cond rfl ?_
     refine ex_skip ?_
     show Go.Eng.Ex _ _ _ _ _ _
     refine ex_region_w tt_ok 143 (rp 8 0 (2::(rp 86 0 [1,1]))) [] rfl rfl fun K hK => ?_
     try simp only [ltb]
     simp only [hwj1,go_sem,reduceLT,reduceEqDiff]
     refine hK _ _ rfl ?_
     simp only [mwb,reduceAdd,reduceEqDiff]
     refine ex_region_w tt_ok 143 (rp 10 0 (2::(rp 86 0 [1,1]))) [] rfl rfl fun K hK => ?_
     try simp only [ltb]
     simp only [hwf,go_sem,reduceLT,reduceEqDiff]
     refine hK _ _ rfl ?_
     simp only [mwb,reduceAdd,reduceEqDiff]
     refine ex_region_w tt_ok 143 (rp 99 0 (rp 8 1 [2])) [(3, 102)] rfl rfl fun K hK => ?_
     refine runX_cut 4 fun K1 hK1 => ?_
     simp only [ltb]
     simp only [hG,go_sem,reduceLT,reduceEqDiff]
     refine hK1 _ ?_
     refine runX_case 102 (by rfl) fun b hb25_3 => ?_
     cases b
     ·simp only [ltb,go_sem,reduceLT,reduceEqDiff]
      refine hK _ _ rfl ?_
      simp only [mwb,reduceAdd,reduceEqDiff]
      refine ex_cond rfl ?_
      refine ex_region_w tt_ok 143 (rp 118 0 (rp 14 1 [2])) [(3, 121), (10, 128)] rfl rfl fun K hK => ?_
      refine runX_cut 4 fun K1 hK1 => ?_
      simp only [ltb]
      simp only [hG,go_sem,reduceLT,reduceEqDiff]
      refine hK1 _ ?_
      refine runX_case 121 (by rfl) fun b hb30_3 => ?_
      cases b
      ·refine runX_cut 8 fun K1 hK1 => ?_
       simp only [ltb,go_sem,reduceLT,reduceEqDiff]
       refine hK1 _ ?_
       simp only [ltb,go_sem,reduceLT,reduceEqDiff]
       refine hK _ _ rfl ?_
       simp only [mwb,reduceAdd,reduceEqDiff]
       refine ex_cond rfl ?_
       refine ex_skip ?_
       refine ⟨[_, _], ?_, ?_, 0, [true,true,false,false,true,true,true,true,true,true,true,false,false,false,false,false,true,false,false,false,false,false,false,false,true,false,false,false,false,false,false,true,false,false,false,false,true], by omega, by simp only [maskFr,belowV,mkb], by simp only [List.all_nil,List.take_nil], by simp only [maskFr,putAll,List.set_cons_zero,List.set_cons_succ,mkb]; rfl⟩
       ·exact ⟨j + 1, f + 1, rfl, by omega, by omega, by omega, by omega⟩
       ·simp only [intOf,List.headD_cons]; omega
      ·refine runX_cut 7 fun K1 hK1 => ?_
       simp only [ltb,go_sem,reduceLT,reduceEqDiff]
       refine hK1 _ ?_
       refine runX_case 128 (by rfl) fun b hb30_10 => ?_
       cases b
       ·simp only [ltb,go_sem,reduceLT,reduceEqDiff]
        refine hK _ _ rfl ?_
        simp only [mwb,reduceAdd,reduceEqDiff]
        refine ex_cond rfl ?_
        refine ex_skip ?_
        refine ⟨[_, _], ?_, ?_, 0, [true,true,false,false,true,true,true,true,true,true,true,false,false,false,false,false,true,false,false,false,false,false,false,false,true,false,false,false,false,false,false,true,false,false,false,false,true], by omega, by simp only [maskFr,belowV,mkb], by simp only [List.all_nil,List.take_nil], by simp only [maskFr,putAll,List.set_cons_zero,List.set_cons_succ,mkb]; rfl⟩
        ·exact ⟨j + 1, f + 1, rfl, by omega, by omega, by omega, by omega⟩
        ·simp only [intOf,List.headD_cons]; omega
       ·simp only [ltb,go_sem,reduceLT,reduceEqDiff]
        refine hK _ _ rfl ?_
        simp only [mwb,reduceAdd,reduceEqDiff]
        refine ex_if rfl (fun hc132 => ?_) (fun hc132 => ?_)
        ·have hlast : j + 1 < T := by simpa using hc132
         refine ex_region_w tt_ok 143 (rp 13 0 (2::(rp 119 0 [1,1,1,1,1]))) [] rfl rfl fun K hK => ?_
         refine runX_cut 5 fun K1 hK1 => ?_
         simp only [ltb]
         simp only [hcf1,go_sem,reduceLT,reduceEqDiff]
         refine callF_ex (rk_tot _ _ (by have := size_ext (s := s) (a := (j + 1 : Int).toNat) (b := s.size); omega) ht (by have := size_ext (s := s) (a := (j + 1 : Int).toNat) (b := s.size); omega)) ?_
         rintro _ ⟨r4, rfl⟩
         try simp only [go_sem]
         refine hK1 _ ?_
         simp only [ltb,go_sem,reduceLT,reduceEqDiff]
         refine hK _ _ rfl ?_
         simp only [mwb,reduceAdd,reduceEqDiff]
         refine ex_seq ?_
         refine ex_region_w tt_ok 143 (rp 138 0 [1,2]) [] rfl rfl fun K hK => ?_
         simp only [ltb,go_sem,reduceLT]
         refine hK _ _ rfl ?_
         simp only [mwb,reduceAdd,reduceEqDiff]
         refine ex_if rfl (fun hc139 => ?_) (fun hc139 => ?_)
         ·refine ex_region_w tt_ok 143 [0,0,0,0,2] [] rfl rfl fun K hK => ?_
          simp only [ltb,go_sem]
          refine hK _ _ rfl ?_
          simp only [mwb,reduceAdd]
          exact ex_ret ⟨.inl rfl, _, ⟨_, rfl⟩, rfl⟩
         ·refine ex_skip ?_
          show Go.Eng.Ex _ _ _ _ _ _
          refine ex_region_w tt_ok 143 (0::0::0::0::2::(rp 135 0 [1,1,1])) [] rfl rfl fun K hK => ?_
          simp only [ltb,go_sem,reduceLT,reduceEqDiff]
          refine hK _ _ rfl ?_
          simp only [mwb,reduceAdd,reduceEqDiff]
          exact ex_ret ⟨.inl rfl, _, ⟨_, rfl⟩, rfl⟩
        ·refine ex_skip ?_
         refine ⟨[_, _], ?_, ?_, 0, [true,true,false,false,true,true,true,true,true,true,true,false,false,false,false,false,true,false,false,false,false,false,false,false,true,false,false,false,false,false,false,true,false,false,false,false,true], by omega, by simp only [maskFr,belowV,mkb], by simp only [List.all_nil,List.take_nil], by simp only [maskFr,putAll,List.set_cons_zero,List.set_cons_succ,mkb]; rfl⟩
         ·exact ⟨j + 1, f + 1, rfl, by omega, by omega, by omega, by omega⟩
         ·simp only [intOf,List.headD_cons]; omega
     ·refine runX_cut 3 fun K1 hK1 => ?_
      simp only [ltb,go_sem,reduceLT,reduceEqDiff]
      refine callF_ex (cutover_tot _) ?_
      rintro _ ⟨r5, rfl⟩
      try simp only [go_sem]
      refine hK1 _ ?_
      simp only [ltb,go_sem,reduceLT,reduceEqDiff]
      refine hK _ _ rfl ?_
      simp only [mwb,reduceAdd,reduceEqDiff]
      refine ex_if rfl (fun hc107 => ?_) (fun hc107 => ?_)
      ·refine ex_region_w tt_ok 143 (rp 12 0 (2::(rp 95 0 [1,1,1,1,1]))) [] rfl rfl fun K hK => ?_
       refine runX_cut 5 fun K1 hK1 => ?_
       simp only [ltb]
       simp only [hcf1,go_sem,reduceLT,reduceEqDiff]
       refine callF_nat (idxStr_nat hG _ _ ht2 hb25_3 (by have := size_ext (s := s) (a := (j + 1 : Int).toNat) (b := s.size); omega)) ?_
       rintro _ ⟨r6, rfl⟩
       try simp only [go_sem]
       refine hK1 _ ?_
       simp only [ltb,go_sem,reduceLT,reduceEqDiff]
       refine hK _ _ rfl ?_
       simp only [mwb,reduceAdd,reduceEqDiff]
       refine ex_seq ?_
       refine ex_region_w tt_ok 143 (rp 113 0 [1,2]) [] rfl rfl fun K hK => ?_
       simp only [ltb,go_sem,reduceLT]
       refine hK _ _ rfl ?_
       simp only [mwb,reduceAdd,reduceEqDiff]
       refine ex_if rfl (fun hc114 => ?_) (fun hc114 => ?_)
       ·refine ex_region_w tt_ok 143 (0::0::0::0::2::(rp 110 0 [1,1,1])) [] rfl rfl fun K hK => ?_
        simp only [ltb,go_sem,reduceLT,reduceEqDiff]
        refine hK _ _ rfl ?_
        simp only [mwb,reduceAdd,reduceEqDiff]
        exact ex_ret ⟨.inl rfl, _, ⟨_, rfl⟩, rfl⟩
       ·refine ex_skip ?_
        show Go.Eng.Ex _ _ _ _ _ _
        refine ex_region_w tt_ok 143 [0,0,0,0,2] [] rfl rfl fun K hK => ?_
        simp only [ltb,go_sem]
        refine hK _ _ rfl ?_
        simp only [mwb,reduceAdd]
        exact ex_ret ⟨.inl rfl, _, ⟨_, rfl⟩, rfl⟩
      ·refine ex_region_w tt_ok 143 (rp 118 0 (rp 14 1 [2])) [(3, 121), (10, 128)] rfl rfl fun K hK => ?_
       refine runX_cut 4 fun K1 hK1 => ?_
       simp only [ltb]
       simp only [hG,go_sem,reduceLT,reduceEqDiff]
       refine hK1 _ ?_
       refine runX_case 121 (by rfl) fun b hb30_3 => ?_
       cases b
       ·refine runX_cut 8 fun K1 hK1 => ?_
        simp only [ltb,go_sem,reduceLT,reduceEqDiff]
        refine hK1 _ ?_
        simp only [ltb,go_sem,reduceLT,reduceEqDiff]
        refine hK _ _ rfl ?_
        simp only [mwb,reduceAdd,reduceEqDiff]
        refine ex_cond rfl ?_
        refine ex_skip ?_
        refine ⟨[_, _], ?_, ?_, 0, [true,true,false,false,true,true,true,true,true,true,true,false,false,false,false,false,true,false,false,false,false,false,false,false,true,false,false,false,false,false,false,true,false,false,false,false,true], by omega, by simp only [maskFr,belowV,mkb], by simp only [List.all_nil,List.take_nil], by simp only [maskFr,putAll,List.set_cons_zero,List.set_cons_succ,mkb]; rfl⟩
        ·exact ⟨j + 1, f + 1, rfl, by omega, by omega, by omega, by omega⟩
        ·simp only [intOf,List.headD_cons]; omega
       ·refine runX_cut 7 fun K1 hK1 => ?_
        simp only [ltb,go_sem,reduceLT,reduceEqDiff]
        refine hK1 _ ?_
        refine runX_case 128 (by rfl) fun b hb30_10 => ?_
        cases b
        ·simp only [ltb,go_sem,reduceLT,reduceEqDiff]
         refine hK _ _ rfl ?_
         simp only [mwb,reduceAdd,reduceEqDiff]
         refine ex_cond rfl ?_
         refine ex_skip ?_
         refine ⟨[_, _], ?_, ?_, 0, [true,true,false,false,true,true,true,true,true,true,true,false,false,false,false,false,true,false,false,false,false,false,false,false,true,false,false,false,false,false,false,true,false,false,false,false,true], by omega, by simp only [maskFr,belowV,mkb], by simp only [List.all_nil,List.take_nil], by simp only [maskFr,putAll,List.set_cons_zero,List.set_cons_succ,mkb]; rfl⟩
         ·exact ⟨j + 1, f + 1, rfl, by omega, by omega, by omega, by omega⟩
         ·simp only [intOf,List.headD_cons]; omega
        ·simp only [ltb,go_sem,reduceLT,reduceEqDiff]
         refine hK _ _ rfl ?_
         simp only [mwb,reduceAdd,reduceEqDiff]
         refine ex_if rfl (fun hc132 => ?_) (fun hc132 => ?_)
         ·have hlast : j + 1 < T := by simpa using hc132
          refine ex_region_w tt_ok 143 (rp 13 0 (2::(rp 119 0 [1,1,1,1,1]))) [] rfl rfl fun K hK => ?_
          refine runX_cut 5 fun K1 hK1 => ?_
          simp only [ltb]
          simp only [hcf1,go_sem,reduceLT,reduceEqDiff]
          refine callF_ex (rk_tot _ _ (by have := size_ext (s := s) (a := (j + 1 : Int).toNat) (b := s.size); omega) ht (by have := size_ext (s := s) (a := (j + 1 : Int).toNat) (b := s.size); omega)) ?_
          rintro _ ⟨r7, rfl⟩
          try simp only [go_sem]
          refine hK1 _ ?_
          simp only [ltb,go_sem,reduceLT,reduceEqDiff]
          refine hK _ _ rfl ?_
          simp only [mwb,reduceAdd,reduceEqDiff]
          refine ex_seq ?_
          refine ex_region_w tt_ok 143 (rp 138 0 [1,2]) [] rfl rfl fun K hK => ?_
          simp only [ltb,go_sem,reduceLT]
          refine hK _ _ rfl ?_
          simp only [mwb,reduceAdd,reduceEqDiff]
          refine ex_if rfl (fun hc139 => ?_) (fun hc139 => ?_)
          ·refine ex_region_w tt_ok 143 [0,0,0,0,2] [] rfl rfl fun K hK => ?_
           simp only [ltb,go_sem]
           refine hK _ _ rfl ?_
           simp only [mwb,reduceAdd]
           exact ex_ret ⟨.inl rfl, _, ⟨_, rfl⟩, rfl⟩
          ·refine ex_skip ?_
           show Go.Eng.Ex _ _ _ _ _ _
           refine ex_region_w tt_ok 143 (0::0::0::0::2::(rp 135 0 [1,1,1])) [] rfl rfl fun K hK => ?_
           simp only [ltb,go_sem,reduceLT,reduceEqDiff]
           refine hK _ _ rfl ?_
           simp only [mwb,reduceAdd,reduceEqDiff]
           exact ex_ret ⟨.inl rfl, _, ⟨_, rfl⟩, rfl⟩
         ·refine ex_skip ?_
          refine ⟨[_, _], ?_, ?_, 0, [true,true,false,false,true,true,true,true,true,true,true,false,false,false,false,false,true,false,false,false,false,false,false,false,true,false,false,false,false,false,false,true,false,false,false,false,true], by omega, by simp only [maskFr,belowV,mkb], by simp only [List.all_nil,List.take_nil], by simp only [maskFr,putAll,List.set_cons_zero,List.set_cons_succ,mkb]; rfl⟩
          ·exact ⟨j + 1, f + 1, rfl, by omega, by omega, by omega, by omega⟩
          ·simp only [intOf,List.headD_cons]; omega
    ·refine runX_cut 8 fun K1 hK1 => ?_
     simp only [ltb]
     simp only [hwjn,hcm1,toVal,go_sem,reduceLT,reduceEqDiff,reduceCtorEq]
     refine hK1 _ ?_
     simp only [ltb,go_sem,reduceLT,reduceEqDiff]
     refine hK _ _ rfl ?_
     simp only [mwb,reduceAdd,reduceEqDiff]
     refine ex_if rfl (fun hc93 => ?_) (fun hc93 => ?_)
     ·refine ex_region_w tt_ok 143 (0::0::0::0::2::(rp 89 0 [1])) [] rfl rfl fun K hK => ?_
      simp only [ltb,go_sem,reduceLT]
      refine hK _ _ rfl ?_
      simp only [mwb,reduceAdd,reduceEqDiff]
      exact ex_ret ⟨.inl rfl, _, ⟨_, rfl⟩, rfl⟩
     ·refine ex_skip ?_
      show Go.Eng.Ex _ _ _ _ _ _
      refine ex_region_w tt_ok 143 (rp 8 0 (2::(rp 86 0 [1,1]))) [] rfl rfl fun K hK => ?_
      try simp only [ltb]
      simp only [hwj1,go_sem,reduceLT,reduceEqDiff]
      refine hK _ _ rfl ?_
      simp only [mwb,reduceAdd,reduceEqDiff]
      refine ex_region_w tt_ok 143 (rp 10 0 (2::(rp 86 0 [1,1]))) [] rfl rfl fun K hK => ?_
      try simp only [ltb]
      simp only [hwf,go_sem,reduceLT,reduceEqDiff]
      refine hK _ _ rfl ?_
      simp only [mwb,reduceAdd,reduceEqDiff]
      refine ex_region_w tt_ok 143 (rp 99 0 (rp 8 1 [2])) [(3, 102)] rfl rfl fun K hK => ?_
      refine runX_cut 4 fun K1 hK1 => ?_
      simp only [ltb]
      simp only [hG,go_sem,reduceLT,reduceEqDiff]
      refine hK1 _ ?_
      refine runX_case 102 (by rfl) fun b hb25_3 => ?_
      cases b
      ·simp only [ltb,go_sem,reduceLT,reduceEqDiff]
       refine hK _ _ rfl ?_
       simp only [mwb,reduceAdd,reduceEqDiff]
       refine ex_cond rfl ?_
       refine ex_region_w tt_ok 143 (rp 118 0 (rp 14 1 [2])) [(3, 121), (10, 128)] rfl rfl fun K hK => ?_
       refine runX_cut 4 fun K1 hK1 => ?_
       simp only [ltb]
       simp only [hG,go_sem,reduceLT,reduceEqDiff]
       refine hK1 _ ?_
       refine runX_case 121 (by rfl) fun b hb30_3 => ?_
       cases b
       ·refine runX_cut 8 fun K1 hK1 => ?_
        simp only [ltb,go_sem,reduceLT,reduceEqDiff]
        refine hK1 _ ?_
        simp only [ltb,go_sem,reduceLT,reduceEqDiff]
        refine hK _ _ rfl ?_
        simp only [mwb,reduceAdd,reduceEqDiff]
        refine ex_cond rfl ?_
        refine ex_skip ?_
        refine ⟨[_, _], ?_, ?_, 0, [true,true,false,false,true,true,true,true,true,true,true,false,false,false,false,false,true,false,false,false,false,false,false,false,true,false,false,false,false,false,false,true,false,false,false,false,true], by omega, by simp only [maskFr,belowV,mkb], by simp only [List.all_nil,List.take_nil], by simp only [maskFr,putAll,List.set_cons_zero,List.set_cons_succ,mkb]; rfl⟩
        ·exact ⟨j + 1, f + 1, rfl, by omega, by omega, by omega, by omega⟩
        ·simp only [intOf,List.headD_cons]; omega
       ·refine runX_cut 7 fun K1 hK1 => ?_
        simp only [ltb,go_sem,reduceLT,reduceEqDiff]
        refine hK1 _ ?_
        refine runX_case 128 (by rfl) fun b hb30_10 => ?_
        cases b
        ·simp only [ltb,go_sem,reduceLT,reduceEqDiff]
         refine hK _ _ rfl ?_
         simp only [mwb,reduceAdd,reduceEqDiff]
         refine ex_cond rfl ?_
         refine ex_skip ?_
         refine ⟨[_, _], ?_, ?_, 0, [true,true,false,false,true,true,true,true,true,true,true,false,false,false,false,false,true,false,false,false,false,false,false,false,true,false,false,false,false,false,false,true,false,false,false,false,true], by omega, by simp only [maskFr,belowV,mkb], by simp only [List.all_nil,List.take_nil], by simp only [maskFr,putAll,List.set_cons_zero,List.set_cons_succ,mkb]; rfl⟩
         ·exact ⟨j + 1, f + 1, rfl, by omega, by omega, by omega, by omega⟩
         ·simp only [intOf,List.headD_cons]; omega
        ·simp only [ltb,go_sem,reduceLT,reduceEqDiff]
         refine hK _ _ rfl ?_
         simp only [mwb,reduceAdd,reduceEqDiff]
         refine ex_if rfl (fun hc132 => ?_) (fun hc132 => ?_)
         ·have hlast : j + 1 < T := by simpa using hc132
          refine ex_region_w tt_ok 143 (rp 13 0 (2::(rp 119 0 [1,1,1,1,1]))) [] rfl rfl fun K hK => ?_
          refine runX_cut 5 fun K1 hK1 => ?_
          simp only [ltb]
          simp only [hcf1,go_sem,reduceLT,reduceEqDiff]
          refine callF_ex (rk_tot _ _ (by have := size_ext (s := s) (a := (j + 1 : Int).toNat) (b := s.size); omega) ht (by have := size_ext (s := s) (a := (j + 1 : Int).toNat) (b := s.size); omega)) ?_
          rintro _ ⟨r8, rfl⟩
          try simp only [go_sem]
          refine hK1 _ ?_
          simp only [ltb,go_sem,reduceLT,reduceEqDiff]
          refine hK _ _ rfl ?_
          simp only [mwb,reduceAdd,reduceEqDiff]
          refine ex_seq ?_
          refine ex_region_w tt_ok 143 (rp 138 0 [1,2]) [] rfl rfl fun K hK => ?_
          simp only [ltb,go_sem,reduceLT]
          refine hK _ _ rfl ?_
          simp only [mwb,reduceAdd,reduceEqDiff]
          refine ex_if rfl (fun hc139 => ?_) (fun hc139 => ?_)
          ·refine ex_region_w tt_ok 143 [0,0,0,0,2] [] rfl rfl fun K hK => ?_
           simp only [ltb,go_sem]
           refine hK _ _ rfl ?_
           simp only [mwb,reduceAdd]
           exact ex_ret ⟨.inl rfl, _, ⟨_, rfl⟩, rfl⟩
          ·refine ex_skip ?_
           show Go.Eng.Ex _ _ _ _ _ _
           refine ex_region_w tt_ok 143 (0::0::0::0::2::(rp 135 0 [1,1,1])) [] rfl rfl fun K hK => ?_
           simp only [ltb,go_sem,reduceLT,reduceEqDiff]
           refine hK _ _ rfl ?_
           simp only [mwb,reduceAdd,reduceEqDiff]
           exact ex_ret ⟨.inl rfl, _, ⟨_, rfl⟩, rfl⟩
         ·refine ex_skip ?_
          refine ⟨[_, _], ?_, ?_, 0, [true,true,false,false,true,true,true,true,true,true,true,false,false,false,false,false,true,false,false,false,false,false,false,false,true,false,false,false,false,false,false,true,false,false,false,false,true], by omega, by simp only [maskFr,belowV,mkb], by simp only [List.all_nil,List.take_nil], by simp only [maskFr,putAll,List.set_cons_zero,List.set_cons_succ,mkb]; rfl⟩
          ·exact ⟨j + 1, f + 1, rfl, by omega, by omega, by omega, by omega⟩
          ·simp only [intOf,List.headD_cons]; omega
      ·refine runX_cut 3 fun K1 hK1 => ?_
       simp only [ltb,go_sem,reduceLT,reduceEqDiff]
       refine callF_ex (cutover_tot _) ?_
       rintro _ ⟨r9, rfl⟩
       try simp only [go_sem]
       refine hK1 _ ?_
       simp only [ltb,go_sem,reduceLT,reduceEqDiff]
       refine hK _ _ rfl ?_
       simp only [mwb,reduceAdd,reduceEqDiff]
       refine ex_if rfl (fun hc107 => ?_) (fun hc107 => ?_)
       ·refine ex_region_w tt_ok 143 (rp 12 0 (2::(rp 95 0 [1,1,1,1,1]))) [] rfl rfl fun K hK => ?_
        refine runX_cut 5 fun K1 hK1 => ?_
        simp only [ltb]
        simp only [hcf1,go_sem,reduceLT,reduceEqDiff]
        refine callF_nat (idxStr_nat hG _ _ ht2 hb25_3 (by have := size_ext (s := s) (a := (j + 1 : Int).toNat) (b := s.size); omega)) ?_
        rintro _ ⟨r10, rfl⟩
        try simp only [go_sem]
        refine hK1 _ ?_
        simp only [ltb,go_sem,reduceLT,reduceEqDiff]
        refine hK _ _ rfl ?_
        simp only [mwb,reduceAdd,reduceEqDiff]
        refine ex_seq ?_
        refine ex_region_w tt_ok 143 (rp 113 0 [1,2]) [] rfl rfl fun K hK => ?_
        simp only [ltb,go_sem,reduceLT]
        refine hK _ _ rfl ?_
        simp only [mwb,reduceAdd,reduceEqDiff]
        refine ex_if rfl (fun hc114 => ?_) (fun hc114 => ?_)
        ·refine ex_region_w tt_ok 143 (0::0::0::0::2::(rp 110 0 [1,1,1])) [] rfl rfl fun K hK => ?_
         simp only [ltb,go_sem,reduceLT,reduceEqDiff]
         refine hK _ _ rfl ?_
         simp only [mwb,reduceAdd,reduceEqDiff]
         exact ex_ret ⟨.inl rfl, _, ⟨_, rfl⟩, rfl⟩
        ·refine ex_skip ?_
         show Go.Eng.Ex _ _ _ _ _ _
         refine ex_region_w tt_ok 143 [0,0,0,0,2] [] rfl rfl fun K hK => ?_
         simp only [ltb,go_sem]
         refine hK _ _ rfl ?_
         simp only [mwb,reduceAdd]
         exact ex_ret ⟨.inl rfl, _, ⟨_, rfl⟩, rfl⟩
       ·refine ex_region_w tt_ok 143 (rp 118 0 (rp 14 1 [2])) [(3, 121), (10, 128)] rfl rfl fun K hK => ?_
        refine runX_cut 4 fun K1 hK1 => ?_
        simp only [ltb]
        simp only [hG,go_sem,reduceLT,reduceEqDiff]
        refine hK1 _ ?_
        refine runX_case 121 (by rfl) fun b hb30_3 => ?_
        cases b
        ·refine runX_cut 8 fun K1 hK1 => ?_
         simp only [ltb,go_sem,reduceLT,reduceEqDiff]
         refine hK1 _ ?_
         simp only [ltb,go_sem,reduceLT,reduceEqDiff]
         refine hK _ _ rfl ?_
         simp only [mwb,reduceAdd,reduceEqDiff]
         refine ex_cond rfl ?_
         refine ex_skip ?_
         refine ⟨[_, _], ?_, ?_, 0, [true,true,false,false,true,true,true,true,true,true,true,false,false,false,false,false,true,false,false,false,false,false,false,false,true,false,false,false,false,false,false,true,false,false,false,false,true], by omega, by simp only [maskFr,belowV,mkb], by simp only [List.all_nil,List.take_nil], by simp only [maskFr,putAll,List.set_cons_zero,List.set_cons_succ,mkb]; rfl⟩
         ·exact ⟨j + 1, f + 1, rfl, by omega, by omega, by omega, by omega⟩
         ·simp only [intOf,List.headD_cons]; omega
        ·refine runX_cut 7 fun K1 hK1 => ?_
         simp only [ltb,go_sem,reduceLT,reduceEqDiff]
         refine hK1 _ ?_
         refine runX_case 128 (by rfl) fun b hb30_10 => ?_
         cases b
         ·simp only [ltb,go_sem,reduceLT,reduceEqDiff]
          refine hK _ _ rfl ?_
          simp only [mwb,reduceAdd,reduceEqDiff]
          refine ex_cond rfl ?_
          refine ex_skip ?_
          refine ⟨[_, _], ?_, ?_, 0, [true,true,false,false,true,true,true,true,true,true,true,false,false,false,false,false,true,false,false,false,false,false,false,false,true,false,false,false,false,false,false,true,false,false,false,false,true], by omega, by simp only [maskFr,belowV,mkb], by simp only [List.all_nil,List.take_nil], by simp only [maskFr,putAll,List.set_cons_zero,List.set_cons_succ,mkb]; rfl⟩
          ·exact ⟨j + 1, f + 1, rfl, by omega, by omega, by omega, by omega⟩
          ·simp only [intOf,List.headD_cons]; omega
         ·simp only [ltb,go_sem,reduceLT,reduceEqDiff]
          refine hK _ _ rfl ?_
          simp only [mwb,reduceAdd,reduceEqDiff]
          refine ex_if rfl (fun hc132 => ?_) (fun hc132 => ?_)
          ·have hlast : j + 1 < T := by simpa using hc132
           refine ex_region_w tt_ok 143 (rp 13 0 (2::(rp 119 0 [1,1,1,1,1]))) [] rfl rfl fun K hK => ?_
           refine runX_cut 5 fun K1 hK1 => ?_
           simp only [ltb]
           simp only [hcf1,go_sem,reduceLT,reduceEqDiff]
           refine callF_ex (rk_tot _ _ (by have := size_ext (s := s) (a := (j + 1 : Int).toNat) (b := s.size); omega) ht (by have := size_ext (s := s) (a := (j + 1 : Int).toNat) (b := s.size); omega)) ?_
           rintro _ ⟨r11, rfl⟩
           try simp only [go_sem]
           refine hK1 _ ?_
           simp only [ltb,go_sem,reduceLT,reduceEqDiff]
           refine hK _ _ rfl ?_
           simp only [mwb,reduceAdd,reduceEqDiff]
           refine ex_seq ?_
           refine ex_region_w tt_ok 143 (rp 138 0 [1,2]) [] rfl rfl fun K hK => ?_
           simp only [ltb,go_sem,reduceLT]
           refine hK _ _ rfl ?_
           simp only [mwb,reduceAdd,reduceEqDiff]
           refine ex_if rfl (fun hc139 => ?_) (fun hc139 => ?_)
           ·refine ex_region_w tt_ok 143 [0,0,0,0,2] [] rfl rfl fun K hK => ?_
            simp only [ltb,go_sem]
            refine hK _ _ rfl ?_
            simp only [mwb,reduceAdd]
            exact ex_ret ⟨.inl rfl, _, ⟨_, rfl⟩, rfl⟩
           ·refine ex_skip ?_
            show Go.Eng.Ex _ _ _ _ _ _
            refine ex_region_w tt_ok 143 (0::0::0::0::2::(rp 135 0 [1,1,1])) [] rfl rfl fun K hK => ?_
            simp only [ltb,go_sem,reduceLT,reduceEqDiff]
            refine hK _ _ rfl ?_
            simp only [mwb,reduceAdd,reduceEqDiff]
            exact ex_ret ⟨.inl rfl, _, ⟨_, rfl⟩, rfl⟩
          ·refine ex_skip ?_
           refine ⟨[_, _], ?_, ?_, 0, [true,true,false,false,true,true,true,true,true,true,true,false,false,false,false,false,true,false,false,false,false,false,false,false,true,false,false,false,false,false,false,true,false,false,false,false,true], by omega, by simp only [maskFr,belowV,mkb], by simp only [List.all_nil,List.take_nil], by simp only [maskFr,putAll,List.set_cons_zero,List.set_cons_succ,mkb]; rfl⟩
           ·exact ⟨j + 1, f + 1, rfl, by omega, by omega, by omega, by omega⟩
           ·simp only [intOf,List.headD_cons]; omega
  ·refine ex_exit ?_
   show Go.Eng.Ex _ _ _ _ _ _
   refine ex_region_w tt_ok 143 [0,0,0,0,2] [] rfl rfl fun K hK => ?_
   simp only [ltb,go_sem]
   refine hK _ _ rfl ?_
   simp only [mwb,reduceAdd]
   exact ex_ret ⟨.inl rfl, _, ⟨_, rfl⟩, rfl⟩
end Go.Proofs.YtpjdfcigadnhcaaGreatDoor
end

section
namespace Go.Proofs.YtpjdfcigadnhcaaGreatDoor
open Go.Eng
open Nat (reduceAdd reduceLT reduceLeDiff reduceMul reduceEqDiff reduceSub)
variable [Glob]
set_option maxHeartbeats 4000000
set_option maxRecDepth 100000
attribute [local irreducible] runM stepM valD stepOp stepD callF
theorem sindex_tot (hG : Glob.g = some 0) (s t : ByteArray) (hs : s.size ≤ 1048576) (ht : t.size ≤ 1048576) : ∃ r, isN r ∧ FnOk Tryz.prog 184 [str s, str t] r := by
 refine fn_ex tt_ok (fn := Tryz.f184) Tryz.func184 rfl Tryz.call184 ?_
 simp only [ltb,startSt,Tryz.ntmps184,List.length_cons,List.length_nil,reduceAdd,reduceSub,List.replicate_succ,List.replicate_zero]
 refine ex_region_w tt_ok 8 [0,0,0,0,2] [] rfl rfl fun K hK => ?_
 simp only [ltb,go_sem]
 refine hK _ _ rfl ?_
 simp only [mwb,reduceAdd]
 refine ex_region_w tt_ok 8 [0,0,0,0,2,1,1,1] [] rfl rfl fun K hK => ?_
 refine runX_cut 3 fun K1 hK1 => ?_
 simp only [ltb,go_sem,reduceLT,reduceEqDiff]
 refine callF_ex (index_tot hG _ _ hs ht) ?_
 rintro _ ⟨r1, rfl⟩
 try simp only [go_sem]
 refine hK1 _ ?_
 simp only [ltb,go_sem,reduceLT,reduceEqDiff]
 refine hK _ _ rfl ?_
 simp only [mwb,reduceAdd,reduceEqDiff]
 exact ex_ret ⟨.inl rfl, _, ⟨_, rfl⟩, rfl⟩
theorem contains_tot (hG : Glob.g = some 0) (s t : ByteArray) (hs : s.size ≤ 1048576) (ht : t.size ≤ 1048576) : ∃ r, isB r ∧ FnOk Tryz.prog 152 [str s, str t] r := by
 refine fn_ex tt_ok (fn := Tryz.f152) Tryz.func152 rfl Tryz.call152 ?_
 simp only [ltb,startSt,Tryz.ntmps152,List.length_cons,List.length_nil,reduceAdd,reduceSub,List.replicate_succ,List.replicate_zero]
 refine ex_region_w tt_ok 9 [0,0,0,0,2] [] rfl rfl fun K hK => ?_
 simp only [ltb,go_sem]
 refine hK _ _ rfl ?_
 simp only [mwb,reduceAdd]
 refine ex_region_w tt_ok 9 [0,0,0,0,2,1,1,1,1] [] rfl rfl fun K hK => ?_
 refine runX_cut 3 fun K1 hK1 => ?_
 simp only [ltb,go_sem,reduceLT,reduceEqDiff]
 refine callF_ex (sindex_tot hG _ _ hs ht) ?_
 rintro _ ⟨r1, rfl⟩
 try simp only [go_sem]
 refine hK1 _ ?_
 simp only [ltb,go_sem,reduceLT,reduceEqDiff]
 refine hK _ _ rfl ?_
 simp only [mwb,reduceAdd,reduceEqDiff]
 exact ex_ret ⟨.inl rfl, _, ⟨_, rfl⟩, rfl⟩
theorem keyword_tot (hG : Glob.g = some 0) (s : ByteArray) (hs : s.size ≤ 1000000) : ∃ r, isB r ∧ FnOk Tryz.prog 149 [str s] r := by
 refine fn_ex tt_ok (fn := Tryz.f149) Tryz.func149 rfl Tryz.call149 ?_
 simp only [ltb,startSt,Tryz.ntmps149,List.length_cons,List.length_nil,reduceAdd,reduceSub,List.replicate_succ,List.replicate_zero]
 have sa1 := fun x y => ev_sadd Tryz.prog 9 x y ⟨#[32]⟩ s (by rw [show (⟨#[32]⟩ : ByteArray).size = 1 from rfl, show IntKind.i64.max = 9223372036854775807 from rfl]; omega)
 have sa2 := fun x y => ev_sadd Tryz.prog 9 x y (⟨#[32]⟩ ++ s) ⟨#[32]⟩ (by rw [ByteArray.size_append, show (⟨#[32]⟩ : ByteArray).size = 1 from rfl, show IntKind.i64.max = 9223372036854775807 from rfl]; omega)
 refine ex_region_w tt_ok 7 [0,0,2] [] rfl rfl fun K hK => ?_
 simp only [ltb,go_sem]
 refine hK _ _ rfl ?_
 simp only [mwb,reduceAdd]
 refine ex_region_w tt_ok 7 [0,0,2,1,1,1,1] [] rfl rfl fun K hK => ?_
 try simp only [ltb]
 refine runX_cut 4 fun K1 hK1 => ?_
 simp only [ltb]
 simp only [sa1,sa2,go_sem,reduceLT,reduceEqDiff]
 refine callF_ex (contains_tot hG _ _ (by decide) (by rw [ByteArray.size_append, ByteArray.size_append, show (⟨#[32]⟩ : ByteArray).size = 1 from rfl]; omega)) ?_
 rintro _ ⟨r1, rfl⟩
 try simp only [go_sem]
 refine hK1 _ ?_
 simp only [ltb,go_sem,reduceLT,reduceEqDiff]
 refine hK _ _ rfl ?_
 simp only [mwb,reduceAdd,reduceEqDiff]
 exact ex_ret ⟨.inl rfl, _, ⟨_, rfl⟩, rfl⟩
theorem isName_tot (hG : Glob.g = some 0) (s : ByteArray) : ∃ r, isB r ∧ FnOk Tryz.prog 99 [str s] r := by
 refine fn_ex tt_ok (fn := Tryz.f99) Tryz.func99 rfl Tryz.call99 ?_
 simp only [ltb,startSt,Tryz.ntmps99,List.length_cons,List.length_nil,reduceAdd,reduceSub,List.replicate_succ,List.replicate_zero]
 have hT9 : Tryz.prog.underlying 9 = some .string := by kernel_rfl
 have sl : ∀ (a : ByteArray) (ty : TypeId), liftL Tryz.prog (Builtin.len_ #[9] ty) [.sc (.string a)] = some (num a.size) := fun a ty => ev_slen (P := Tryz.prog) (tt := tt) (T := 9) a hT9 ty
 refine ex_region_w tt_ok 24 [0,0,2] [] rfl rfl fun K hK => ?_
 simp only [ltb,go_sem]
 refine hK _ _ rfl ?_
 simp only [mwb,reduceAdd]
 refine ex_region_w tt_ok 24 (0::0::2::(rp 21 1 [])) [(2, 5), (7, 10), (12, 15), (16, 19)] rfl rfl fun K hK => ?_
 refine runX_cut 3 fun K1 hK1 => ?_
 simp only [ltb,go_sem,reduceLT,reduceEqDiff]
 refine hK1 _ ?_
 refine runX_case 5 (by rfl) fun b hb1_2 => ?_
 cases b
 ·refine runX_cut 8 fun K1 hK1 => ?_
  simp only [ltb,go_sem,reduceLT,reduceEqDiff]
  refine hK1 _ ?_
  refine runX_cut 8 fun K1 hK1 => ?_
  simp only [ltb,go_sem,reduceLT,reduceEqDiff]
  refine hK1 _ ?_
  simp only [ltb,go_sem,reduceLT,reduceEqDiff]
  refine hK _ _ rfl ?_
  simp only [mwb,reduceAdd,reduceEqDiff]
  exact ex_ret ⟨.inl rfl, _, ⟨_, rfl⟩, rfl⟩
 ·refine runX_cut 5 fun K1 hK1 => ?_
  simp only [ltb]
  simp only [sl,go_sem,reduceLT,reduceEqDiff,reduceCtorEq]
  refine hK1 _ ?_
  refine runX_case 10 (by rfl) fun b hb1_7 => ?_
  cases b
  ·refine runX_cut 8 fun K1 hK1 => ?_
   simp only [ltb,go_sem,reduceLT,reduceEqDiff]
   refine hK1 _ ?_
   simp only [ltb,go_sem,reduceLT,reduceEqDiff]
   refine hK _ _ rfl ?_
   simp only [mwb,reduceAdd,reduceEqDiff]
   exact ex_ret ⟨.inl rfl, _, ⟨_, rfl⟩, rfl⟩
  ·have hsz : s.size ≤ 1000000 := by have h1 := hb1_7; simp at h1; omega
   refine runX_cut 1 fun K1 hK1 => ?_
   simp only [ltb,go_sem,reduceLT,reduceEqDiff,reduceCtorEq]
   refine hK1 _ ?_
   obtain ⟨c0, hcb0⟩ := ne_get rfl hb1_2
   have hix0 := ev_index (P := Tryz.prog) s hT9 .i64 0 (by omega) (c := c0) (show s[(0 : Int).toNat]? = some c0 from hcb0)
   refine runX_cut 2 fun K1 hK1 => ?_
   simp only [ltb]
   simp only [hix0,go_sem,reduceLT,reduceEqDiff]
   refine callF_ex (small_tot _) ?_
   rintro _ ⟨r1, rfl⟩
   try simp only [go_sem]
   refine hK1 _ ?_
   refine runX_cut 2 fun K1 hK1 => ?_
   simp only [ltb,go_sem,reduceLT,reduceEqDiff]
   refine hK1 _ ?_
   refine runX_case 15 (by rfl) fun b hb1_12 => ?_
   cases b
   ·refine runX_cut 8 fun K1 hK1 => ?_
    simp only [ltb,go_sem,reduceLT,reduceEqDiff]
    refine hK1 _ ?_
    simp only [ltb,go_sem,reduceLT,reduceEqDiff]
    refine hK _ _ rfl ?_
    simp only [mwb,reduceAdd,reduceEqDiff]
    exact ex_ret ⟨.inl rfl, _, ⟨_, rfl⟩, rfl⟩
   ·refine runX_cut 2 fun K1 hK1 => ?_
    simp only [ltb,go_sem,reduceLT,reduceEqDiff,reduceCtorEq]
    refine callF_ex (all_tot 120 word_tot _ (by omega)) ?_
    rintro _ ⟨r2, rfl⟩
    try simp only [go_sem]
    refine hK1 _ ?_
    refine runX_cut 2 fun K1 hK1 => ?_
    simp only [ltb,go_sem,reduceLT,reduceEqDiff]
    refine hK1 _ ?_
    refine runX_case 19 (by rfl) fun b hb1_16 => ?_
    cases b
    ·simp only [ltb,go_sem,reduceLT,reduceEqDiff]
     refine hK _ _ rfl ?_
     simp only [mwb,reduceAdd,reduceEqDiff]
     exact ex_ret ⟨.inl rfl, _, ⟨_, rfl⟩, rfl⟩
    ·refine runX_cut 2 fun K1 hK1 => ?_
     simp only [ltb,go_sem,reduceLT,reduceEqDiff,reduceCtorEq]
     refine callF_ex (keyword_tot hG _ (by omega)) ?_
     rintro _ ⟨r3, rfl⟩
     try simp only [go_sem]
     refine hK1 _ ?_
     simp only [ltb,go_sem,reduceLT,reduceEqDiff]
     refine hK _ _ rfl ?_
     simp only [mwb,reduceAdd,reduceEqDiff]
     exact ex_ret ⟨.inl rfl, _, ⟨_, rfl⟩, rfl⟩
theorem variable_tot (s : ByteArray) : ∃ r, isB r ∧ FnOk Tryz.prog 33 [str s] r := by
 refine fn_ex tt_ok (fn := Tryz.f33) Tryz.func33 rfl Tryz.call33 ?_
 simp only [ltb,startSt,Tryz.ntmps33,List.length_cons,List.length_nil,reduceAdd,reduceSub,List.replicate_succ,List.replicate_zero]
 have hT9 : Tryz.prog.underlying 9 = some .string := by kernel_rfl
 have sl : ∀ (a : ByteArray) (ty : TypeId), liftL Tryz.prog (Builtin.len_ #[9] ty) [.sc (.string a)] = some (num a.size) := fun a ty => ev_slen (P := Tryz.prog) (tt := tt) (T := 9) a hT9 ty
 refine ex_region_w tt_ok 25 [0,0,2] [] rfl rfl fun K hK => ?_
 simp only [ltb,go_sem]
 refine hK _ _ rfl ?_
 simp only [mwb,reduceAdd]
 refine ex_region_w tt_ok 25 (0::0::2::(rp 22 1 [])) [(2, 5), (6, 9), (11, 14), (16, 19)] rfl rfl fun K hK => ?_
 refine runX_cut 2 fun K1 hK1 => ?_
 simp only [ltb,go_sem,reduceLT]
 refine callF_ex (isType_tot _) ?_
 rintro _ ⟨r1, rfl⟩
 try simp only [go_sem]
 refine hK1 _ ?_
 refine runX_cut 1 fun K1 hK1 => ?_
 simp only [ltb,go_sem,reduceLT,reduceEqDiff]
 refine hK1 _ ?_
 refine runX_case 5 (by rfl) fun b hb1_2 => ?_
 cases b
 ·refine runX_cut 4 fun K1 hK1 => ?_
  simp only [ltb]
  simp only [sl,go_sem,reduceLT,reduceEqDiff,reduceCtorEq]
  refine hK1 _ ?_
  refine runX_case 9 (by rfl) fun b hb1_6 => ?_
  cases b
  ·refine runX_cut 8 fun K1 hK1 => ?_
   simp only [ltb,go_sem,reduceLT,reduceEqDiff]
   refine hK1 _ ?_
   simp only [ltb,go_sem,reduceLT,reduceEqDiff]
   refine hK _ _ rfl ?_
   simp only [mwb,reduceAdd,reduceEqDiff]
   exact ex_ret ⟨.inl rfl, _, ⟨_, rfl⟩, rfl⟩
  ·have hz2 : s.size = 2 := by have := of_decide_eq_true hb1_6; omega
   obtain ⟨cv0, hcbv0⟩ := get_byte (s := s) (i := (0 : Int).toNat) (by omega)
   have hixv0 := ev_index (P := Tryz.prog) s hT9 .i64 (0) (by omega) (c := cv0) hcbv0
   obtain ⟨cv1, hcbv1⟩ := get_byte (s := s) (i := (1 : Int).toNat) (by omega)
   have hixv1 := ev_index (P := Tryz.prog) s hT9 .i64 (1) (by omega) (c := cv1) hcbv1
   refine runX_cut 5 fun K1 hK1 => ?_
   simp only [ltb]
   simp only [hixv0,go_sem,reduceLT,reduceEqDiff,reduceCtorEq]
   refine hK1 _ ?_
   refine runX_case 14 (by rfl) fun b hb1_11 => ?_
   cases b
   ·refine runX_cut 8 fun K1 hK1 => ?_
    simp only [ltb,go_sem,reduceLT,reduceEqDiff]
    refine hK1 _ ?_
    simp only [ltb,go_sem,reduceLT,reduceEqDiff]
    refine hK _ _ rfl ?_
    simp only [mwb,reduceAdd,reduceEqDiff]
    exact ex_ret ⟨.inl rfl, _, ⟨_, rfl⟩, rfl⟩
   ·refine runX_cut 5 fun K1 hK1 => ?_
    simp only [ltb]
    simp only [hixv1,go_sem,reduceLT,reduceEqDiff,reduceCtorEq]
    refine hK1 _ ?_
    refine runX_case 19 (by rfl) fun b hb1_16 => ?_
    cases b
    ·simp only [ltb,go_sem,reduceLT,reduceEqDiff]
     refine hK _ _ rfl ?_
     simp only [mwb,reduceAdd,reduceEqDiff]
     exact ex_ret ⟨.inl rfl, _, ⟨_, rfl⟩, rfl⟩
    ·try simp only [ltb]
     simp only [hixv1,go_sem,reduceLT,reduceEqDiff,reduceCtorEq]
     refine hK _ _ rfl ?_
     simp only [mwb,reduceAdd,reduceEqDiff]
     exact ex_ret ⟨.inl rfl, _, ⟨_, rfl⟩, rfl⟩
 ·refine runX_cut 8 fun K1 hK1 => ?_
  simp only [ltb,go_sem,reduceLT,reduceEqDiff,reduceCtorEq]
  refine hK1 _ ?_
  refine runX_cut 8 fun K1 hK1 => ?_
  simp only [ltb,go_sem,reduceLT,reduceEqDiff,reduceCtorEq]
  refine hK1 _ ?_
  simp only [ltb,go_sem,reduceLT,reduceEqDiff]
  refine hK _ _ rfl ?_
  simp only [mwb,reduceAdd,reduceEqDiff]
  exact ex_ret ⟨.inl rfl, _, ⟨_, rfl⟩, rfl⟩
end Go.Proofs.YtpjdfcigadnhcaaGreatDoor
end

section
namespace Go.Proofs.YtpjdfcigadnhcaaGreatDoor
open Go.Eng
open Nat (reduceAdd reduceLT reduceLeDiff reduceMul reduceEqDiff reduceSub)
variable [Glob]
set_option maxHeartbeats 4000000
set_option maxRecDepth 100000
attribute [local irreducible] runM stepM valD stepOp stepD callF
theorem tnode1_tot (hG : Glob.g = some 0) (f : Fd) : ∃ r, isB r ∧ FnOk Tryz.prog 98 [encFd f] r := by
 refine fn_ex tt_ok (fn := Tryz.f98) Tryz.func98 rfl Tryz.call98 ?_
 simp only [ltb,startSt,Tryz.ntmps98,List.length_cons,List.length_nil,reduceAdd,reduceSub,List.replicate_succ,List.replicate_zero]
 simp only [ltb,encFd_eq,tyCells]
 refine ex_region_w tt_ok 7 [0,2,2] [] rfl rfl fun K hK => ?_
 simp only [ltb,go_sem,reduceLT]
 refine hK _ _ rfl ?_
 simp only [mwb,reduceAdd,reduceEqDiff]
 refine ex_region_w tt_ok 7 [0,0,2,1,1,1,1] [] rfl rfl fun K hK => ?_
 refine runX_cut 3 fun K1 hK1 => ?_
 simp only [ltb,go_sem,reduceAdd,reduceLT,reduceLeDiff,reduceEqDiff]
 refine callF_ex (isName_tot hG _) ?_
 rintro _ ⟨r1, rfl⟩
 try simp only [go_sem]
 refine hK1 _ ?_
 simp only [ltb,go_sem,reduceLT,reduceEqDiff]
 refine hK _ _ rfl ?_
 simp only [mwb,reduceAdd,reduceEqDiff]
 exact ex_ret ⟨.inl rfl, _, ⟨_, rfl⟩, rfl⟩
theorem shaped1_tot (f : Fd) : ∃ r, isB r ∧ FnOk Tryz.prog 146 [encFd f] r := by
 refine fn_ex tt_ok (fn := Tryz.f146) Tryz.func146 rfl Tryz.call146 ?_
 simp only [ltb,startSt,Tryz.ntmps146,List.length_cons,List.length_nil,reduceAdd,reduceSub,List.replicate_succ,List.replicate_zero]
 simp only [ltb,encFd_eq,tyCells]
 refine ex_region_w tt_ok 5 [0,2,2] [] rfl rfl fun K hK => ?_
 simp only [ltb,go_sem,reduceLT]
 refine hK _ _ rfl ?_
 simp only [mwb,reduceAdd,reduceEqDiff]
 refine ex_region_w tt_ok 5 [0,0,2,1,1] [] rfl rfl fun K hK => ?_
 simp only [ltb,go_sem,reduceLT,reduceEqDiff]
 refine hK _ _ rfl ?_
 simp only [mwb,reduceAdd,reduceEqDiff]
 exact ex_ret ⟨.inl rfl, _, ⟨_, rfl⟩, rfl⟩
theorem tnode2_tot (f : Fd) : ∃ r, (fun v => v = str f.name) r ∧ FnOk Tryz.prog 101 [encFd f] r := by
 refine fn_ex tt_ok (fn := Tryz.f101) Tryz.func101 rfl Tryz.call101 ?_
 simp only [ltb,startSt,Tryz.ntmps101,List.length_cons,List.length_nil,reduceAdd,reduceSub,List.replicate_succ,List.replicate_zero]
 simp only [ltb,encFd_eq,tyCells]
 refine ex_region_w tt_ok 5 [0,2,2] [] rfl rfl fun K hK => ?_
 simp only [ltb,go_sem,reduceLT]
 refine hK _ _ rfl ?_
 simp only [mwb,reduceAdd,reduceEqDiff]
 refine ex_region_w tt_ok 5 [0,0,2,1,1] [] rfl rfl fun K hK => ?_
 simp only [ltb,go_sem,reduceAdd,reduceLT,reduceLeDiff,reduceEqDiff]
 refine hK _ _ rfl ?_
 simp only [mwb,reduceAdd,reduceEqDiff]
 exact ex_ret ⟨.inl rfl, _, rfl, rfl⟩
theorem indexFd_tot (g : FuncId) (fs : List Fd) (hg : ∀ f : Fd, ∃ r, isB r ∧ FnOk Tryz.prog g [encFd f] r) (hl : fs.length ≤ 1048576) : ∃ r, isN r ∧ FnOk Tryz.prog 147 [.slice (encFds fs), .sc (.func (.func g) #[] #[])] r := by
 refine fn_ex tt_ok (fn := Tryz.f147) Tryz.func147 rfl Tryz.call147 ?_
 simp only [ltb,startSt,Tryz.ntmps147,List.length_cons,List.length_nil,reduceAdd,reduceSub,List.replicate_succ,List.replicate_zero]
 refine ex_region_w tt_ok 19 [0,0,0,0,2] [] rfl rfl fun K hK => ?_
 simp only [ltb,go_sem]
 refine hK _ _ rfl ?_
 simp only [mwb,reduceAdd]
 refine ex_seq ?_
 refine ex_region_w tt_ok 19 [0,0,0,0,0,0,1,2,2] [] rfl rfl fun K hK => ?_
 try simp only [ltb]
 simp only [length_encFds,go_sem,reduceLT]
 refine hK _ _ rfl ?_
 simp only [mwb,reduceAdd,reduceEqDiff]
 refine ex_block ?_
 refine ex_range 8 (fs.length) 0 [true,true,false,false,true,false,false,true,true] (by omega) (by simp only [maskFr,belowV,mkb]) (by simp only [List.all_nil,List.take_nil]) (by rfl) fun i hii => ?_
 simp only [maskFr,List.set_cons_zero,List.set_cons_succ,mkb]
 refine ex_region_w tt_ok 19 (rp 9 0 [2]) [] rfl rfl fun K hK => ?_
 simp only [ltb,go_sem,reduceLT]
 refine hK _ _ rfl ?_
 simp only [mwb,reduceAdd]
 refine ex_seq ?_
 refine ex_if rfl (fun hc9 => ?_) (fun hc9 => ?_)
 ·have hlti : i < (fs.length) := by simpa using hc9
  refine ex_skip ?_
  show Go.Eng.Ex _ _ _ _ _ _
  refine ex_seq ?_
  refine ex_block ?_
  refine ex_region_w tt_ok 19 [0,0,0,0,0,2,0,0,0,0,1] [] rfl rfl fun K hK => ?_
  simp only [ltb,go_sem,reduceLT]
  refine hK _ _ rfl ?_
  simp only [mwb,reduceAdd,reduceEqDiff]
  refine ex_region_w tt_ok 19 (rp 11 0 [1,1,1,1,1,2]) [] rfl rfl fun K hK => ?_
  refine runX_cut 3 fun K1 hK1 => ?_
  simp only [ltb,go_sem,reduceLT,reduceEqDiff,reduceCtorEq]
  refine hK1 _ ?_
  obtain ⟨x, hx⟩ : ∃ x, fs[i]? = some x := ⟨_, List.getElem?_eq_getElem hlti⟩
  try simp only [ltb]
  simp only [get_encFds,hx,encFd_eq,tyCells,go_sem,reduceAdd,reduceLT,reduceEqDiff]
  refine callF_ex (by have h := hg x; rw [encFd_eq] at h; simpa only [tyCells, List.cons_append, List.nil_append] using h) ?_
  rintro _ ⟨r1, rfl⟩
  try simp only [go_sem]
  refine hK _ _ rfl ?_
  simp only [mwb,reduceAdd,reduceEqDiff]
  refine ex_if rfl (fun hc16 => ?_) (fun hc16 => ?_)
  ·refine ex_region_w tt_ok 19 (0::0::0::0::2::(rp 12 0 [1])) [] rfl rfl fun K hK => ?_
   simp only [ltb,go_sem,reduceLT]
   refine hK _ _ rfl ?_
   simp only [mwb,reduceAdd,reduceEqDiff]
   exact ex_ret ⟨.inl rfl, _, ⟨_, rfl⟩, rfl⟩
  ·refine ex_skip ?_
   show Go.Eng.Ex _ _ _ _ _ _
   refine ex_last_region_w tt_ok 19 (rp 8 0 (2::(rp 9 0 [2]))) [] (by kernel_rfl) rfl rfl fun K hK => ?_
   simp only [ltb,go_sem,reduceLT]
   refine hK _ _ rfl ?_
   simp only [mwb,reduceAdd,reduceEqDiff]
   have hwi := i64_succ i (by omega)
   refine ⟨hlti, 0, [true,true,false,false,true,false,false,true,true], by omega, by simp only [maskFr,belowV,mkb], by simp only [List.all_nil,List.take_nil], ?_⟩
   simp only [hwi,maskFr,mkb]
 ·have hgei : ¬ i < (fs.length) := by simpa using hc9
  refine ex_exit ?_
  show Go.Eng.Ex _ _ _ _ _ _
  refine ex_region_w tt_ok 19 [0,0,0,0,2] [] rfl rfl fun K hK => ?_
  simp only [ltb,go_sem]
  refine hK _ _ rfl ?_
  simp only [mwb,reduceAdd]
  exact ex_ret ⟨.inl rfl, _, ⟨_, rfl⟩, rfl⟩
theorem containsFd_tot (g : FuncId) (fs : List Fd) (hg : ∀ f : Fd, ∃ r, isB r ∧ FnOk Tryz.prog g [encFd f] r) (hl : fs.length ≤ 1048576) : ∃ r, isB r ∧ FnOk Tryz.prog 97 [.slice (encFds fs), .sc (.func (.func g) #[] #[])] r := by
 refine fn_ex tt_ok (fn := Tryz.f97) Tryz.func97 rfl Tryz.call97 ?_
 simp only [ltb,startSt,Tryz.ntmps97,List.length_cons,List.length_nil,reduceAdd,reduceSub,List.replicate_succ,List.replicate_zero]
 refine ex_region_w tt_ok 9 [0,0,0,0,2] [] rfl rfl fun K hK => ?_
 simp only [ltb,go_sem]
 refine hK _ _ rfl ?_
 simp only [mwb,reduceAdd]
 refine ex_region_w tt_ok 9 [0,0,0,0,2,1,1,1,1] [] rfl rfl fun K hK => ?_
 refine runX_cut 3 fun K1 hK1 => ?_
 simp only [ltb,go_sem,reduceLT,reduceEqDiff]
 refine callF_ex (indexFd_tot g fs hg hl) ?_
 rintro _ ⟨r1, rfl⟩
 try simp only [go_sem]
 refine hK1 _ ?_
 simp only [ltb,go_sem,reduceLT,reduceEqDiff]
 refine hK _ _ rfl ?_
 simp only [mwb,reduceAdd,reduceEqDiff]
 exact ex_ret ⟨.inl rfl, _, ⟨_, rfl⟩, rfl⟩
end Go.Proofs.YtpjdfcigadnhcaaGreatDoor
end

section
namespace Go.Proofs.YtpjdfcigadnhcaaGreatDoor
open Go.Eng
open Nat (reduceAdd reduceLT reduceLeDiff reduceMul reduceEqDiff reduceSub)
variable [Glob]
set_option maxHeartbeats 4000000
set_option maxRecDepth 100000
attribute [local irreducible] runM stepM valD stepOp stepD callF
theorem cmpS_tot (s t : ByteArray) : ∃ r, isN r ∧ FnOk Tryz.prog 183 [str s, str t] r := by
 refine fn_ex tt_ok (fn := Tryz.f183) Tryz.func183 rfl Tryz.call183 ?_
 simp only [ltb,startSt,Tryz.ntmps183,List.length_cons,List.length_nil,reduceAdd,reduceSub,List.replicate_succ,List.replicate_zero]
 refine ex_region_w tt_ok 8 [0,0,0,0,2] [] rfl rfl fun K hK => ?_
 simp only [ltb,go_sem]
 refine hK _ _ rfl ?_
 simp only [mwb,reduceAdd]
 refine ex_region_w tt_ok 8 [0,0,0,0,2,1,1,1] [] rfl rfl fun K hK => ?_
 refine runX_cut 3 fun K1 hK1 => ?_
 simp only [ltb,go_sem,reduceLT,reduceEqDiff]
 refine callF_nat (cmp_nat _ _) ?_
 rintro _ ⟨r1, rfl⟩
 try simp only [go_sem]
 refine hK1 _ ?_
 simp only [ltb,go_sem,reduceLT,reduceEqDiff]
 refine hK _ _ rfl ?_
 simp only [mwb,reduceAdd,reduceEqDiff]
 exact ex_ret ⟨.inl rfl, _, ⟨_, rfl⟩, rfl⟩
theorem compare_tot (s t : ByteArray) : ∃ r, isN r ∧ FnOk Tryz.prog 150 [str s, str t] r := by
 refine fn_ex tt_ok (fn := Tryz.f150) Tryz.func150 rfl Tryz.call150 ?_
 simp only [ltb,startSt,Tryz.ntmps150,List.length_cons,List.length_nil,reduceAdd,reduceSub,List.replicate_succ,List.replicate_zero]
 refine ex_region_w tt_ok 8 [0,0,0,0,2] [] rfl rfl fun K hK => ?_
 simp only [ltb,go_sem]
 refine hK _ _ rfl ?_
 simp only [mwb,reduceAdd]
 refine ex_region_w tt_ok 8 [0,0,0,0,2,1,1,1] [] rfl rfl fun K hK => ?_
 refine runX_cut 3 fun K1 hK1 => ?_
 simp only [ltb,go_sem,reduceLT,reduceEqDiff]
 refine callF_ex (cmpS_tot _ _) ?_
 rintro _ ⟨r1, rfl⟩
 try simp only [go_sem]
 refine hK1 _ ?_
 simp only [ltb,go_sem,reduceLT,reduceEqDiff]
 refine hK _ _ rfl ?_
 simp only [mwb,reduceAdd,reduceEqDiff]
 exact ex_ret ⟨.inl rfl, _, ⟨_, rfl⟩, rfl⟩
theorem increaseFd_tot (g : FuncId) (fs : List Fd) (hg : ∀ f : Fd, ∃ r, (∃ s : ByteArray, r = str s) ∧ FnOk Tryz.prog g [encFd f] r) (hl : fs.length ≤ 1048576) : ∃ r, isN r ∧ FnOk Tryz.prog 100 [.slice (encFds fs), .sc (.func (.func g) #[] #[])] r := by
 refine fn_ex tt_ok (fn := Tryz.f100) Tryz.func100 rfl Tryz.call100 ?_
 simp only [ltb,startSt,Tryz.ntmps100,List.length_cons,List.length_nil,reduceAdd,reduceSub,List.replicate_succ,List.replicate_zero]
 refine ex_region_w tt_ok 33 [0,0,0,0,2] [] rfl rfl fun K hK => ?_
 simp only [ltb,go_sem]
 refine hK _ _ rfl ?_
 simp only [mwb,reduceAdd]
 refine ex_seq ?_
 refine ex_region_w tt_ok 33 [0,0,0,0,0,2] [] rfl rfl fun K hK => ?_
 simp only [ltb,go_sem]
 refine hK _ _ rfl ?_
 simp only [mwb,reduceAdd]
 refine ex_block ?_
 refine ex_loopK [5] [num 1] 0 [true,true,false,false,true,true] (fun vs => ((fs.length : Int) - intOf (vs.headD .undef)).toNat) (fun vs => ∃ i : Nat, vs = [num i] ∧ 1 ≤ i) (by omega) (by simp only [maskFr,belowV,mkb]) (by simp only [List.all_nil,List.take_nil]) (by rfl) (⟨1, rfl, by omega⟩) fun vs hI => ?_
 obtain ⟨i, rfl, hi⟩ := hI
 simp only [maskFr,putAll,List.set_cons_zero,List.set_cons_succ,mkb]
 refine ex_seq ?_
 refine ex_region_w tt_ok 33 [0,0,0,0,0,0,0,1,1,1,2] [] rfl rfl fun K hK => ?_
 try simp only [ltb]
 simp only [length_encFds,go_sem,reduceLT,reduceEqDiff,reduceCtorEq]
 refine hK _ _ rfl ?_
 simp only [mwb,reduceAdd,reduceEqDiff]
 refine ex_if rfl (fun hc10 => ?_) (fun hc10 => ?_)
 ·have hlt : i < fs.length := by simpa using hc10
  obtain ⟨x, hx⟩ : ∃ x, fs[i - 1]? = some x := ⟨_, List.getElem?_eq_getElem (by omega)⟩
  obtain ⟨y, hy⟩ : ∃ y, fs[i]? = some y := ⟨_, List.getElem?_eq_getElem hlt⟩
  have hw := i64_succ i (by omega)
  have hwm : IntKind.i64.wrap ((i : Int) - 1) = ((i - 1 : Nat) : Int) := by rw [IntWalk.i64_in _ (by omega)]; omega
  refine ex_skip ?_
  show Go.Eng.Ex _ _ _ _ _ _
  refine ex_seq ?_
  refine ex_block ?_
  refine ex_mixed_w tt_ok mixed_ok 33 [0,0,0,0,0,0,2,0,0,0,0,0,0,1,1,1,1,1,1,1,1,1,1,1,1,1,1] (by kernel_rfl) [⟨.n, 0, [], []⟩, ⟨.n, 0, [], []⟩, ⟨.n, 0, [], []⟩, ⟨.n, 0, [], []⟩, ⟨.r, 0, [], []⟩, ⟨.r, 0, [], []⟩, ⟨.n, 0, [], []⟩, ⟨.n, 0, [], []⟩, ⟨.n, 0, [], []⟩, ⟨.n, 0, [], []⟩, ⟨.r, 0, [], []⟩, ⟨.r, 0, [], []⟩, ⟨.n, 0, [], []⟩, ⟨.n, 0, [], []⟩, ⟨.n, 0, [], []⟩] 0 (by kernel_rfl) fun K hK => ?_
  try simp only [List.nil_append,List.replicate_zero]
  refine runM_cut 6 (by simp) (by simp) fun K1 hK1 => ?_
  try simp only [ltb]
  simp only [hwm,get_encFds,hx,encFd_eq,tyCells,go_sem,reduceAdd,reduceLT,reduceEqDiff,reduceCtorEq]
  refine hK1 _ ?_
  refine runM_cut 1 (by simp) (by simp) fun K1 hK1 => ?_
  simp only [ltb,go_sem,reduceLT,reduceEqDiff]
  refine callD_ex rfl (by have h := hg x; rw [encFd_eq] at h; exact h) ?_
  rintro _ ⟨sx, rfl⟩
  try simp only [go_sem]
  refine hK1 _ ?_
  refine runM_cut 6 (by simp) (by simp) fun K1 hK1 => ?_
  try simp only [ltb]
  simp only [get_encFds,hy,encFd_eq,tyCells,go_sem,reduceAdd,reduceLT,reduceEqDiff,reduceCtorEq]
  refine callD_ex rfl (by have h := hg y; rw [encFd_eq] at h; exact h) ?_
  rintro _ ⟨sy, rfl⟩
  try simp only [go_sem]
  refine hK1 _ ?_
  refine runM_cut 1 (by simp) (by simp) fun K1 hK1 => ?_
  simp only [ltb,go_sem,reduceLT,reduceEqDiff]
  refine callD_ex rfl (compare_tot _ _) ?_
  rintro _ ⟨r3, rfl⟩
  try simp only [go_sem]
  refine hK1 _ ?_
  simp only [ltb,go_sem,reduceLT,reduceEqDiff]
  refine hK _ _ rfl ?_
  simp only [mwb,reduceAdd,reduceEqDiff]
  refine ex_block ?_
  refine ex_region_w tt_ok 33 (rp 27 0 [2,1,1]) [] rfl rfl fun K hK => ?_
  simp only [ltb,go_sem,reduceLT,reduceEqDiff]
  refine hK _ _ rfl ?_
  simp only [mwb,reduceAdd,reduceEqDiff]
  refine ex_if rfl (fun hc27 => ?_) (fun hc27 => ?_)
  ·refine ex_region_w tt_ok 33 [0,0,0,0,2] [] rfl rfl fun K hK => ?_
   simp only [ltb,go_sem]
   refine hK _ _ rfl ?_
   simp only [mwb,reduceAdd]
   exact ex_ret ⟨.inl rfl, _, ⟨_, rfl⟩, rfl⟩
  ·refine ex_region_w tt_ok 33 (rp 30 0 [2,1,1]) [] rfl rfl fun K hK => ?_
   simp only [ltb,go_sem,reduceLT,reduceEqDiff]
   refine hK _ _ rfl ?_
   simp only [mwb,reduceAdd,reduceEqDiff]
   refine ex_if rfl (fun hc30 => ?_) (fun hc30 => ?_)
   ·refine ex_region_w tt_ok 33 [0,0,0,0,2] [] rfl rfl fun K hK => ?_
    simp only [ltb,go_sem]
    refine hK _ _ rfl ?_
    simp only [mwb,reduceAdd]
    exact ex_ret ⟨.inl rfl, _, ⟨_, rfl⟩, rfl⟩
   ·refine ex_skip ?_
    show Go.Eng.Ex _ _ _ _ _ _
    refine ex_last_region_w tt_ok 33 [0,0,0,0,0,2,0,0,0,0,0,2,2] [] (by kernel_rfl) rfl rfl fun K hK => ?_
    try simp only [ltb]
    simp only [hw,go_sem,reduceLT,reduceEqDiff]
    refine hK _ _ rfl ?_
    simp only [mwb,reduceAdd,reduceEqDiff]
    refine ⟨[_], ?_, ?_, 0, [true,true,false,false,true,true], by omega, by simp only [maskFr,belowV,mkb], by simp only [List.all_nil,List.take_nil], by simp only [maskFr,putAll,List.set_cons_zero,List.set_cons_succ,mkb]; rfl⟩
    ·exact ⟨i + 1, rfl, by omega⟩
    ·simp only [intOf,List.headD_cons]; omega
 ·refine ex_exit ?_
  show Go.Eng.Ex _ _ _ _ _ _
  refine ex_region_w tt_ok 33 [0,0,0,0,2] [] rfl rfl fun K hK => ?_
  simp only [ltb,go_sem]
  refine hK _ _ rfl ?_
  simp only [mwb,reduceAdd]
  exact ex_ret ⟨.inl rfl, _, ⟨_, rfl⟩, rfl⟩
theorem shaped_tot (t : Ty) (hl : t.flds.length ≤ 1048576) : ∃ r, isB r ∧ FnOk Tryz.prog 95 [encTy t] r := by
 refine fn_ex tt_ok (fn := Tryz.f95) Tryz.func95 rfl Tryz.call95 ?_
 simp only [ltb,startSt,Tryz.ntmps95,List.length_cons,List.length_nil,reduceAdd,reduceSub,List.replicate_succ,List.replicate_zero]
 simp only [encTy_eq,tyCells]
 refine ex_region_w tt_ok 106 [0,2,2] [] rfl rfl fun K hK => ?_
 simp only [ltb,go_sem,reduceLT]
 refine hK _ _ rfl ?_
 simp only [mwb,reduceAdd,reduceEqDiff]
 refine ex_mixed_w tt_ok mixed_ok 106 [0,0,0,2,2,2,2,1,1,1,1,1,1,1,1,1,1,1,1] (by kernel_rfl) [⟨.n, 0, [], []⟩, ⟨.r, 0, [], []⟩, ⟨.n, 0, [], []⟩, ⟨.n, 0, [], []⟩, ⟨.r, 0, [], []⟩, ⟨.n, 0, [], []⟩, ⟨.n, 0, [], []⟩, ⟨.r, 0, [], []⟩, ⟨.n, 0, [], []⟩, ⟨.n, 0, [], []⟩, ⟨.r, 0, [], []⟩, ⟨.n, 0, [], []⟩, ⟨.n, 0, [], []⟩, ⟨.n, 0, [], []⟩, ⟨.n, 0, [], []⟩, ⟨.n, 0, [], []⟩] 0 (by kernel_rfl) fun K hK => ?_
 try simp only [ltb,List.replicate_zero]
 refine runM_cut 6 (by simp) (by simp) fun K1 hK1 => ?_
 simp only [ltb,go_sem,reduceLT,reduceEqDiff]
 refine hK1 _ ?_
 refine runM_cut 6 (by simp) (by simp) fun K1 hK1 => ?_
 try simp only [ltb]
 simp only [length_encFds,length_encTys,go_sem,reduceLT,reduceEqDiff]
 refine hK1 _ ?_
 simp only [ltb,go_sem,reduceLT,reduceEqDiff]
 refine hK _ _ rfl ?_
 simp only [mwb,reduceAdd,reduceEqDiff]
 refine ex_seq ?_
 refine ex_region_w tt_ok 106 (rp 19 0 [1,1,1,1,1,1,1,2]) [(3, 22)] rfl rfl fun K hK => ?_
 refine runX_cut 4 fun K1 hK1 => ?_
 simp only [ltb,go_sem,reduceAdd,reduceLT,reduceLeDiff,reduceEqDiff]
 refine hK1 _ ?_
 refine runX_case 22 (by rfl) fun b hb2_3 => ?_
 cases b
 ·simp only [ltb,go_sem,reduceLT,reduceEqDiff]
  refine hK _ _ rfl ?_
  simp only [mwb,reduceAdd,reduceEqDiff]
  refine ex_cond rfl ?_
  refine ex_skip ?_
  show Go.Eng.Ex _ _ _ _ _ _
  refine ex_seq ?_
  refine ex_region_w tt_ok 106 (rp 27 0 [1,2]) [] rfl rfl fun K hK => ?_
  simp only [ltb,go_sem,reduceAdd,reduceLT,reduceLeDiff]
  refine hK _ _ rfl ?_
  simp only [mwb,reduceAdd,reduceEqDiff]
  refine ex_block ?_
  refine ex_seq ?_
  refine ex_region_w tt_ok 106 (rp 29 0 [2,1]) [] rfl rfl fun K hK => ?_
  simp only [ltb,go_sem,reduceLT]
  refine hK _ _ rfl ?_
  simp only [mwb,reduceAdd,reduceEqDiff]
  refine ex_if rfl (fun hc29 => ?_) (fun hc29 => ?_)
  ·refine ex_skip ?_
   show Go.Eng.Ex _ _ _ _ _ _
   refine ex_cond (b := true) (congrArg (fun b => V.sc (Value.bool b)) hc29) ?_
   refine ex_region_w tt_ok 106 (0::0::2::(rp 32 0 (rp 14 1 []))) [(2, 37), (6, 41), (10, 45)] rfl rfl fun K hK => ?_
   refine runX_cut 3 fun K1 hK1 => ?_
   simp only [ltb,go_sem,reduceLT,reduceEqDiff]
   refine hK1 _ ?_
   refine runX_case 37 (by rfl) fun b hb10_2 => ?_
   cases b
   ·refine runX_cut 8 fun K1 hK1 => ?_
    simp only [ltb,go_sem,reduceLT,reduceEqDiff]
    refine hK1 _ ?_
    simp only [ltb,go_sem,reduceLT,reduceEqDiff]
    refine hK _ _ rfl ?_
    simp only [mwb,reduceAdd,reduceEqDiff]
    exact ex_ret ⟨.inl rfl, _, ⟨_, rfl⟩, rfl⟩
   ·refine runX_cut 4 fun K1 hK1 => ?_
    simp only [ltb,go_sem,reduceLT,reduceEqDiff]
    refine hK1 _ ?_
    refine runX_case 41 (by rfl) fun b hb10_6 => ?_
    cases b
    ·simp only [ltb,go_sem,reduceLT,reduceEqDiff]
     refine hK _ _ rfl ?_
     simp only [mwb,reduceAdd,reduceEqDiff]
     exact ex_ret ⟨.inl rfl, _, ⟨_, rfl⟩, rfl⟩
    ·refine runX_cut 4 fun K1 hK1 => ?_
     simp only [ltb,go_sem,reduceLT,reduceEqDiff]
     refine hK1 _ ?_
     refine runX_case 45 (by rfl) fun b hb10_10 => ?_
     cases b
     ·simp only [ltb,go_sem,reduceLT,reduceEqDiff]
      refine hK _ _ rfl ?_
      simp only [mwb,reduceAdd,reduceEqDiff]
      exact ex_ret ⟨.inl rfl, _, ⟨_, rfl⟩, rfl⟩
     ·simp only [ltb,go_sem,reduceLT,reduceEqDiff]
      refine hK _ _ rfl ?_
      simp only [mwb,reduceAdd,reduceEqDiff]
      exact ex_ret ⟨.inl rfl, _, ⟨_, rfl⟩, rfl⟩
  ·refine ex_region_w tt_ok 106 (rp 29 0 [2,0,1]) [] rfl rfl fun K hK => ?_
   simp only [ltb,go_sem,reduceLT]
   refine hK _ _ rfl ?_
   simp only [mwb,reduceAdd,reduceEqDiff]
   refine ex_if rfl (fun hc29 => ?_) (fun hc29 => ?_)
   ·refine ex_skip ?_
    show Go.Eng.Ex _ _ _ _ _ _
    refine ex_cond (b := true) (congrArg (fun b => V.sc (Value.bool b)) hc29) ?_
    refine ex_region_w tt_ok 106 (0::0::2::(rp 32 0 (rp 14 1 []))) [(2, 37), (6, 41), (10, 45)] rfl rfl fun K hK => ?_
    refine runX_cut 3 fun K1 hK1 => ?_
    simp only [ltb,go_sem,reduceLT,reduceEqDiff]
    refine hK1 _ ?_
    refine runX_case 37 (by rfl) fun b hb10_2 => ?_
    cases b
    ·refine runX_cut 8 fun K1 hK1 => ?_
     simp only [ltb,go_sem,reduceLT,reduceEqDiff]
     refine hK1 _ ?_
     simp only [ltb,go_sem,reduceLT,reduceEqDiff]
     refine hK _ _ rfl ?_
     simp only [mwb,reduceAdd,reduceEqDiff]
     exact ex_ret ⟨.inl rfl, _, ⟨_, rfl⟩, rfl⟩
    ·refine runX_cut 4 fun K1 hK1 => ?_
     simp only [ltb,go_sem,reduceLT,reduceEqDiff]
     refine hK1 _ ?_
     refine runX_case 41 (by rfl) fun b hb10_6 => ?_
     cases b
     ·simp only [ltb,go_sem,reduceLT,reduceEqDiff]
      refine hK _ _ rfl ?_
      simp only [mwb,reduceAdd,reduceEqDiff]
      exact ex_ret ⟨.inl rfl, _, ⟨_, rfl⟩, rfl⟩
     ·refine runX_cut 4 fun K1 hK1 => ?_
      simp only [ltb,go_sem,reduceLT,reduceEqDiff]
      refine hK1 _ ?_
      refine runX_case 45 (by rfl) fun b hb10_10 => ?_
      cases b
      ·simp only [ltb,go_sem,reduceLT,reduceEqDiff]
       refine hK _ _ rfl ?_
       simp only [mwb,reduceAdd,reduceEqDiff]
       exact ex_ret ⟨.inl rfl, _, ⟨_, rfl⟩, rfl⟩
      ·simp only [ltb,go_sem,reduceLT,reduceEqDiff]
       refine hK _ _ rfl ?_
       simp only [mwb,reduceAdd,reduceEqDiff]
       exact ex_ret ⟨.inl rfl, _, ⟨_, rfl⟩, rfl⟩
   ·refine ex_region_w tt_ok 106 (rp 29 0 [2,0,0,1]) [] rfl rfl fun K hK => ?_
    simp only [ltb,go_sem,reduceLT]
    refine hK _ _ rfl ?_
    simp only [mwb,reduceAdd,reduceEqDiff]
    refine ex_if rfl (fun hc29 => ?_) (fun hc29 => ?_)
    ·refine ex_skip ?_
     show Go.Eng.Ex _ _ _ _ _ _
     refine ex_cond (b := true) (congrArg (fun b => V.sc (Value.bool b)) hc29) ?_
     refine ex_region_w tt_ok 106 (0::0::2::(rp 32 0 (rp 14 1 []))) [(2, 37), (6, 41), (10, 45)] rfl rfl fun K hK => ?_
     refine runX_cut 3 fun K1 hK1 => ?_
     simp only [ltb,go_sem,reduceLT,reduceEqDiff]
     refine hK1 _ ?_
     refine runX_case 37 (by rfl) fun b hb10_2 => ?_
     cases b
     ·refine runX_cut 8 fun K1 hK1 => ?_
      simp only [ltb,go_sem,reduceLT,reduceEqDiff]
      refine hK1 _ ?_
      simp only [ltb,go_sem,reduceLT,reduceEqDiff]
      refine hK _ _ rfl ?_
      simp only [mwb,reduceAdd,reduceEqDiff]
      exact ex_ret ⟨.inl rfl, _, ⟨_, rfl⟩, rfl⟩
     ·refine runX_cut 4 fun K1 hK1 => ?_
      simp only [ltb,go_sem,reduceLT,reduceEqDiff]
      refine hK1 _ ?_
      refine runX_case 41 (by rfl) fun b hb10_6 => ?_
      cases b
      ·simp only [ltb,go_sem,reduceLT,reduceEqDiff]
       refine hK _ _ rfl ?_
       simp only [mwb,reduceAdd,reduceEqDiff]
       exact ex_ret ⟨.inl rfl, _, ⟨_, rfl⟩, rfl⟩
      ·refine runX_cut 4 fun K1 hK1 => ?_
       simp only [ltb,go_sem,reduceLT,reduceEqDiff]
       refine hK1 _ ?_
       refine runX_case 45 (by rfl) fun b hb10_10 => ?_
       cases b
       ·simp only [ltb,go_sem,reduceLT,reduceEqDiff]
        refine hK _ _ rfl ?_
        simp only [mwb,reduceAdd,reduceEqDiff]
        exact ex_ret ⟨.inl rfl, _, ⟨_, rfl⟩, rfl⟩
       ·simp only [ltb,go_sem,reduceLT,reduceEqDiff]
        refine hK _ _ rfl ?_
        simp only [mwb,reduceAdd,reduceEqDiff]
        exact ex_ret ⟨.inl rfl, _, ⟨_, rfl⟩, rfl⟩
    ·refine ex_region_w tt_ok 106 (rp 29 0 [2,0,0,0,1]) [] rfl rfl fun K hK => ?_
     simp only [ltb,go_sem,reduceLT]
     refine hK _ _ rfl ?_
     simp only [mwb,reduceAdd,reduceEqDiff]
     refine ex_if rfl (fun hc29 => ?_) (fun hc29 => ?_)
     ·refine ex_skip ?_
      show Go.Eng.Ex _ _ _ _ _ _
      refine ex_cond (b := true) (congrArg (fun b => V.sc (Value.bool b)) hc29) ?_
      refine ex_region_w tt_ok 106 (0::0::2::(rp 32 0 (rp 14 1 []))) [(2, 37), (6, 41), (10, 45)] rfl rfl fun K hK => ?_
      refine runX_cut 3 fun K1 hK1 => ?_
      simp only [ltb,go_sem,reduceLT,reduceEqDiff]
      refine hK1 _ ?_
      refine runX_case 37 (by rfl) fun b hb10_2 => ?_
      cases b
      ·refine runX_cut 8 fun K1 hK1 => ?_
       simp only [ltb,go_sem,reduceLT,reduceEqDiff]
       refine hK1 _ ?_
       simp only [ltb,go_sem,reduceLT,reduceEqDiff]
       refine hK _ _ rfl ?_
       simp only [mwb,reduceAdd,reduceEqDiff]
       exact ex_ret ⟨.inl rfl, _, ⟨_, rfl⟩, rfl⟩
      ·refine runX_cut 4 fun K1 hK1 => ?_
       simp only [ltb,go_sem,reduceLT,reduceEqDiff]
       refine hK1 _ ?_
       refine runX_case 41 (by rfl) fun b hb10_6 => ?_
       cases b
       ·simp only [ltb,go_sem,reduceLT,reduceEqDiff]
        refine hK _ _ rfl ?_
        simp only [mwb,reduceAdd,reduceEqDiff]
        exact ex_ret ⟨.inl rfl, _, ⟨_, rfl⟩, rfl⟩
       ·refine runX_cut 4 fun K1 hK1 => ?_
        simp only [ltb,go_sem,reduceLT,reduceEqDiff]
        refine hK1 _ ?_
        refine runX_case 45 (by rfl) fun b hb10_10 => ?_
        cases b
        ·simp only [ltb,go_sem,reduceLT,reduceEqDiff]
         refine hK _ _ rfl ?_
         simp only [mwb,reduceAdd,reduceEqDiff]
         exact ex_ret ⟨.inl rfl, _, ⟨_, rfl⟩, rfl⟩
        ·simp only [ltb,go_sem,reduceLT,reduceEqDiff]
         refine hK _ _ rfl ?_
         simp only [mwb,reduceAdd,reduceEqDiff]
         exact ex_ret ⟨.inl rfl, _, ⟨_, rfl⟩, rfl⟩
     ·refine ex_last_region_w tt_ok 106 (rp 29 0 [2,0,0,0,0,2]) [] (by kernel_rfl) rfl rfl fun K hK => ?_
      simp only [ltb,go_sem,reduceLT]
      refine hK _ _ rfl ?_
      simp only [mwb,reduceAdd,reduceEqDiff]
      show Go.Eng.Ex _ _ _ _ _ _
      refine ex_if rfl (fun hc29 => ?_) (fun hc29 => ?_)
      ·refine ex_region_w tt_ok 106 (0::0::2::(rp 32 0 (rp 14 1 []))) [(2, 37), (6, 41), (10, 45)] rfl rfl fun K hK => ?_
       refine runX_cut 3 fun K1 hK1 => ?_
       simp only [ltb,go_sem,reduceLT,reduceEqDiff]
       refine hK1 _ ?_
       refine runX_case 37 (by rfl) fun b hb10_2 => ?_
       cases b
       ·refine runX_cut 8 fun K1 hK1 => ?_
        simp only [ltb,go_sem,reduceLT,reduceEqDiff]
        refine hK1 _ ?_
        simp only [ltb,go_sem,reduceLT,reduceEqDiff]
        refine hK _ _ rfl ?_
        simp only [mwb,reduceAdd,reduceEqDiff]
        exact ex_ret ⟨.inl rfl, _, ⟨_, rfl⟩, rfl⟩
       ·refine runX_cut 4 fun K1 hK1 => ?_
        simp only [ltb,go_sem,reduceLT,reduceEqDiff]
        refine hK1 _ ?_
        refine runX_case 41 (by rfl) fun b hb10_6 => ?_
        cases b
        ·simp only [ltb,go_sem,reduceLT,reduceEqDiff]
         refine hK _ _ rfl ?_
         simp only [mwb,reduceAdd,reduceEqDiff]
         exact ex_ret ⟨.inl rfl, _, ⟨_, rfl⟩, rfl⟩
        ·refine runX_cut 4 fun K1 hK1 => ?_
         simp only [ltb,go_sem,reduceLT,reduceEqDiff]
         refine hK1 _ ?_
         refine runX_case 45 (by rfl) fun b hb10_10 => ?_
         cases b
         ·simp only [ltb,go_sem,reduceLT,reduceEqDiff]
          refine hK _ _ rfl ?_
          simp only [mwb,reduceAdd,reduceEqDiff]
          exact ex_ret ⟨.inl rfl, _, ⟨_, rfl⟩, rfl⟩
         ·simp only [ltb,go_sem,reduceLT,reduceEqDiff]
          refine hK _ _ rfl ?_
          simp only [mwb,reduceAdd,reduceEqDiff]
          exact ex_ret ⟨.inl rfl, _, ⟨_, rfl⟩, rfl⟩
      ·refine ex_region_w tt_ok 106 (rp 49 0 [2,1]) [] rfl rfl fun K hK => ?_
       simp only [ltb,go_sem,reduceLT]
       refine hK _ _ rfl ?_
       simp only [mwb,reduceAdd,reduceEqDiff]
       refine ex_if rfl (fun hc49 => ?_) (fun hc49 => ?_)
       ·refine ex_region_w tt_ok 106 (0::0::2::(rp 48 0 (rp 14 1 []))) [(2, 53), (6, 57), (10, 61)] rfl rfl fun K hK => ?_
        refine runX_cut 3 fun K1 hK1 => ?_
        simp only [ltb,go_sem,reduceLT,reduceEqDiff]
        refine hK1 _ ?_
        refine runX_case 53 (by rfl) fun b hb12_2 => ?_
        cases b
        ·refine runX_cut 8 fun K1 hK1 => ?_
         simp only [ltb,go_sem,reduceLT,reduceEqDiff]
         refine hK1 _ ?_
         simp only [ltb,go_sem,reduceLT,reduceEqDiff]
         refine hK _ _ rfl ?_
         simp only [mwb,reduceAdd,reduceEqDiff]
         exact ex_ret ⟨.inl rfl, _, ⟨_, rfl⟩, rfl⟩
        ·refine runX_cut 4 fun K1 hK1 => ?_
         simp only [ltb,go_sem,reduceLT,reduceEqDiff]
         refine hK1 _ ?_
         refine runX_case 57 (by rfl) fun b hb12_6 => ?_
         cases b
         ·simp only [ltb,go_sem,reduceLT,reduceEqDiff]
          refine hK _ _ rfl ?_
          simp only [mwb,reduceAdd,reduceEqDiff]
          exact ex_ret ⟨.inl rfl, _, ⟨_, rfl⟩, rfl⟩
         ·refine runX_cut 4 fun K1 hK1 => ?_
          simp only [ltb,go_sem,reduceLT,reduceEqDiff]
          refine hK1 _ ?_
          refine runX_case 61 (by rfl) fun b hb12_10 => ?_
          cases b
          ·simp only [ltb,go_sem,reduceLT,reduceEqDiff]
           refine hK _ _ rfl ?_
           simp only [mwb,reduceAdd,reduceEqDiff]
           exact ex_ret ⟨.inl rfl, _, ⟨_, rfl⟩, rfl⟩
          ·simp only [ltb,go_sem,reduceLT,reduceEqDiff]
           refine hK _ _ rfl ?_
           simp only [mwb,reduceAdd,reduceEqDiff]
           exact ex_ret ⟨.inl rfl, _, ⟨_, rfl⟩, rfl⟩
       ·refine ex_seq ?_
        refine ex_region_w tt_ok 106 (rp 65 0 [2,1]) [] rfl rfl fun K hK => ?_
        simp only [ltb,go_sem,reduceLT]
        refine hK _ _ rfl ?_
        simp only [mwb,reduceAdd,reduceEqDiff]
        refine ex_if rfl (fun hc65 => ?_) (fun hc65 => ?_)
        ·refine ex_skip ?_
         show Go.Eng.Ex _ _ _ _ _ _
         refine ex_cond (b := true) (congrArg (fun b => V.sc (Value.bool b)) hc65) ?_
         refine ex_region_w tt_ok 106 (0::0::2::(rp 65 0 (rp 10 1 []))) [(2, 70), (6, 74)] rfl rfl fun K hK => ?_
         refine runX_cut 3 fun K1 hK1 => ?_
         simp only [ltb,go_sem,reduceLT,reduceEqDiff]
         refine hK1 _ ?_
         refine runX_case 70 (by rfl) fun b hb15_2 => ?_
         cases b
         ·simp only [ltb,go_sem,reduceLT,reduceEqDiff]
          refine hK _ _ rfl ?_
          simp only [mwb,reduceAdd,reduceEqDiff]
          exact ex_ret ⟨.inl rfl, _, ⟨_, rfl⟩, rfl⟩
         ·refine runX_cut 4 fun K1 hK1 => ?_
          simp only [ltb,go_sem,reduceLT,reduceEqDiff]
          refine hK1 _ ?_
          refine runX_case 74 (by rfl) fun b hb15_6 => ?_
          cases b
          ·simp only [ltb,go_sem,reduceLT,reduceEqDiff]
           refine hK _ _ rfl ?_
           simp only [mwb,reduceAdd,reduceEqDiff]
           exact ex_ret ⟨.inl rfl, _, ⟨_, rfl⟩, rfl⟩
          ·simp only [ltb,go_sem,reduceLT,reduceEqDiff]
           refine hK _ _ rfl ?_
           simp only [mwb,reduceAdd,reduceEqDiff]
           exact ex_ret ⟨.inl rfl, _, ⟨_, rfl⟩, rfl⟩
        ·refine ex_last_region_w tt_ok 106 (rp 65 0 [2,0,2]) [] (by kernel_rfl) rfl rfl fun K hK => ?_
         simp only [ltb,go_sem,reduceLT]
         refine hK _ _ rfl ?_
         simp only [mwb,reduceAdd,reduceEqDiff]
         show Go.Eng.Ex _ _ _ _ _ _
         refine ex_if rfl (fun hc65 => ?_) (fun hc65 => ?_)
         ·refine ex_region_w tt_ok 106 (0::0::2::(rp 65 0 (rp 10 1 []))) [(2, 70), (6, 74)] rfl rfl fun K hK => ?_
          refine runX_cut 3 fun K1 hK1 => ?_
          simp only [ltb,go_sem,reduceLT,reduceEqDiff]
          refine hK1 _ ?_
          refine runX_case 70 (by rfl) fun b hb15_2 => ?_
          cases b
          ·simp only [ltb,go_sem,reduceLT,reduceEqDiff]
           refine hK _ _ rfl ?_
           simp only [mwb,reduceAdd,reduceEqDiff]
           exact ex_ret ⟨.inl rfl, _, ⟨_, rfl⟩, rfl⟩
          ·refine runX_cut 4 fun K1 hK1 => ?_
           simp only [ltb,go_sem,reduceLT,reduceEqDiff]
           refine hK1 _ ?_
           refine runX_case 74 (by rfl) fun b hb15_6 => ?_
           cases b
           ·simp only [ltb,go_sem,reduceLT,reduceEqDiff]
            refine hK _ _ rfl ?_
            simp only [mwb,reduceAdd,reduceEqDiff]
            exact ex_ret ⟨.inl rfl, _, ⟨_, rfl⟩, rfl⟩
           ·simp only [ltb,go_sem,reduceLT,reduceEqDiff]
            refine hK _ _ rfl ?_
            simp only [mwb,reduceAdd,reduceEqDiff]
            exact ex_ret ⟨.inl rfl, _, ⟨_, rfl⟩, rfl⟩
         ·refine ex_region_w tt_ok 106 (rp 78 0 [2,1]) [] rfl rfl fun K hK => ?_
          simp only [ltb,go_sem,reduceLT]
          refine hK _ _ rfl ?_
          simp only [mwb,reduceAdd,reduceEqDiff]
          refine ex_if rfl (fun hc78 => ?_) (fun hc78 => ?_)
          ·refine ex_region_w tt_ok 106 (0::0::2::(rp 77 0 (rp 10 1 []))) [(2, 82), (6, 86)] rfl rfl fun K hK => ?_
           refine runX_cut 3 fun K1 hK1 => ?_
           simp only [ltb,go_sem,reduceLT,reduceEqDiff]
           refine hK1 _ ?_
           refine runX_case 82 (by rfl) fun b hb17_2 => ?_
           cases b
           ·simp only [ltb,go_sem,reduceLT,reduceEqDiff]
            refine hK _ _ rfl ?_
            simp only [mwb,reduceAdd,reduceEqDiff]
            exact ex_ret ⟨.inl rfl, _, ⟨_, rfl⟩, rfl⟩
           ·refine runX_cut 4 fun K1 hK1 => ?_
            simp only [ltb,go_sem,reduceLT,reduceEqDiff]
            refine hK1 _ ?_
            refine runX_case 86 (by rfl) fun b hb17_6 => ?_
            cases b
            ·simp only [ltb,go_sem,reduceLT,reduceEqDiff]
             refine hK _ _ rfl ?_
             simp only [mwb,reduceAdd,reduceEqDiff]
             exact ex_ret ⟨.inl rfl, _, ⟨_, rfl⟩, rfl⟩
            ·simp only [ltb,go_sem,reduceLT,reduceEqDiff]
             refine hK _ _ rfl ?_
             simp only [mwb,reduceAdd,reduceEqDiff]
             exact ex_ret ⟨.inl rfl, _, ⟨_, rfl⟩, rfl⟩
          ·refine ex_region_w tt_ok 106 (rp 90 0 [2,1]) [] rfl rfl fun K hK => ?_
           simp only [ltb,go_sem,reduceLT]
           refine hK _ _ rfl ?_
           simp only [mwb,reduceAdd,reduceEqDiff]
           refine ex_if rfl (fun hc90 => ?_) (fun hc90 => ?_)
           ·refine ex_region_w tt_ok 106 (0::0::2::(rp 89 0 (rp 10 1 []))) [(2, 94), (6, 98)] rfl rfl fun K hK => ?_
            refine runX_cut 3 fun K1 hK1 => ?_
            simp only [ltb,go_sem,reduceLT,reduceEqDiff]
            refine hK1 _ ?_
            refine runX_case 94 (by rfl) fun b hb19_2 => ?_
            cases b
            ·simp only [ltb,go_sem,reduceLT,reduceEqDiff]
             refine hK _ _ rfl ?_
             simp only [mwb,reduceAdd,reduceEqDiff]
             exact ex_ret ⟨.inl rfl, _, ⟨_, rfl⟩, rfl⟩
            ·refine runX_cut 4 fun K1 hK1 => ?_
             simp only [ltb,go_sem,reduceLT,reduceEqDiff]
             refine hK1 _ ?_
             refine runX_case 98 (by rfl) fun b hb19_6 => ?_
             cases b
             ·simp only [ltb,go_sem,reduceLT,reduceEqDiff]
              refine hK _ _ rfl ?_
              simp only [mwb,reduceAdd,reduceEqDiff]
              exact ex_ret ⟨.inl rfl, _, ⟨_, rfl⟩, rfl⟩
             ·simp only [ltb,go_sem,reduceLT,reduceEqDiff]
              refine hK _ _ rfl ?_
              simp only [mwb,reduceAdd,reduceEqDiff]
              exact ex_ret ⟨.inl rfl, _, ⟨_, rfl⟩, rfl⟩
           ·refine ex_region_w tt_ok 106 (rp 102 0 [2,1]) [] rfl rfl fun K hK => ?_
            simp only [ltb,go_sem,reduceLT]
            refine hK _ _ rfl ?_
            simp only [mwb,reduceAdd,reduceEqDiff]
            refine ex_if rfl (fun hc102 => ?_) (fun hc102 => ?_)
            ·refine ex_region_w tt_ok 106 (0::0::2::(rp 101 0 [1,1])) [] rfl rfl fun K hK => ?_
             simp only [ltb,go_sem,reduceLT,reduceEqDiff]
             refine hK _ _ rfl ?_
             simp only [mwb,reduceAdd,reduceEqDiff]
             exact ex_ret ⟨.inl rfl, _, ⟨_, rfl⟩, rfl⟩
            ·refine ex_skip ?_
             show Go.Eng.Ex _ _ _ _ _ _
             refine ex_region_w tt_ok 106 [0,0,2] [] rfl rfl fun K hK => ?_
             simp only [ltb,go_sem]
             refine hK _ _ rfl ?_
             simp only [mwb,reduceAdd]
             exact ex_ret ⟨.inl rfl, _, ⟨_, rfl⟩, rfl⟩
 ·refine runX_cut 3 fun K1 hK1 => ?_
  simp only [ltb,go_sem,reduceLT,reduceEqDiff]
  refine callF_ex (containsFd_tot 146 t.flds shaped1_tot hl) ?_
  rintro _ ⟨r1, rfl⟩
  try simp only [go_sem]
  refine hK1 _ ?_
  simp only [ltb,go_sem,reduceLT,reduceEqDiff]
  refine hK _ _ rfl ?_
  simp only [mwb,reduceAdd,reduceEqDiff]
  refine ex_if rfl (fun hc26 => ?_) (fun hc26 => ?_)
  ·refine ex_region_w tt_ok 106 [0,0,2] [] rfl rfl fun K hK => ?_
   simp only [ltb,go_sem]
   refine hK _ _ rfl ?_
   simp only [mwb,reduceAdd]
   exact ex_ret ⟨.inl rfl, _, ⟨_, rfl⟩, rfl⟩
  ·refine ex_skip ?_
   show Go.Eng.Ex _ _ _ _ _ _
   refine ex_seq ?_
   refine ex_region_w tt_ok 106 (rp 27 0 [1,2]) [] rfl rfl fun K hK => ?_
   simp only [ltb,go_sem,reduceAdd,reduceLT,reduceLeDiff]
   refine hK _ _ rfl ?_
   simp only [mwb,reduceAdd,reduceEqDiff]
   refine ex_block ?_
   refine ex_seq ?_
   refine ex_region_w tt_ok 106 (rp 29 0 [2,1]) [] rfl rfl fun K hK => ?_
   simp only [ltb,go_sem,reduceLT]
   refine hK _ _ rfl ?_
   simp only [mwb,reduceAdd,reduceEqDiff]
   refine ex_if rfl (fun hc29 => ?_) (fun hc29 => ?_)
   ·refine ex_skip ?_
    show Go.Eng.Ex _ _ _ _ _ _
    refine ex_cond (b := true) (congrArg (fun b => V.sc (Value.bool b)) hc29) ?_
    refine ex_region_w tt_ok 106 (0::0::2::(rp 32 0 (rp 14 1 []))) [(2, 37), (6, 41), (10, 45)] rfl rfl fun K hK => ?_
    refine runX_cut 3 fun K1 hK1 => ?_
    simp only [ltb,go_sem,reduceLT,reduceEqDiff]
    refine hK1 _ ?_
    refine runX_case 37 (by rfl) fun b hb10_2 => ?_
    cases b
    ·refine runX_cut 8 fun K1 hK1 => ?_
     simp only [ltb,go_sem,reduceLT,reduceEqDiff]
     refine hK1 _ ?_
     simp only [ltb,go_sem,reduceLT,reduceEqDiff]
     refine hK _ _ rfl ?_
     simp only [mwb,reduceAdd,reduceEqDiff]
     exact ex_ret ⟨.inl rfl, _, ⟨_, rfl⟩, rfl⟩
    ·refine runX_cut 4 fun K1 hK1 => ?_
     simp only [ltb,go_sem,reduceLT,reduceEqDiff]
     refine hK1 _ ?_
     refine runX_case 41 (by rfl) fun b hb10_6 => ?_
     cases b
     ·simp only [ltb,go_sem,reduceLT,reduceEqDiff]
      refine hK _ _ rfl ?_
      simp only [mwb,reduceAdd,reduceEqDiff]
      exact ex_ret ⟨.inl rfl, _, ⟨_, rfl⟩, rfl⟩
     ·refine runX_cut 4 fun K1 hK1 => ?_
      simp only [ltb,go_sem,reduceLT,reduceEqDiff]
      refine hK1 _ ?_
      refine runX_case 45 (by rfl) fun b hb10_10 => ?_
      cases b
      ·simp only [ltb,go_sem,reduceLT,reduceEqDiff]
       refine hK _ _ rfl ?_
       simp only [mwb,reduceAdd,reduceEqDiff]
       exact ex_ret ⟨.inl rfl, _, ⟨_, rfl⟩, rfl⟩
      ·simp only [ltb,go_sem,reduceLT,reduceEqDiff]
       refine hK _ _ rfl ?_
       simp only [mwb,reduceAdd,reduceEqDiff]
       exact ex_ret ⟨.inl rfl, _, ⟨_, rfl⟩, rfl⟩
   ·refine ex_region_w tt_ok 106 (rp 29 0 [2,0,1]) [] rfl rfl fun K hK => ?_
    simp only [ltb,go_sem,reduceLT]
    refine hK _ _ rfl ?_
    simp only [mwb,reduceAdd,reduceEqDiff]
    refine ex_if rfl (fun hc29 => ?_) (fun hc29 => ?_)
    ·refine ex_skip ?_
     show Go.Eng.Ex _ _ _ _ _ _
     refine ex_cond (b := true) (congrArg (fun b => V.sc (Value.bool b)) hc29) ?_
     refine ex_region_w tt_ok 106 (0::0::2::(rp 32 0 (rp 14 1 []))) [(2, 37), (6, 41), (10, 45)] rfl rfl fun K hK => ?_
     refine runX_cut 3 fun K1 hK1 => ?_
     simp only [ltb,go_sem,reduceLT,reduceEqDiff]
     refine hK1 _ ?_
     refine runX_case 37 (by rfl) fun b hb10_2 => ?_
     cases b
     ·refine runX_cut 8 fun K1 hK1 => ?_
      simp only [ltb,go_sem,reduceLT,reduceEqDiff]
      refine hK1 _ ?_
      simp only [ltb,go_sem,reduceLT,reduceEqDiff]
      refine hK _ _ rfl ?_
      simp only [mwb,reduceAdd,reduceEqDiff]
      exact ex_ret ⟨.inl rfl, _, ⟨_, rfl⟩, rfl⟩
     ·refine runX_cut 4 fun K1 hK1 => ?_
      simp only [ltb,go_sem,reduceLT,reduceEqDiff]
      refine hK1 _ ?_
      refine runX_case 41 (by rfl) fun b hb10_6 => ?_
      cases b
      ·simp only [ltb,go_sem,reduceLT,reduceEqDiff]
       refine hK _ _ rfl ?_
       simp only [mwb,reduceAdd,reduceEqDiff]
       exact ex_ret ⟨.inl rfl, _, ⟨_, rfl⟩, rfl⟩
      ·refine runX_cut 4 fun K1 hK1 => ?_
       simp only [ltb,go_sem,reduceLT,reduceEqDiff]
       refine hK1 _ ?_
       refine runX_case 45 (by rfl) fun b hb10_10 => ?_
       cases b
       ·simp only [ltb,go_sem,reduceLT,reduceEqDiff]
        refine hK _ _ rfl ?_
        simp only [mwb,reduceAdd,reduceEqDiff]
        exact ex_ret ⟨.inl rfl, _, ⟨_, rfl⟩, rfl⟩
       ·simp only [ltb,go_sem,reduceLT,reduceEqDiff]
        refine hK _ _ rfl ?_
        simp only [mwb,reduceAdd,reduceEqDiff]
        exact ex_ret ⟨.inl rfl, _, ⟨_, rfl⟩, rfl⟩
    ·refine ex_region_w tt_ok 106 (rp 29 0 [2,0,0,1]) [] rfl rfl fun K hK => ?_
     simp only [ltb,go_sem,reduceLT]
     refine hK _ _ rfl ?_
     simp only [mwb,reduceAdd,reduceEqDiff]
     refine ex_if rfl (fun hc29 => ?_) (fun hc29 => ?_)
     ·refine ex_skip ?_
      show Go.Eng.Ex _ _ _ _ _ _
      refine ex_cond (b := true) (congrArg (fun b => V.sc (Value.bool b)) hc29) ?_
      refine ex_region_w tt_ok 106 (0::0::2::(rp 32 0 (rp 14 1 []))) [(2, 37), (6, 41), (10, 45)] rfl rfl fun K hK => ?_
      refine runX_cut 3 fun K1 hK1 => ?_
      simp only [ltb,go_sem,reduceLT,reduceEqDiff]
      refine hK1 _ ?_
      refine runX_case 37 (by rfl) fun b hb10_2 => ?_
      cases b
      ·refine runX_cut 8 fun K1 hK1 => ?_
       simp only [ltb,go_sem,reduceLT,reduceEqDiff]
       refine hK1 _ ?_
       simp only [ltb,go_sem,reduceLT,reduceEqDiff]
       refine hK _ _ rfl ?_
       simp only [mwb,reduceAdd,reduceEqDiff]
       exact ex_ret ⟨.inl rfl, _, ⟨_, rfl⟩, rfl⟩
      ·refine runX_cut 4 fun K1 hK1 => ?_
       simp only [ltb,go_sem,reduceLT,reduceEqDiff]
       refine hK1 _ ?_
       refine runX_case 41 (by rfl) fun b hb10_6 => ?_
       cases b
       ·simp only [ltb,go_sem,reduceLT,reduceEqDiff]
        refine hK _ _ rfl ?_
        simp only [mwb,reduceAdd,reduceEqDiff]
        exact ex_ret ⟨.inl rfl, _, ⟨_, rfl⟩, rfl⟩
       ·refine runX_cut 4 fun K1 hK1 => ?_
        simp only [ltb,go_sem,reduceLT,reduceEqDiff]
        refine hK1 _ ?_
        refine runX_case 45 (by rfl) fun b hb10_10 => ?_
        cases b
        ·simp only [ltb,go_sem,reduceLT,reduceEqDiff]
         refine hK _ _ rfl ?_
         simp only [mwb,reduceAdd,reduceEqDiff]
         exact ex_ret ⟨.inl rfl, _, ⟨_, rfl⟩, rfl⟩
        ·simp only [ltb,go_sem,reduceLT,reduceEqDiff]
         refine hK _ _ rfl ?_
         simp only [mwb,reduceAdd,reduceEqDiff]
         exact ex_ret ⟨.inl rfl, _, ⟨_, rfl⟩, rfl⟩
     ·refine ex_region_w tt_ok 106 (rp 29 0 [2,0,0,0,1]) [] rfl rfl fun K hK => ?_
      simp only [ltb,go_sem,reduceLT]
      refine hK _ _ rfl ?_
      simp only [mwb,reduceAdd,reduceEqDiff]
      refine ex_if rfl (fun hc29 => ?_) (fun hc29 => ?_)
      ·refine ex_skip ?_
       show Go.Eng.Ex _ _ _ _ _ _
       refine ex_cond (b := true) (congrArg (fun b => V.sc (Value.bool b)) hc29) ?_
       refine ex_region_w tt_ok 106 (0::0::2::(rp 32 0 (rp 14 1 []))) [(2, 37), (6, 41), (10, 45)] rfl rfl fun K hK => ?_
       refine runX_cut 3 fun K1 hK1 => ?_
       simp only [ltb,go_sem,reduceLT,reduceEqDiff]
       refine hK1 _ ?_
       refine runX_case 37 (by rfl) fun b hb10_2 => ?_
       cases b
       ·refine runX_cut 8 fun K1 hK1 => ?_
        simp only [ltb,go_sem,reduceLT,reduceEqDiff]
        refine hK1 _ ?_
        simp only [ltb,go_sem,reduceLT,reduceEqDiff]
        refine hK _ _ rfl ?_
        simp only [mwb,reduceAdd,reduceEqDiff]
        exact ex_ret ⟨.inl rfl, _, ⟨_, rfl⟩, rfl⟩
       ·refine runX_cut 4 fun K1 hK1 => ?_
        simp only [ltb,go_sem,reduceLT,reduceEqDiff]
        refine hK1 _ ?_
        refine runX_case 41 (by rfl) fun b hb10_6 => ?_
        cases b
        ·simp only [ltb,go_sem,reduceLT,reduceEqDiff]
         refine hK _ _ rfl ?_
         simp only [mwb,reduceAdd,reduceEqDiff]
         exact ex_ret ⟨.inl rfl, _, ⟨_, rfl⟩, rfl⟩
        ·refine runX_cut 4 fun K1 hK1 => ?_
         simp only [ltb,go_sem,reduceLT,reduceEqDiff]
         refine hK1 _ ?_
         refine runX_case 45 (by rfl) fun b hb10_10 => ?_
         cases b
         ·simp only [ltb,go_sem,reduceLT,reduceEqDiff]
          refine hK _ _ rfl ?_
          simp only [mwb,reduceAdd,reduceEqDiff]
          exact ex_ret ⟨.inl rfl, _, ⟨_, rfl⟩, rfl⟩
         ·simp only [ltb,go_sem,reduceLT,reduceEqDiff]
          refine hK _ _ rfl ?_
          simp only [mwb,reduceAdd,reduceEqDiff]
          exact ex_ret ⟨.inl rfl, _, ⟨_, rfl⟩, rfl⟩
      ·refine ex_last_region_w tt_ok 106 (rp 29 0 [2,0,0,0,0,2]) [] (by kernel_rfl) rfl rfl fun K hK => ?_
       simp only [ltb,go_sem,reduceLT]
       refine hK _ _ rfl ?_
       simp only [mwb,reduceAdd,reduceEqDiff]
       show Go.Eng.Ex _ _ _ _ _ _
       refine ex_if rfl (fun hc29 => ?_) (fun hc29 => ?_)
       ·refine ex_region_w tt_ok 106 (0::0::2::(rp 32 0 (rp 14 1 []))) [(2, 37), (6, 41), (10, 45)] rfl rfl fun K hK => ?_
        refine runX_cut 3 fun K1 hK1 => ?_
        simp only [ltb,go_sem,reduceLT,reduceEqDiff]
        refine hK1 _ ?_
        refine runX_case 37 (by rfl) fun b hb10_2 => ?_
        cases b
        ·refine runX_cut 8 fun K1 hK1 => ?_
         simp only [ltb,go_sem,reduceLT,reduceEqDiff]
         refine hK1 _ ?_
         simp only [ltb,go_sem,reduceLT,reduceEqDiff]
         refine hK _ _ rfl ?_
         simp only [mwb,reduceAdd,reduceEqDiff]
         exact ex_ret ⟨.inl rfl, _, ⟨_, rfl⟩, rfl⟩
        ·refine runX_cut 4 fun K1 hK1 => ?_
         simp only [ltb,go_sem,reduceLT,reduceEqDiff]
         refine hK1 _ ?_
         refine runX_case 41 (by rfl) fun b hb10_6 => ?_
         cases b
         ·simp only [ltb,go_sem,reduceLT,reduceEqDiff]
          refine hK _ _ rfl ?_
          simp only [mwb,reduceAdd,reduceEqDiff]
          exact ex_ret ⟨.inl rfl, _, ⟨_, rfl⟩, rfl⟩
         ·refine runX_cut 4 fun K1 hK1 => ?_
          simp only [ltb,go_sem,reduceLT,reduceEqDiff]
          refine hK1 _ ?_
          refine runX_case 45 (by rfl) fun b hb10_10 => ?_
          cases b
          ·simp only [ltb,go_sem,reduceLT,reduceEqDiff]
           refine hK _ _ rfl ?_
           simp only [mwb,reduceAdd,reduceEqDiff]
           exact ex_ret ⟨.inl rfl, _, ⟨_, rfl⟩, rfl⟩
          ·simp only [ltb,go_sem,reduceLT,reduceEqDiff]
           refine hK _ _ rfl ?_
           simp only [mwb,reduceAdd,reduceEqDiff]
           exact ex_ret ⟨.inl rfl, _, ⟨_, rfl⟩, rfl⟩
       ·refine ex_region_w tt_ok 106 (rp 49 0 [2,1]) [] rfl rfl fun K hK => ?_
        simp only [ltb,go_sem,reduceLT]
        refine hK _ _ rfl ?_
        simp only [mwb,reduceAdd,reduceEqDiff]
        refine ex_if rfl (fun hc49 => ?_) (fun hc49 => ?_)
        ·refine ex_region_w tt_ok 106 (0::0::2::(rp 48 0 (rp 14 1 []))) [(2, 53), (6, 57), (10, 61)] rfl rfl fun K hK => ?_
         refine runX_cut 3 fun K1 hK1 => ?_
         simp only [ltb,go_sem,reduceLT,reduceEqDiff]
         refine hK1 _ ?_
         refine runX_case 53 (by rfl) fun b hb12_2 => ?_
         cases b
         ·refine runX_cut 8 fun K1 hK1 => ?_
          simp only [ltb,go_sem,reduceLT,reduceEqDiff]
          refine hK1 _ ?_
          simp only [ltb,go_sem,reduceLT,reduceEqDiff]
          refine hK _ _ rfl ?_
          simp only [mwb,reduceAdd,reduceEqDiff]
          exact ex_ret ⟨.inl rfl, _, ⟨_, rfl⟩, rfl⟩
         ·refine runX_cut 4 fun K1 hK1 => ?_
          simp only [ltb,go_sem,reduceLT,reduceEqDiff]
          refine hK1 _ ?_
          refine runX_case 57 (by rfl) fun b hb12_6 => ?_
          cases b
          ·simp only [ltb,go_sem,reduceLT,reduceEqDiff]
           refine hK _ _ rfl ?_
           simp only [mwb,reduceAdd,reduceEqDiff]
           exact ex_ret ⟨.inl rfl, _, ⟨_, rfl⟩, rfl⟩
          ·refine runX_cut 4 fun K1 hK1 => ?_
           simp only [ltb,go_sem,reduceLT,reduceEqDiff]
           refine hK1 _ ?_
           refine runX_case 61 (by rfl) fun b hb12_10 => ?_
           cases b
           ·simp only [ltb,go_sem,reduceLT,reduceEqDiff]
            refine hK _ _ rfl ?_
            simp only [mwb,reduceAdd,reduceEqDiff]
            exact ex_ret ⟨.inl rfl, _, ⟨_, rfl⟩, rfl⟩
           ·simp only [ltb,go_sem,reduceLT,reduceEqDiff]
            refine hK _ _ rfl ?_
            simp only [mwb,reduceAdd,reduceEqDiff]
            exact ex_ret ⟨.inl rfl, _, ⟨_, rfl⟩, rfl⟩
        ·refine ex_seq ?_
         refine ex_region_w tt_ok 106 (rp 65 0 [2,1]) [] rfl rfl fun K hK => ?_
         simp only [ltb,go_sem,reduceLT]
         refine hK _ _ rfl ?_
         simp only [mwb,reduceAdd,reduceEqDiff]
         refine ex_if rfl (fun hc65 => ?_) (fun hc65 => ?_)
         ·refine ex_skip ?_
          show Go.Eng.Ex _ _ _ _ _ _
          refine ex_cond (b := true) (congrArg (fun b => V.sc (Value.bool b)) hc65) ?_
          refine ex_region_w tt_ok 106 (0::0::2::(rp 65 0 (rp 10 1 []))) [(2, 70), (6, 74)] rfl rfl fun K hK => ?_
          refine runX_cut 3 fun K1 hK1 => ?_
          simp only [ltb,go_sem,reduceLT,reduceEqDiff]
          refine hK1 _ ?_
          refine runX_case 70 (by rfl) fun b hb15_2 => ?_
          cases b
          ·simp only [ltb,go_sem,reduceLT,reduceEqDiff]
           refine hK _ _ rfl ?_
           simp only [mwb,reduceAdd,reduceEqDiff]
           exact ex_ret ⟨.inl rfl, _, ⟨_, rfl⟩, rfl⟩
          ·refine runX_cut 4 fun K1 hK1 => ?_
           simp only [ltb,go_sem,reduceLT,reduceEqDiff]
           refine hK1 _ ?_
           refine runX_case 74 (by rfl) fun b hb15_6 => ?_
           cases b
           ·simp only [ltb,go_sem,reduceLT,reduceEqDiff]
            refine hK _ _ rfl ?_
            simp only [mwb,reduceAdd,reduceEqDiff]
            exact ex_ret ⟨.inl rfl, _, ⟨_, rfl⟩, rfl⟩
           ·simp only [ltb,go_sem,reduceLT,reduceEqDiff]
            refine hK _ _ rfl ?_
            simp only [mwb,reduceAdd,reduceEqDiff]
            exact ex_ret ⟨.inl rfl, _, ⟨_, rfl⟩, rfl⟩
         ·refine ex_last_region_w tt_ok 106 (rp 65 0 [2,0,2]) [] (by kernel_rfl) rfl rfl fun K hK => ?_
          simp only [ltb,go_sem,reduceLT]
          refine hK _ _ rfl ?_
          simp only [mwb,reduceAdd,reduceEqDiff]
          show Go.Eng.Ex _ _ _ _ _ _
          refine ex_if rfl (fun hc65 => ?_) (fun hc65 => ?_)
          ·refine ex_region_w tt_ok 106 (0::0::2::(rp 65 0 (rp 10 1 []))) [(2, 70), (6, 74)] rfl rfl fun K hK => ?_
           refine runX_cut 3 fun K1 hK1 => ?_
           simp only [ltb,go_sem,reduceLT,reduceEqDiff]
           refine hK1 _ ?_
           refine runX_case 70 (by rfl) fun b hb15_2 => ?_
           cases b
           ·simp only [ltb,go_sem,reduceLT,reduceEqDiff]
            refine hK _ _ rfl ?_
            simp only [mwb,reduceAdd,reduceEqDiff]
            exact ex_ret ⟨.inl rfl, _, ⟨_, rfl⟩, rfl⟩
           ·refine runX_cut 4 fun K1 hK1 => ?_
            simp only [ltb,go_sem,reduceLT,reduceEqDiff]
            refine hK1 _ ?_
            refine runX_case 74 (by rfl) fun b hb15_6 => ?_
            cases b
            ·simp only [ltb,go_sem,reduceLT,reduceEqDiff]
             refine hK _ _ rfl ?_
             simp only [mwb,reduceAdd,reduceEqDiff]
             exact ex_ret ⟨.inl rfl, _, ⟨_, rfl⟩, rfl⟩
            ·simp only [ltb,go_sem,reduceLT,reduceEqDiff]
             refine hK _ _ rfl ?_
             simp only [mwb,reduceAdd,reduceEqDiff]
             exact ex_ret ⟨.inl rfl, _, ⟨_, rfl⟩, rfl⟩
          ·refine ex_region_w tt_ok 106 (rp 78 0 [2,1]) [] rfl rfl fun K hK => ?_
           simp only [ltb,go_sem,reduceLT]
           refine hK _ _ rfl ?_
           simp only [mwb,reduceAdd,reduceEqDiff]
           refine ex_if rfl (fun hc78 => ?_) (fun hc78 => ?_)
           ·refine ex_region_w tt_ok 106 (0::0::2::(rp 77 0 (rp 10 1 []))) [(2, 82), (6, 86)] rfl rfl fun K hK => ?_
            refine runX_cut 3 fun K1 hK1 => ?_
            simp only [ltb,go_sem,reduceLT,reduceEqDiff]
            refine hK1 _ ?_
            refine runX_case 82 (by rfl) fun b hb17_2 => ?_
            cases b
            ·simp only [ltb,go_sem,reduceLT,reduceEqDiff]
             refine hK _ _ rfl ?_
             simp only [mwb,reduceAdd,reduceEqDiff]
             exact ex_ret ⟨.inl rfl, _, ⟨_, rfl⟩, rfl⟩
            ·refine runX_cut 4 fun K1 hK1 => ?_
             simp only [ltb,go_sem,reduceLT,reduceEqDiff]
             refine hK1 _ ?_
             refine runX_case 86 (by rfl) fun b hb17_6 => ?_
             cases b
             ·simp only [ltb,go_sem,reduceLT,reduceEqDiff]
              refine hK _ _ rfl ?_
              simp only [mwb,reduceAdd,reduceEqDiff]
              exact ex_ret ⟨.inl rfl, _, ⟨_, rfl⟩, rfl⟩
             ·simp only [ltb,go_sem,reduceLT,reduceEqDiff]
              refine hK _ _ rfl ?_
              simp only [mwb,reduceAdd,reduceEqDiff]
              exact ex_ret ⟨.inl rfl, _, ⟨_, rfl⟩, rfl⟩
           ·refine ex_region_w tt_ok 106 (rp 90 0 [2,1]) [] rfl rfl fun K hK => ?_
            simp only [ltb,go_sem,reduceLT]
            refine hK _ _ rfl ?_
            simp only [mwb,reduceAdd,reduceEqDiff]
            refine ex_if rfl (fun hc90 => ?_) (fun hc90 => ?_)
            ·refine ex_region_w tt_ok 106 (0::0::2::(rp 89 0 (rp 10 1 []))) [(2, 94), (6, 98)] rfl rfl fun K hK => ?_
             refine runX_cut 3 fun K1 hK1 => ?_
             simp only [ltb,go_sem,reduceLT,reduceEqDiff]
             refine hK1 _ ?_
             refine runX_case 94 (by rfl) fun b hb19_2 => ?_
             cases b
             ·simp only [ltb,go_sem,reduceLT,reduceEqDiff]
              refine hK _ _ rfl ?_
              simp only [mwb,reduceAdd,reduceEqDiff]
              exact ex_ret ⟨.inl rfl, _, ⟨_, rfl⟩, rfl⟩
             ·refine runX_cut 4 fun K1 hK1 => ?_
              simp only [ltb,go_sem,reduceLT,reduceEqDiff]
              refine hK1 _ ?_
              refine runX_case 98 (by rfl) fun b hb19_6 => ?_
              cases b
              ·simp only [ltb,go_sem,reduceLT,reduceEqDiff]
               refine hK _ _ rfl ?_
               simp only [mwb,reduceAdd,reduceEqDiff]
               exact ex_ret ⟨.inl rfl, _, ⟨_, rfl⟩, rfl⟩
              ·simp only [ltb,go_sem,reduceLT,reduceEqDiff]
               refine hK _ _ rfl ?_
               simp only [mwb,reduceAdd,reduceEqDiff]
               exact ex_ret ⟨.inl rfl, _, ⟨_, rfl⟩, rfl⟩
            ·refine ex_region_w tt_ok 106 (rp 102 0 [2,1]) [] rfl rfl fun K hK => ?_
             simp only [ltb,go_sem,reduceLT]
             refine hK _ _ rfl ?_
             simp only [mwb,reduceAdd,reduceEqDiff]
             refine ex_if rfl (fun hc102 => ?_) (fun hc102 => ?_)
             ·refine ex_region_w tt_ok 106 (0::0::2::(rp 101 0 [1,1])) [] rfl rfl fun K hK => ?_
              simp only [ltb,go_sem,reduceLT,reduceEqDiff]
              refine hK _ _ rfl ?_
              simp only [mwb,reduceAdd,reduceEqDiff]
              exact ex_ret ⟨.inl rfl, _, ⟨_, rfl⟩, rfl⟩
             ·refine ex_skip ?_
              show Go.Eng.Ex _ _ _ _ _ _
              refine ex_region_w tt_ok 106 [0,0,2] [] rfl rfl fun K hK => ?_
              simp only [ltb,go_sem]
              refine hK _ _ rfl ?_
              simp only [mwb,reduceAdd]
              exact ex_ret ⟨.inl rfl, _, ⟨_, rfl⟩, rfl⟩
end Go.Proofs.YtpjdfcigadnhcaaGreatDoor
end

section
namespace Go.Proofs.YtpjdfcigadnhcaaGreatDoor
open Go.Eng
open Nat (reduceAdd reduceLT reduceLeDiff reduceMul reduceEqDiff reduceSub)
variable [Glob]
set_option maxHeartbeats 4000000
set_option maxRecDepth 100000
attribute [local irreducible] runM stepM valD stepOp stepD callF
theorem zeroType_tot (t : Ty) : ∃ r, isB r ∧ FnOk Tryz.prog 156 [encTy t] r := by
 refine fn_ex tt_ok (fn := Tryz.f156) Tryz.func156 rfl Tryz.call156 ?_
 simp only [ltb,startSt,Tryz.ntmps156,List.length_cons,List.length_nil,reduceAdd,reduceSub,List.replicate_succ,List.replicate_zero]
 simp only [encTy_eq,tyCells]
 refine ex_region_w tt_ok 28 [0,2,2] [] rfl rfl fun K hK => ?_
 simp only [ltb,go_sem,reduceLT]
 refine hK _ _ rfl ?_
 simp only [mwb,reduceAdd,reduceEqDiff]
 refine ex_region_w tt_ok 28 (0::0::2::(rp 25 1 [])) [(3, 6), (8, 11), (13, 16), (19, 22)] rfl rfl fun K hK => ?_
 refine runX_cut 4 fun K1 hK1 => ?_
 simp only [ltb,go_sem,reduceAdd,reduceLT,reduceLeDiff,reduceEqDiff]
 refine hK1 _ ?_
 refine runX_case 6 (by rfl) fun b hb1_3 => ?_
 cases b
 ·refine runX_cut 8 fun K1 hK1 => ?_
  simp only [ltb,go_sem,reduceLT,reduceEqDiff]
  refine hK1 _ ?_
  refine runX_cut 8 fun K1 hK1 => ?_
  simp only [ltb,go_sem,reduceLT,reduceEqDiff]
  refine hK1 _ ?_
  simp only [ltb,go_sem,reduceLT,reduceEqDiff]
  refine hK _ _ rfl ?_
  simp only [mwb,reduceAdd,reduceEqDiff]
  exact ex_ret ⟨.inl rfl, _, ⟨_, rfl⟩, rfl⟩
 ·refine runX_cut 5 fun K1 hK1 => ?_
  simp only [ltb,go_sem,reduceAdd,reduceLT,reduceLeDiff,reduceEqDiff]
  refine hK1 _ ?_
  refine runX_case 11 (by rfl) fun b hb1_8 => ?_
  cases b
  ·refine runX_cut 8 fun K1 hK1 => ?_
   simp only [ltb,go_sem,reduceLT,reduceEqDiff]
   refine hK1 _ ?_
   refine runX_cut 8 fun K1 hK1 => ?_
   simp only [ltb,go_sem,reduceLT,reduceEqDiff]
   refine hK1 _ ?_
   simp only [ltb,go_sem,reduceLT,reduceEqDiff]
   refine hK _ _ rfl ?_
   simp only [mwb,reduceAdd,reduceEqDiff]
   exact ex_ret ⟨.inl rfl, _, ⟨_, rfl⟩, rfl⟩
  ·refine runX_cut 5 fun K1 hK1 => ?_
   simp only [ltb,go_sem,reduceAdd,reduceLT,reduceLeDiff,reduceEqDiff]
   refine hK1 _ ?_
   refine runX_case 16 (by rfl) fun b hb1_13 => ?_
   cases b
   ·refine runX_cut 8 fun K1 hK1 => ?_
    simp only [ltb,go_sem,reduceLT,reduceEqDiff]
    refine hK1 _ ?_
    simp only [ltb,go_sem,reduceLT,reduceEqDiff]
    refine hK _ _ rfl ?_
    simp only [mwb,reduceAdd,reduceEqDiff]
    exact ex_ret ⟨.inl rfl, _, ⟨_, rfl⟩, rfl⟩
   ·refine runX_cut 6 fun K1 hK1 => ?_
    simp only [ltb]
    simp only [length_encTys,go_sem,reduceAdd,reduceLT,reduceLeDiff,reduceEqDiff]
    refine hK1 _ ?_
    refine runX_case 22 (by rfl) fun b hb1_19 => ?_
    cases b
    ·simp only [ltb,go_sem,reduceLT,reduceEqDiff]
     refine hK _ _ rfl ?_
     simp only [mwb,reduceAdd,reduceEqDiff]
     exact ex_ret ⟨.inl rfl, _, ⟨_, rfl⟩, rfl⟩
    ·try simp only [ltb]
     simp only [length_encFds,go_sem,reduceLT,reduceEqDiff]
     refine hK _ _ rfl ?_
     simp only [mwb,reduceAdd,reduceEqDiff]
     exact ex_ret ⟨.inl rfl, _, ⟨_, rfl⟩, rfl⟩
theorem operands_tot (s : ByteArray) : ∃ r, isN r ∧ FnOk Tryz.prog 185 [str s] r := by
 refine fn_ex tt_ok (fn := Tryz.f185) Tryz.func185 rfl Tryz.call185 ?_
 simp only [ltb,startSt,Tryz.ntmps185,List.length_cons,List.length_nil,reduceAdd,reduceSub,List.replicate_succ,List.replicate_zero]
 refine ex_region_w tt_ok 17 [0,0,2] [] rfl rfl fun K hK => ?_
 simp only [ltb,go_sem]
 refine hK _ _ rfl ?_
 simp only [mwb,reduceAdd]
 refine ex_seq ?_
 refine ex_region_w tt_ok 17 [0,0,0,2] [] rfl rfl fun K hK => ?_
 simp only [ltb,go_sem,reduceLT]
 refine hK _ _ rfl ?_
 simp only [mwb,reduceAdd]
 refine ex_block ?_
 refine ex_seq_joinK [4] 0 [true,false,true,true,true] (fun vs => ∃ b : Bool, vs = [bl b]) ?_ ?_
 ·refine ex_region_w tt_ok 17 [0,0,0,0,2,1] [] rfl rfl fun K hK => ?_
  simp only [ltb,go_sem,reduceLT]
  refine hK _ _ rfl ?_
  simp only [mwb,reduceAdd,reduceEqDiff]
  refine ex_if rfl (fun hc4 => ?_) (fun hc4 => ?_)
  ·refine ex_skip ?_
   refine ⟨[_], ?_, 0, [true,false,true,true,true], by omega, by simp only [maskFr,belowV,mkb], by simp only [List.all_nil,List.take_nil], by simp only [maskFr,putAll,List.set_cons_zero,List.set_cons_succ,mkb]; rfl⟩
   exact ⟨_, rfl⟩
  ·refine ex_region_w tt_ok 17 [0,0,0,0,2,0,1] [] rfl rfl fun K hK => ?_
   simp only [ltb,go_sem,reduceLT]
   refine hK _ _ rfl ?_
   simp only [mwb,reduceAdd,reduceEqDiff]
   refine ex_if rfl (fun hc4 => ?_) (fun hc4 => ?_)
   ·refine ex_skip ?_
    refine ⟨[_], ?_, 0, [true,false,true,true,true], by omega, by simp only [maskFr,belowV,mkb], by simp only [List.all_nil,List.take_nil], by simp only [maskFr,putAll,List.set_cons_zero,List.set_cons_succ,mkb]; rfl⟩
    exact ⟨_, rfl⟩
   ·refine ex_region_w tt_ok 17 [0,0,0,0,2,0,0,1] [] rfl rfl fun K hK => ?_
    simp only [ltb,go_sem,reduceLT]
    refine hK _ _ rfl ?_
    simp only [mwb,reduceAdd,reduceEqDiff]
    refine ex_if rfl (fun hc4 => ?_) (fun hc4 => ?_)
    ·refine ex_skip ?_
     refine ⟨[_], ?_, 0, [true,false,true,true,true], by omega, by simp only [maskFr,belowV,mkb], by simp only [List.all_nil,List.take_nil], by simp only [maskFr,putAll,List.set_cons_zero,List.set_cons_succ,mkb]; rfl⟩
     exact ⟨_, rfl⟩
    ·refine ex_region_w tt_ok 17 [0,0,0,0,2,0,0,0,1] [] rfl rfl fun K hK => ?_
     simp only [ltb,go_sem,reduceLT]
     refine hK _ _ rfl ?_
     simp only [mwb,reduceAdd,reduceEqDiff]
     refine ex_if rfl (fun hc4 => ?_) (fun hc4 => ?_)
     ·refine ex_skip ?_
      refine ⟨[_], ?_, 0, [true,false,true,true,true], by omega, by simp only [maskFr,belowV,mkb], by simp only [List.all_nil,List.take_nil], by simp only [maskFr,putAll,List.set_cons_zero,List.set_cons_succ,mkb]; rfl⟩
      exact ⟨_, rfl⟩
     ·refine ex_region_w tt_ok 17 [0,0,0,0,2,0,0,0,0,1] [] rfl rfl fun K hK => ?_
      simp only [ltb,go_sem,reduceLT]
      refine hK _ _ rfl ?_
      simp only [mwb,reduceAdd,reduceEqDiff]
      refine ex_if rfl (fun hc4 => ?_) (fun hc4 => ?_)
      ·refine ex_skip ?_
       refine ⟨[_], ?_, 0, [true,false,true,true,true], by omega, by simp only [maskFr,belowV,mkb], by simp only [List.all_nil,List.take_nil], by simp only [maskFr,putAll,List.set_cons_zero,List.set_cons_succ,mkb]; rfl⟩
       exact ⟨_, rfl⟩
      ·refine ex_region_w tt_ok 17 [0,0,0,0,2,0,0,0,0,0,1] [] rfl rfl fun K hK => ?_
       simp only [ltb,go_sem,reduceLT]
       refine hK _ _ rfl ?_
       simp only [mwb,reduceAdd,reduceEqDiff]
       refine ex_if rfl (fun hc4 => ?_) (fun hc4 => ?_)
       ·refine ex_skip ?_
        refine ⟨[_], ?_, 0, [true,false,true,true,true], by omega, by simp only [maskFr,belowV,mkb], by simp only [List.all_nil,List.take_nil], by simp only [maskFr,putAll,List.set_cons_zero,List.set_cons_succ,mkb]; rfl⟩
        exact ⟨_, rfl⟩
       ·refine ex_region_w tt_ok 17 [0,0,0,0,2,0,0,0,0,0,0,1] [] rfl rfl fun K hK => ?_
        simp only [ltb,go_sem,reduceLT]
        refine hK _ _ rfl ?_
        simp only [mwb,reduceAdd,reduceEqDiff]
        refine ex_if rfl (fun hc4 => ?_) (fun hc4 => ?_)
        ·refine ex_skip ?_
         refine ⟨[_], ?_, 0, [true,false,true,true,true], by omega, by simp only [maskFr,belowV,mkb], by simp only [List.all_nil,List.take_nil], by simp only [maskFr,putAll,List.set_cons_zero,List.set_cons_succ,mkb]; rfl⟩
         exact ⟨_, rfl⟩
        ·refine ex_region_w tt_ok 17 [0,0,0,0,2,0,0,0,0,0,0,0,1] [] rfl rfl fun K hK => ?_
         simp only [ltb,go_sem,reduceLT]
         refine hK _ _ rfl ?_
         simp only [mwb,reduceAdd,reduceEqDiff]
         refine ex_if rfl (fun hc4 => ?_) (fun hc4 => ?_)
         ·refine ex_skip ?_
          refine ⟨[_], ?_, 0, [true,false,true,true,true], by omega, by simp only [maskFr,belowV,mkb], by simp only [List.all_nil,List.take_nil], by simp only [maskFr,putAll,List.set_cons_zero,List.set_cons_succ,mkb]; rfl⟩
          exact ⟨_, rfl⟩
         ·refine ex_last_region_w tt_ok 17 [0,0,0,0,2,0,0,0,0,0,0,0,0,2] [] (by kernel_rfl) rfl rfl fun K hK => ?_
          simp only [ltb,go_sem,reduceLT]
          refine hK _ _ rfl ?_
          simp only [mwb,reduceAdd,reduceEqDiff]
          refine ⟨[_], ?_, 0, [true,false,true,true,true], by omega, by simp only [maskFr,belowV,mkb], by simp only [List.all_nil,List.take_nil], by simp only [maskFr,putAll,List.set_cons_zero,List.set_cons_succ,mkb]; rfl⟩
          exact ⟨_, rfl⟩
 ·intro vs hJ
  obtain ⟨b4, rfl⟩ := hJ
  simp only [maskFr,putAll,List.set_cons_zero,List.set_cons_succ,mkb]
  refine ex_if rfl (fun hc4 => ?_) (fun hc4 => ?_)
  ·refine ex_region_w tt_ok 17 [0,0,2] [] rfl rfl fun K hK => ?_
   simp only [ltb,go_sem]
   refine hK _ _ rfl ?_
   simp only [mwb,reduceAdd]
   exact ex_ret ⟨.inl rfl, _, ⟨_, rfl⟩, rfl⟩
  ·refine ex_seq_joinK [14] 0 (true::false::(rp 13 true [])) (fun vs => ∃ b : Bool, vs = [bl b]) ?_ ?_
   ·refine ex_region_w tt_ok 17 (rp 14 0 [2,1]) [] rfl rfl fun K hK => ?_
    simp only [ltb,go_sem,reduceLT]
    refine hK _ _ rfl ?_
    simp only [mwb,reduceAdd,reduceEqDiff]
    refine ex_if rfl (fun hc14 => ?_) (fun hc14 => ?_)
    ·refine ex_skip ?_
     refine ⟨[_], ?_, 0, (true::false::(rp 13 true [])), by omega, by simp only [maskFr,belowV,mkb], by simp only [List.all_nil,List.take_nil], by simp only [maskFr,putAll,List.set_cons_zero,List.set_cons_succ,mkb]; rfl⟩
     exact ⟨_, rfl⟩
    ·refine ex_last_region_w tt_ok 17 (rp 14 0 [2,0,2]) [] (by kernel_rfl) rfl rfl fun K hK => ?_
     simp only [ltb,go_sem,reduceLT]
     refine hK _ _ rfl ?_
     simp only [mwb,reduceAdd,reduceEqDiff]
     refine ⟨[_], ?_, 0, (true::false::(rp 13 true [])), by omega, by simp only [maskFr,belowV,mkb], by simp only [List.all_nil,List.take_nil], by simp only [maskFr,putAll,List.set_cons_zero,List.set_cons_succ,mkb]; rfl⟩
     exact ⟨_, rfl⟩
   ·intro vs hJ
    obtain ⟨b14, rfl⟩ := hJ
    simp only [maskFr,putAll,List.set_cons_zero,List.set_cons_succ,mkb]
    refine ex_if rfl (fun hc14 => ?_) (fun hc14 => ?_)
    ·refine ex_region_w tt_ok 17 [0,0,2] [] rfl rfl fun K hK => ?_
     simp only [ltb,go_sem]
     refine hK _ _ rfl ?_
     simp only [mwb,reduceAdd]
     exact ex_ret ⟨.inl rfl, _, ⟨_, rfl⟩, rfl⟩
    ·refine ex_skip ?_
     show Go.Eng.Ex _ _ _ _ _ _
     refine ex_region_w tt_ok 17 [0,0,2] [] rfl rfl fun K hK => ?_
     simp only [ltb,go_sem]
     refine hK _ _ rfl ?_
     simp only [mwb,reduceAdd]
     exact ex_ret ⟨.inl rfl, _, ⟨_, rfl⟩, rfl⟩
end Go.Proofs.YtpjdfcigadnhcaaGreatDoor
end

section
namespace Go.Proofs.YtpjdfcigadnhcaaGreatDoor
open Go.Eng
open Nat (reduceAdd reduceLT reduceLeDiff reduceMul reduceEqDiff reduceSub)
variable [Glob]
set_option maxHeartbeats 4000000
set_option maxRecDepth 100000
attribute [local irreducible] runM stepM valD stepOp stepD callF callS
theorem kids_tot (x : Ex) (fl : ByteArray) (ty kd : Int) (lb : Bool) (hl : x.labels.length ≤ 1048576) : ∃ r, isN r ∧ FnOk Tryz.prog 153 [encEx x, .agg [str fl, num ty, bl lb, num kd]] r := by
 refine fn_ex tt_ok (fn := Tryz.f153) Tryz.func153 rfl Tryz.call153 ?_
 simp only [ltb,startSt,Tryz.ntmps153,List.length_cons,List.length_nil,reduceAdd,reduceSub,List.replicate_succ,List.replicate_zero]
 simp only [encEx_eq,exCells]
 refine ex_region_w tt_ok 42 [0,0,2,2,2] [] rfl rfl fun K hK => ?_
 simp only [ltb,go_sem,reduceLT,reduceEqDiff]
 refine hK _ _ rfl ?_
 simp only [mwb,reduceAdd,reduceEqDiff]
 refine ex_seq ?_
 refine ex_block ?_
 refine ex_region_w tt_ok 42 (rp 8 0 [2,1,1,1]) [] rfl rfl fun K hK => ?_
 simp only [ltb,go_sem,reduceAdd,reduceLT,reduceLeDiff,reduceEqDiff]
 refine hK _ _ rfl ?_
 simp only [mwb,reduceAdd,reduceEqDiff]
 refine ex_if rfl (fun hc8 => ?_) (fun hc8 => ?_)
 ·refine ex_region_w tt_ok 42 [0,0,0,0,2,0,0,0,0,0,0,0,1,1,1] [] rfl rfl fun K hK => ?_
  refine runX_cut 3 fun K1 hK1 => ?_
  simp only [ltb,go_sem,reduceAdd,reduceLT,reduceLeDiff,reduceEqDiff]
  refine callF_ex (operands_tot _) ?_
  rintro _ ⟨r1, rfl⟩
  try simp only [go_sem]
  refine hK1 _ ?_
  simp only [ltb,go_sem,reduceAdd,reduceLT,reduceEqDiff]
  refine hK _ _ rfl ?_
  simp only [mwb,reduceAdd,reduceEqDiff]
  exact ex_ret ⟨.inl rfl, _, ⟨_, rfl⟩, rfl⟩
 ·refine ex_region_w tt_ok 42 (rp 15 0 [2,1,1,1]) [] rfl rfl fun K hK => ?_
  simp only [ltb,go_sem,reduceAdd,reduceLT,reduceLeDiff,reduceEqDiff]
  refine hK _ _ rfl ?_
  simp only [mwb,reduceAdd,reduceEqDiff]
  refine ex_if rfl (fun hc15 => ?_) (fun hc15 => ?_)
  ·refine ex_region_w tt_ok 42 [0,0,0,0,0,2] [] rfl rfl fun K hK => ?_
   simp only [ltb,go_sem,reduceAdd]
   refine hK _ _ rfl ?_
   simp only [mwb,reduceAdd]
   refine ex_seq ?_
   refine ex_region_w tt_ok 42 (rp 19 0 [1,2,2,2]) [] rfl rfl fun K hK => ?_
   try simp only [ltb]
   simp only [List.length_map,go_sem,reduceAdd,reduceLT,reduceLeDiff,reduceEqDiff]
   refine hK _ _ rfl ?_
   simp only [mwb,reduceAdd,reduceEqDiff]
   refine ex_block ?_
   refine ex_loopK [22,5] [num 0, num 1] 2 [false,false,true,true,true,true,false,false,true,false,false,false,false,false,false,true,false,false,false,false,true,true,true] (fun vs => ((x.labels.length : Int) - intOf (vs.headD .undef)).toNat) (fun vs => ∃ (i : Nat) (h : Int), vs = [num i, num h]) (by omega) (by simp only [maskFr,belowV,reduceLT,mkb]) (by simp only [List.all_cons,List.all_nil,belowV,belowB,Bool.and_self,List.take_succ_cons,List.take_nil]) (by rfl) (⟨0, 1, rfl⟩) fun vs hI => ?_
   obtain ⟨i, h, rfl⟩ := hI
   simp only [maskFr,putAll,List.set_cons_zero,List.set_cons_succ,mkb]
   refine ex_region_w tt_ok 42 (rp 23 0 [2]) [] rfl rfl fun K hK => ?_
   simp only [ltb,go_sem,reduceAdd,reduceLT]
   refine hK _ _ rfl ?_
   simp only [mwb,reduceAdd]
   refine ex_seq ?_
   refine ex_if rfl (fun hc23 => ?_) (fun hc23 => ?_)
   ·have hlt : i < x.labels.length := by simpa using hc23
    obtain ⟨l, hx⟩ : ∃ l, x.labels[i]? = some l := ⟨_, List.getElem?_eq_getElem hlt⟩
    have hw := i64_succ i (by omega)
    refine ex_skip ?_
    show Go.Eng.Ex _ _ _ _ _ _
    refine ex_seq ?_
    refine ex_block ?_
    refine ex_region_w tt_ok 42 (0::0::0::0::0::0::0::2::(rp 16 0 [1,1])) [] rfl rfl fun K hK => ?_
    try simp only [ltb]
    simp only [List.getElem?_map,hx,encLb,tyCells,go_sem,reduceAdd,reduceLT,reduceEqDiff]
    refine hK _ _ rfl ?_
    simp only [mwb,reduceAdd,reduceEqDiff]
    refine ex_region_w tt_ok 42 (rp 26 0 [1,2]) [] rfl rfl fun K hK => ?_
    simp only [ltb,go_sem,reduceAdd,reduceLT]
    refine hK _ _ rfl ?_
    simp only [mwb,reduceAdd,reduceEqDiff]
    refine ex_if rfl (fun hc27 => ?_) (fun hc27 => ?_)
    ·refine ex_last_region_w tt_ok 42 (0::0::0::0::0::2::(rp 22 0 [2,2])) [] (by kernel_rfl) rfl rfl fun K hK => ?_
     simp only [ltb,go_sem,reduceAdd,reduceLT,reduceEqDiff]
     refine hK _ _ rfl ?_
     simp only [mwb,reduceAdd,reduceEqDiff]
     show Go.Eng.Ex _ _ _ _ _ _
     refine ex_last_region_w tt_ok 42 (rp 22 0 [2,0,0,0,0,0,0,0,2]) [] (by kernel_rfl) rfl rfl fun K hK => ?_
     try simp only [ltb]
     simp only [hw,go_sem,reduceAdd,reduceLT]
     refine hK _ _ rfl ?_
     simp only [mwb,reduceAdd,reduceEqDiff]
     refine ⟨[_, _], ?_, ?_, 2, [false,false,true,true,true,true,false,false,true,false,false,false,false,false,false,true,false,false,false,false,true,true,true], by omega, by simp only [maskFr,belowV,reduceLT,mkb], by simp only [ltb,List.all_cons,List.all_nil,belowV,belowB,Bool.and_self], by simp only [maskFr,putAll,List.set_cons_zero,List.set_cons_succ,mkb]; rfl⟩
     ·exact ⟨i + 1, _, rfl⟩
     ·simp only [intOf,List.headD_cons]; omega
    ·refine ex_skip ?_
     show Go.Eng.Ex _ _ _ _ _ _
     refine ex_last_region_w tt_ok 42 (rp 22 0 [2,0,0,0,0,0,0,0,2]) [] (by kernel_rfl) rfl rfl fun K hK => ?_
     try simp only [ltb]
     simp only [hw,go_sem,reduceAdd,reduceLT]
     refine hK _ _ rfl ?_
     simp only [mwb,reduceAdd,reduceEqDiff]
     refine ⟨[_, _], ?_, ?_, 2, [false,false,true,true,true,true,false,false,true,false,false,false,false,false,false,true,false,false,false,false,true,true,true], by omega, by simp only [maskFr,belowV,reduceLT,mkb], by simp only [ltb,List.all_cons,List.all_nil,belowV,belowB,Bool.and_self], by simp only [maskFr,putAll,List.set_cons_zero,List.set_cons_succ,mkb]; rfl⟩
     ·exact ⟨i + 1, _, rfl⟩
     ·simp only [intOf,List.headD_cons]; omega
   ·refine ex_exit ?_
    show Go.Eng.Ex _ _ _ _ _ _
    refine ex_region_w tt_ok 42 (0::0::0::0::2::(rp 26 0 [1])) [] rfl rfl fun K hK => ?_
    simp only [ltb,go_sem,reduceAdd,reduceLT]
    refine hK _ _ rfl ?_
    simp only [mwb,reduceAdd,reduceEqDiff]
    exact ex_ret ⟨.inl rfl, _, ⟨_, rfl⟩, rfl⟩
  ·refine ex_region_w tt_ok 42 (rp 32 0 [2,1,1,1]) [] rfl rfl fun K hK => ?_
   simp only [ltb,go_sem,reduceAdd,reduceLT,reduceEqDiff]
   refine hK _ _ rfl ?_
   simp only [mwb,reduceAdd,reduceEqDiff]
   refine ex_if rfl (fun hc32 => ?_) (fun hc32 => ?_)
   ·refine ex_region_w tt_ok 42 [0,0,0,0,2] [] rfl rfl fun K hK => ?_
    simp only [ltb,go_sem,reduceAdd]
    refine hK _ _ rfl ?_
    simp only [mwb,reduceAdd]
    exact ex_ret ⟨.inl rfl, _, ⟨_, rfl⟩, rfl⟩
   ·refine ex_skip ?_
    show Go.Eng.Ex _ _ _ _ _ _
    refine ex_region_w tt_ok 42 (0::0::0::0::2::(rp 31 0 [1,1,1,1,1,1])) [] rfl rfl fun K hK => ?_
    try simp only [ltb]
    simp only [List.length_map,go_sem,reduceAdd,reduceLT,reduceLeDiff,reduceEqDiff]
    refine hK _ _ rfl ?_
    simp only [mwb,reduceAdd,reduceEqDiff]
    exact ex_ret ⟨.inl rfl, _, ⟨_, rfl⟩, rfl⟩
end Go.Proofs.YtpjdfcigadnhcaaGreatDoor
end

section
namespace Go.Proofs.YtpjdfcigadnhcaaGreatDoor
open Go.Eng
open Nat (reduceAdd reduceLT reduceLeDiff reduceMul reduceEqDiff reduceSub)
variable [Glob]
set_option maxHeartbeats 4000000
set_option maxRecDepth 100000
attribute [local irreducible] runM stepM valD stepOp stepD callF
theorem lbName_tot (l : Lb) : ∃ r, (fun v => v = str l.name) r ∧ FnOk Tryz.prog 105 [encLb l] r := by
 refine fn_ex tt_ok (fn := Tryz.f105) Tryz.func105 rfl Tryz.call105 ?_
 simp only [ltb,startSt,Tryz.ntmps105,List.length_cons,List.length_nil,reduceAdd,reduceSub,List.replicate_succ,List.replicate_zero]
 simp only [ltb,encLb,tyCells]
 refine ex_region_w tt_ok 5 [0,2,2] [] rfl rfl fun K hK => ?_
 simp only [ltb,go_sem,reduceLT]
 refine hK _ _ rfl ?_
 simp only [mwb,reduceAdd,reduceEqDiff]
 refine ex_region_w tt_ok 5 [0,0,2,1,1] [] rfl rfl fun K hK => ?_
 simp only [ltb,go_sem,reduceAdd,reduceLT,reduceLeDiff,reduceEqDiff]
 refine hK _ _ rfl ?_
 simp only [mwb,reduceAdd,reduceEqDiff]
 exact ex_ret ⟨.inl rfl, _, rfl, rfl⟩
theorem increaseLb_tot (g : FuncId) (fs : List Lb) (hg : ∀ f : Lb, ∃ r, (∃ s : ByteArray, r = str s) ∧ FnOk Tryz.prog g [encLb f] r) (hl : fs.length ≤ 1048576) : ∃ r, isN r ∧ FnOk Tryz.prog 104 [.slice (fs.map encLb), .sc (.func (.func g) #[] #[])] r := by
 refine fn_ex tt_ok (fn := Tryz.f104) Tryz.func104 rfl Tryz.call104 ?_
 simp only [ltb,startSt,Tryz.ntmps104,List.length_cons,List.length_nil,reduceAdd,reduceSub,List.replicate_succ,List.replicate_zero]
 refine ex_region_w tt_ok 33 [0,0,0,0,2] [] rfl rfl fun K hK => ?_
 simp only [ltb,go_sem]
 refine hK _ _ rfl ?_
 simp only [mwb,reduceAdd]
 refine ex_seq ?_
 refine ex_region_w tt_ok 33 [0,0,0,0,0,2] [] rfl rfl fun K hK => ?_
 simp only [ltb,go_sem]
 refine hK _ _ rfl ?_
 simp only [mwb,reduceAdd]
 refine ex_block ?_
 refine ex_loopK [5] [num 1] 0 [true,true,false,false,true,true] (fun vs => ((fs.length : Int) - intOf (vs.headD .undef)).toNat) (fun vs => ∃ i : Nat, vs = [num i] ∧ 1 ≤ i) (by omega) (by simp only [maskFr,belowV,mkb]) (by simp only [List.all_nil,List.take_nil]) (by rfl) (⟨1, rfl, by omega⟩) fun vs hI => ?_
 obtain ⟨i, rfl, hi⟩ := hI
 simp only [maskFr,putAll,List.set_cons_zero,List.set_cons_succ,mkb]
 refine ex_seq ?_
 refine ex_region_w tt_ok 33 [0,0,0,0,0,0,0,1,1,1,2] [] rfl rfl fun K hK => ?_
 try simp only [ltb]
 simp only [List.length_map,go_sem,reduceLT,reduceEqDiff,reduceCtorEq]
 refine hK _ _ rfl ?_
 simp only [mwb,reduceAdd,reduceEqDiff]
 refine ex_if rfl (fun hc10 => ?_) (fun hc10 => ?_)
 ·have hlt : i < fs.length := by simpa using hc10
  obtain ⟨x, hx⟩ : ∃ x, fs[i - 1]? = some x := ⟨_, List.getElem?_eq_getElem (by omega)⟩
  obtain ⟨y, hy⟩ : ∃ y, fs[i]? = some y := ⟨_, List.getElem?_eq_getElem hlt⟩
  have hw := i64_succ i (by omega)
  have hwm : IntKind.i64.wrap ((i : Int) - 1) = ((i - 1 : Nat) : Int) := by rw [IntWalk.i64_in _ (by omega)]; omega
  refine ex_skip ?_
  show Go.Eng.Ex _ _ _ _ _ _
  refine ex_seq ?_
  refine ex_block ?_
  refine ex_mixed_w tt_ok mixed_ok 33 [0,0,0,0,0,0,2,0,0,0,0,0,0,1,1,1,1,1,1,1,1,1,1,1,1,1,1] (by kernel_rfl) [⟨.n, 0, [], []⟩, ⟨.n, 0, [], []⟩, ⟨.n, 0, [], []⟩, ⟨.n, 0, [], []⟩, ⟨.r, 0, [], []⟩, ⟨.r, 0, [], []⟩, ⟨.n, 0, [], []⟩, ⟨.n, 0, [], []⟩, ⟨.n, 0, [], []⟩, ⟨.n, 0, [], []⟩, ⟨.r, 0, [], []⟩, ⟨.r, 0, [], []⟩, ⟨.n, 0, [], []⟩, ⟨.n, 0, [], []⟩, ⟨.n, 0, [], []⟩] 0 (by kernel_rfl) fun K hK => ?_
  try simp only [List.nil_append,List.replicate_zero]
  refine runM_cut 6 (by simp) (by simp) fun K1 hK1 => ?_
  try simp only [ltb]
  simp only [hwm,List.getElem?_map,hx,encLb,tyCells,go_sem,reduceAdd,reduceLT,reduceEqDiff,reduceCtorEq]
  refine hK1 _ ?_
  refine runM_cut 1 (by simp) (by simp) fun K1 hK1 => ?_
  simp only [ltb,go_sem,reduceLT,reduceEqDiff]
  refine callD_ex rfl (by have h := hg x; simp only [ltb,encLb,tyCells] at h; exact h) ?_
  rintro _ ⟨sx, rfl⟩
  try simp only [go_sem]
  refine hK1 _ ?_
  refine runM_cut 6 (by simp) (by simp) fun K1 hK1 => ?_
  try simp only [ltb]
  simp only [List.getElem?_map,hy,encLb,tyCells,go_sem,reduceAdd,reduceLT,reduceEqDiff,reduceCtorEq]
  refine callD_ex rfl (by have h := hg y; simp only [ltb,encLb,tyCells] at h; exact h) ?_
  rintro _ ⟨sy, rfl⟩
  try simp only [go_sem]
  refine hK1 _ ?_
  refine runM_cut 1 (by simp) (by simp) fun K1 hK1 => ?_
  simp only [ltb,go_sem,reduceLT,reduceEqDiff]
  refine callD_ex rfl (compare_tot _ _) ?_
  rintro _ ⟨r3, rfl⟩
  try simp only [go_sem]
  refine hK1 _ ?_
  simp only [ltb,go_sem,reduceLT,reduceEqDiff]
  refine hK _ _ rfl ?_
  simp only [mwb,reduceAdd,reduceEqDiff]
  refine ex_block ?_
  refine ex_region_w tt_ok 33 (rp 27 0 [2,1,1]) [] rfl rfl fun K hK => ?_
  simp only [ltb,go_sem,reduceLT,reduceEqDiff]
  refine hK _ _ rfl ?_
  simp only [mwb,reduceAdd,reduceEqDiff]
  refine ex_if rfl (fun hc27 => ?_) (fun hc27 => ?_)
  ·refine ex_region_w tt_ok 33 [0,0,0,0,2] [] rfl rfl fun K hK => ?_
   simp only [ltb,go_sem]
   refine hK _ _ rfl ?_
   simp only [mwb,reduceAdd]
   exact ex_ret ⟨.inl rfl, _, ⟨_, rfl⟩, rfl⟩
  ·refine ex_region_w tt_ok 33 (rp 30 0 [2,1,1]) [] rfl rfl fun K hK => ?_
   simp only [ltb,go_sem,reduceLT,reduceEqDiff]
   refine hK _ _ rfl ?_
   simp only [mwb,reduceAdd,reduceEqDiff]
   refine ex_if rfl (fun hc30 => ?_) (fun hc30 => ?_)
   ·refine ex_region_w tt_ok 33 [0,0,0,0,2] [] rfl rfl fun K hK => ?_
    simp only [ltb,go_sem]
    refine hK _ _ rfl ?_
    simp only [mwb,reduceAdd]
    exact ex_ret ⟨.inl rfl, _, ⟨_, rfl⟩, rfl⟩
   ·refine ex_skip ?_
    show Go.Eng.Ex _ _ _ _ _ _
    refine ex_last_region_w tt_ok 33 [0,0,0,0,0,2,0,0,0,0,0,2,2] [] (by kernel_rfl) rfl rfl fun K hK => ?_
    try simp only [ltb]
    simp only [hw,go_sem,reduceLT,reduceEqDiff]
    refine hK _ _ rfl ?_
    simp only [mwb,reduceAdd,reduceEqDiff]
    refine ⟨[_], ?_, ?_, 0, [true,true,false,false,true,true], by omega, by simp only [maskFr,belowV,mkb], by simp only [List.all_nil,List.take_nil], by simp only [maskFr,putAll,List.set_cons_zero,List.set_cons_succ,mkb]; rfl⟩
    ·exact ⟨i + 1, rfl, by omega⟩
    ·simp only [intOf,List.headD_cons]; omega
 ·refine ex_exit ?_
  show Go.Eng.Ex _ _ _ _ _ _
  refine ex_region_w tt_ok 33 [0,0,0,0,2] [] rfl rfl fun K hK => ?_
  simp only [ltb,go_sem]
  refine hK _ _ rfl ?_
  simp only [mwb,reduceAdd]
  exact ex_ret ⟨.inl rfl, _, ⟨_, rfl⟩, rfl⟩
end Go.Proofs.YtpjdfcigadnhcaaGreatDoor
end

section
namespace Go.Proofs.YtpjdfcigadnhcaaGreatDoor
open Go.Eng
open Nat (reduceAdd reduceLT reduceLeDiff reduceMul reduceEqDiff reduceSub)
variable [Glob]
set_option maxHeartbeats 4000000
set_option maxRecDepth 100000
attribute [local irreducible] runM stepM valD stepOp stepD callF callS
theorem idxPm_tot (g : FuncId) (ls : List Pm) (hg : ∀ x : Pm, ∃ r, isB r ∧ FnOk Tryz.prog g [encPm x] r) (hl : ls.length ≤ 1048576) : ∃ r, isN r ∧ FnOk Tryz.prog 190 [.slice (ls.map encPm), .sc (.func (.func g) #[] #[])] r := by
 refine fn_ex tt_ok (fn := Tryz.f190) Tryz.func190 rfl Tryz.call190 ?_
 simp only [ltb,startSt,Tryz.ntmps190,List.length_cons,List.length_nil,reduceAdd,reduceSub,List.replicate_succ,List.replicate_zero]
 refine ex_region_w tt_ok 19 [0,0,0,0,2] [] rfl rfl fun K hK => ?_
 simp only [ltb,go_sem]
 refine hK _ _ rfl ?_
 simp only [mwb,reduceAdd]
 refine ex_seq ?_
 refine ex_region_w tt_ok 19 [0,0,0,0,0,0,1,2,2] [] rfl rfl fun K hK => ?_
 try simp only [ltb]
 simp only [List.length_map,go_sem,reduceLT]
 refine hK _ _ rfl ?_
 simp only [mwb,reduceAdd,reduceEqDiff]
 refine ex_block ?_
 refine ex_range 8 (ls.length) 0 [true,true,false,false,true,false,false,true,true] (by omega) (by simp only [maskFr,belowV,mkb]) (by simp only [List.all_nil,List.take_nil]) (by rfl) fun i hii => ?_
 simp only [maskFr,List.set_cons_zero,List.set_cons_succ,mkb]
 refine ex_region_w tt_ok 19 (rp 9 0 [2]) [] rfl rfl fun K hK => ?_
 simp only [ltb,go_sem,reduceLT]
 refine hK _ _ rfl ?_
 simp only [mwb,reduceAdd]
 refine ex_seq ?_
 refine ex_if rfl (fun hc9 => ?_) (fun hc9 => ?_)
 ·have hlti : i < (ls.length) := by simpa using hc9
  refine ex_skip ?_
  show Go.Eng.Ex _ _ _ _ _ _
  refine ex_seq ?_
  refine ex_block ?_
  refine ex_region_w tt_ok 19 [0,0,0,0,0,2,0,0,0,0,1] [] rfl rfl fun K hK => ?_
  simp only [ltb,go_sem,reduceLT]
  refine hK _ _ rfl ?_
  simp only [mwb,reduceAdd,reduceEqDiff]
  refine ex_region_w tt_ok 19 (rp 11 0 [1,1,1,1,1,2]) [] rfl rfl fun K hK => ?_
  refine runX_cut 3 fun K1 hK1 => ?_
  simp only [ltb,go_sem,reduceLT,reduceEqDiff,reduceCtorEq]
  refine hK1 _ ?_
  obtain ⟨x, hx⟩ : ∃ x, ls[i]? = some x := ⟨_, List.getElem?_eq_getElem hlti⟩
  try simp only [ltb]
  simp only [List.getElem?_map,hx,encPm,tyCells,List.cons_append,List.nil_append,go_sem,reduceAdd,reduceLT,reduceEqDiff]
  refine callF_ex (by have h := hg x; simp only [ltb,encPm,tyCells] at h; exact h) ?_
  rintro _ ⟨r1, rfl⟩
  try simp only [go_sem]
  refine hK _ _ rfl ?_
  simp only [mwb,reduceAdd,reduceEqDiff]
  refine ex_if rfl (fun hc16 => ?_) (fun hc16 => ?_)
  ·refine ex_region_w tt_ok 19 (0::0::0::0::2::(rp 12 0 [1])) [] rfl rfl fun K hK => ?_
   simp only [ltb,go_sem,reduceLT]
   refine hK _ _ rfl ?_
   simp only [mwb,reduceAdd,reduceEqDiff]
   exact ex_ret ⟨.inl rfl, _, ⟨_, rfl⟩, rfl⟩
  ·refine ex_skip ?_
   show Go.Eng.Ex _ _ _ _ _ _
   refine ex_last_region_w tt_ok 19 (rp 8 0 (2::(rp 9 0 [2]))) [] (by kernel_rfl) rfl rfl fun K hK => ?_
   simp only [ltb,go_sem,reduceLT]
   refine hK _ _ rfl ?_
   simp only [mwb,reduceAdd,reduceEqDiff]
   have hwi := i64_succ i (by omega)
   refine ⟨hlti, 0, [true,true,false,false,true,false,false,true,true], by omega, by simp only [maskFr,belowV,mkb], by simp only [List.all_nil,List.take_nil], ?_⟩
   simp only [hwi,maskFr,mkb]
 ·have hgei : ¬ i < (ls.length) := by simpa using hc9
  refine ex_exit ?_
  show Go.Eng.Ex _ _ _ _ _ _
  refine ex_region_w tt_ok 19 [0,0,0,0,2] [] rfl rfl fun K hK => ?_
  simp only [ltb,go_sem]
  refine hK _ _ rfl ?_
  simp only [mwb,reduceAdd]
  exact ex_ret ⟨.inl rfl, _, ⟨_, rfl⟩, rfl⟩
theorem containsPm_tot (g : FuncId) (ls : List Pm) (hg : ∀ x : Pm, ∃ r, isB r ∧ FnOk Tryz.prog g [encPm x] r) (hl : ls.length ≤ 1048576) : ∃ r, isB r ∧ FnOk Tryz.prog 162 [.slice (ls.map encPm), .sc (.func (.func g) #[] #[])] r := by
 refine fn_ex tt_ok (fn := Tryz.f162) Tryz.func162 rfl Tryz.call162 ?_
 simp only [ltb,startSt,Tryz.ntmps162,List.length_cons,List.length_nil,reduceAdd,reduceSub,List.replicate_succ,List.replicate_zero]
 refine ex_region_w tt_ok 9 [0,0,0,0,2] [] rfl rfl fun K hK => ?_
 simp only [ltb,go_sem]
 refine hK _ _ rfl ?_
 simp only [mwb,reduceAdd]
 refine ex_region_w tt_ok 9 [0,0,0,0,2,1,1,1,1] [] rfl rfl fun K hK => ?_
 refine runX_cut 3 fun K1 hK1 => ?_
 simp only [ltb,go_sem,reduceLT,reduceEqDiff]
 refine callF_ex (idxPm_tot g ls hg hl) ?_
 rintro _ ⟨r1, rfl⟩
 try simp only [go_sem]
 refine hK1 _ ?_
 simp only [ltb,go_sem,reduceLT,reduceEqDiff]
 refine hK _ _ rfl ?_
 simp only [mwb,reduceAdd,reduceEqDiff]
 exact ex_ret ⟨.inl rfl, _, ⟨_, rfl⟩, rfl⟩
theorem idxDc_tot (m : List Blk) (hm : m.all (belowB m.length) = true) (g : FuncId) (k : Nat) (hk : k < m.length) (ls : List Dc) (hg : ∀ x : Dc, ∃ r, isB r ∧ FnOkS Tryz.prog g [encDc x, .ptr k 0] m r m) (hl : ls.length ≤ 1048576) : ∃ r, isN r ∧ FnOkS Tryz.prog 168 [.slice (ls.map encDc), .clo (.func g) [] [.ptr k 0]] (m) r (m) := by
 refine fns_ex tt_ok (fn := Tryz.f168) Tryz.func168 rfl Tryz.call168 (hm) ?_
 simp only [ltb,startSt,Tryz.ntmps168,List.length_cons,List.length_nil,reduceAdd,reduceSub,List.replicate_succ,List.replicate_zero]
 refine ex_region_w tt_ok 19 [0,0,0,0,2] [] rfl rfl fun K hK => ?_
 simp only [ltb,go_sem]
 refine hK _ _ rfl ?_
 simp only [mwb,reduceAdd]
 refine ex_seq ?_
 refine ex_region_w tt_ok 19 [0,0,0,0,0,0,1,2,2] [] rfl rfl fun K hK => ?_
 try simp only [ltb]
 simp only [List.length_map,go_sem,reduceLT]
 refine hK _ _ rfl ?_
 simp only [mwb,reduceAdd,reduceEqDiff]
 refine ex_block ?_
 refine ex_range 8 (ls.length) m.length [true,true,false,false,true,false,false,true,true] (by omega) (by simp only [hk,maskFr,belowV,belowL,mkb]) (by simp only [List.take_length,hm]) (by rfl) fun i hii => ?_
 simp only [List.take_length,maskFr,List.set_cons_zero,List.set_cons_succ,mkb]
 refine ex_region_w tt_ok 19 (rp 9 0 [2]) [] rfl rfl fun K hK => ?_
 simp only [ltb,go_sem,reduceLT]
 refine hK _ _ rfl ?_
 simp only [mwb,reduceAdd]
 refine ex_seq ?_
 refine ex_if rfl (fun hc9 => ?_) (fun hc9 => ?_)
 ·have hlti : i < (ls.length) := by simpa using hc9
  refine ex_skip ?_
  show Go.Eng.Ex _ _ _ _ _ _
  refine ex_seq ?_
  refine ex_block ?_
  refine ex_region_w tt_ok 19 [0,0,0,0,0,2,0,0,0,0,1] [] rfl rfl fun K hK => ?_
  simp only [ltb,go_sem,reduceLT]
  refine hK _ _ rfl ?_
  simp only [mwb,reduceAdd,reduceEqDiff]
  refine ex_region_w tt_ok 19 (rp 11 0 [1,1,1,1,1,2]) [] rfl rfl fun K hK => ?_
  refine runX_cut 3 fun K1 hK1 => ?_
  simp only [ltb,go_sem,reduceLT,reduceEqDiff,reduceCtorEq]
  refine hK1 _ ?_
  obtain ⟨x, hx⟩ : ∃ x, ls[i]? = some x := ⟨_, List.getElem?_eq_getElem hlti⟩
  try simp only [ltb]
  simp only [List.getElem?_map,hx,encDc,tyCells,exCells,List.cons_append,List.nil_append,go_sem,reduceAdd,reduceLT,reduceEqDiff]
  refine callS_ex (by have h := hg x; simp only [ltb,encDc,tyCells,exCells] at h; exact h) ?_
  rintro _ ⟨r1, rfl⟩
  try simp only [go_sem]
  refine hK _ _ rfl ?_
  simp only [mwb,reduceAdd,reduceEqDiff]
  refine ex_if rfl (fun hc16 => ?_) (fun hc16 => ?_)
  ·refine ex_region_w tt_ok 19 (0::0::0::0::2::(rp 12 0 [1])) [] rfl rfl fun K hK => ?_
   simp only [ltb,go_sem,reduceLT]
   refine hK _ _ rfl ?_
   simp only [mwb,reduceAdd,reduceEqDiff]
   exact ex_ret ⟨.inl rfl, _, ⟨_, rfl⟩, rfl, rfl, List.take_length⟩
  ·refine ex_skip ?_
   show Go.Eng.Ex _ _ _ _ _ _
   refine ex_last_region_w tt_ok 19 (rp 8 0 (2::(rp 9 0 [2]))) [] (by kernel_rfl) rfl rfl fun K hK => ?_
   simp only [ltb,go_sem,reduceLT]
   refine hK _ _ rfl ?_
   simp only [mwb,reduceAdd,reduceEqDiff]
   have hwi := i64_succ i (by omega)
   refine ⟨hlti, m.length, [true,true,false,false,true,false,false,true,true], by omega, by simp only [hk,maskFr,belowV,belowL,mkb], by simp only [List.take_length,hm], ?_⟩
   simp only [hwi,List.take_length,maskFr,mkb]
 ·have hgei : ¬ i < (ls.length) := by simpa using hc9
  refine ex_exit ?_
  show Go.Eng.Ex _ _ _ _ _ _
  refine ex_region_w tt_ok 19 [0,0,0,0,2] [] rfl rfl fun K hK => ?_
  simp only [ltb,go_sem]
  refine hK _ _ rfl ?_
  simp only [mwb,reduceAdd]
  exact ex_ret ⟨.inl rfl, _, ⟨_, rfl⟩, rfl, rfl, List.take_length⟩
theorem containsDc_tot (m : List Blk) (hm : m.all (belowB m.length) = true) (g : FuncId) (k : Nat) (hk : k < m.length) (ls : List Dc) (hg : ∀ x : Dc, ∃ r, isB r ∧ FnOkS Tryz.prog g [encDc x, .ptr k 0] m r m) (hl : ls.length ≤ 1048576) : ∃ r, isB r ∧ FnOkS Tryz.prog 116 [.slice (ls.map encDc), .clo (.func g) [] [.ptr k 0]] (m) r (m) := by
 refine fns_ex tt_ok (fn := Tryz.f116) Tryz.func116 rfl Tryz.call116 (hm) ?_
 simp only [ltb,startSt,Tryz.ntmps116,List.length_cons,List.length_nil,reduceAdd,reduceSub,List.replicate_succ,List.replicate_zero]
 refine ex_region_w tt_ok 9 [0,0,0,0,2] [] rfl rfl fun K hK => ?_
 simp only [ltb,go_sem]
 refine hK _ _ rfl ?_
 simp only [mwb,reduceAdd]
 refine ex_region_w tt_ok 9 [0,0,0,0,2,1,1,1,1] [] rfl rfl fun K hK => ?_
 refine runX_cut 3 fun K1 hK1 => ?_
 simp only [ltb,go_sem,reduceLT,reduceEqDiff]
 refine callS_ex (idxDc_tot m hm g k hk ls hg hl) ?_
 rintro _ ⟨r1, rfl⟩
 try simp only [go_sem]
 refine hK1 _ ?_
 simp only [ltb,go_sem,reduceLT,reduceEqDiff]
 refine hK _ _ rfl ?_
 simp only [mwb,reduceAdd,reduceEqDiff]
 exact ex_ret ⟨.inl rfl, _, ⟨_, rfl⟩, rfl, rfl, List.take_length⟩
theorem idxIm_tot (m : List Blk) (hm : m.all (belowB m.length) = true) (g : FuncId) (k : Nat) (hk : k < m.length) (ls : List Im) (hg : ∀ x : Im, ∃ r, isB r ∧ FnOkS Tryz.prog g [encIm x, .ptr k 0] m r m) (hl : ls.length ≤ 1048576) : ∃ r, isN r ∧ FnOkS Tryz.prog 161 [.slice (ls.map encIm), .clo (.func g) [] [.ptr k 0]] (m) r (m) := by
 refine fns_ex tt_ok (fn := Tryz.f161) Tryz.func161 rfl Tryz.call161 (hm) ?_
 simp only [ltb,startSt,Tryz.ntmps161,List.length_cons,List.length_nil,reduceAdd,reduceSub,List.replicate_succ,List.replicate_zero]
 refine ex_region_w tt_ok 19 [0,0,0,0,2] [] rfl rfl fun K hK => ?_
 simp only [ltb,go_sem]
 refine hK _ _ rfl ?_
 simp only [mwb,reduceAdd]
 refine ex_seq ?_
 refine ex_region_w tt_ok 19 [0,0,0,0,0,0,1,2,2] [] rfl rfl fun K hK => ?_
 try simp only [ltb]
 simp only [List.length_map,go_sem,reduceLT]
 refine hK _ _ rfl ?_
 simp only [mwb,reduceAdd,reduceEqDiff]
 refine ex_block ?_
 refine ex_range 8 (ls.length) m.length [true,true,false,false,true,false,false,true,true] (by omega) (by simp only [hk,maskFr,belowV,belowL,mkb]) (by simp only [List.take_length,hm]) (by rfl) fun i hii => ?_
 simp only [List.take_length,maskFr,List.set_cons_zero,List.set_cons_succ,mkb]
 refine ex_region_w tt_ok 19 (rp 9 0 [2]) [] rfl rfl fun K hK => ?_
 simp only [ltb,go_sem,reduceLT]
 refine hK _ _ rfl ?_
 simp only [mwb,reduceAdd]
 refine ex_seq ?_
 refine ex_if rfl (fun hc9 => ?_) (fun hc9 => ?_)
 ·have hlti : i < (ls.length) := by simpa using hc9
  refine ex_skip ?_
  show Go.Eng.Ex _ _ _ _ _ _
  refine ex_seq ?_
  refine ex_block ?_
  refine ex_region_w tt_ok 19 [0,0,0,0,0,2,0,0,0,0,1] [] rfl rfl fun K hK => ?_
  simp only [ltb,go_sem,reduceLT]
  refine hK _ _ rfl ?_
  simp only [mwb,reduceAdd,reduceEqDiff]
  refine ex_region_w tt_ok 19 (rp 11 0 [1,1,1,1,1,2]) [] rfl rfl fun K hK => ?_
  refine runX_cut 3 fun K1 hK1 => ?_
  simp only [ltb,go_sem,reduceLT,reduceEqDiff,reduceCtorEq]
  refine hK1 _ ?_
  obtain ⟨x, hx⟩ : ∃ x, ls[i]? = some x := ⟨_, List.getElem?_eq_getElem hlti⟩
  try simp only [ltb]
  simp only [List.getElem?_map,hx,encIm,go_sem,reduceAdd,reduceLT,reduceEqDiff]
  refine callS_ex (by have h := hg x; simp only [encIm] at h; exact h) ?_
  rintro _ ⟨r1, rfl⟩
  try simp only [go_sem]
  refine hK _ _ rfl ?_
  simp only [mwb,reduceAdd,reduceEqDiff]
  refine ex_if rfl (fun hc16 => ?_) (fun hc16 => ?_)
  ·refine ex_region_w tt_ok 19 (0::0::0::0::2::(rp 12 0 [1])) [] rfl rfl fun K hK => ?_
   simp only [ltb,go_sem,reduceLT]
   refine hK _ _ rfl ?_
   simp only [mwb,reduceAdd,reduceEqDiff]
   exact ex_ret ⟨.inl rfl, _, ⟨_, rfl⟩, rfl, rfl, List.take_length⟩
  ·refine ex_skip ?_
   show Go.Eng.Ex _ _ _ _ _ _
   refine ex_last_region_w tt_ok 19 (rp 8 0 (2::(rp 9 0 [2]))) [] (by kernel_rfl) rfl rfl fun K hK => ?_
   simp only [ltb,go_sem,reduceLT]
   refine hK _ _ rfl ?_
   simp only [mwb,reduceAdd,reduceEqDiff]
   have hwi := i64_succ i (by omega)
   refine ⟨hlti, m.length, [true,true,false,false,true,false,false,true,true], by omega, by simp only [hk,maskFr,belowV,belowL,mkb], by simp only [List.take_length,hm], ?_⟩
   simp only [hwi,List.take_length,maskFr,mkb]
 ·have hgei : ¬ i < (ls.length) := by simpa using hc9
  refine ex_exit ?_
  show Go.Eng.Ex _ _ _ _ _ _
  refine ex_region_w tt_ok 19 [0,0,0,0,2] [] rfl rfl fun K hK => ?_
  simp only [ltb,go_sem]
  refine hK _ _ rfl ?_
  simp only [mwb,reduceAdd]
  exact ex_ret ⟨.inl rfl, _, ⟨_, rfl⟩, rfl, rfl, List.take_length⟩
theorem containsIm_tot (m : List Blk) (hm : m.all (belowB m.length) = true) (g : FuncId) (k : Nat) (hk : k < m.length) (ls : List Im) (hg : ∀ x : Im, ∃ r, isB r ∧ FnOkS Tryz.prog g [encIm x, .ptr k 0] m r m) (hl : ls.length ≤ 1048576) : ∃ r, isB r ∧ FnOkS Tryz.prog 112 [.slice (ls.map encIm), .clo (.func g) [] [.ptr k 0]] (m) r (m) := by
 refine fns_ex tt_ok (fn := Tryz.f112) Tryz.func112 rfl Tryz.call112 (hm) ?_
 simp only [ltb,startSt,Tryz.ntmps112,List.length_cons,List.length_nil,reduceAdd,reduceSub,List.replicate_succ,List.replicate_zero]
 refine ex_region_w tt_ok 9 [0,0,0,0,2] [] rfl rfl fun K hK => ?_
 simp only [ltb,go_sem]
 refine hK _ _ rfl ?_
 simp only [mwb,reduceAdd]
 refine ex_region_w tt_ok 9 [0,0,0,0,2,1,1,1,1] [] rfl rfl fun K hK => ?_
 refine runX_cut 3 fun K1 hK1 => ?_
 simp only [ltb,go_sem,reduceLT,reduceEqDiff]
 refine callS_ex (idxIm_tot m hm g k hk ls hg hl) ?_
 rintro _ ⟨r1, rfl⟩
 try simp only [go_sem]
 refine hK1 _ ?_
 simp only [ltb,go_sem,reduceLT,reduceEqDiff]
 refine hK _ _ rfl ?_
 simp only [mwb,reduceAdd,reduceEqDiff]
 exact ex_ret ⟨.inl rfl, _, ⟨_, rfl⟩, rfl, rfl, List.take_length⟩
theorem pm1_tot (p : Pm) : ∃ r, isB r ∧ FnOk Tryz.prog 163 [encPm p] r := by
 refine fn_ex tt_ok (fn := Tryz.f163) Tryz.func163 rfl Tryz.call163 ?_
 simp only [ltb,startSt,Tryz.ntmps163,List.length_cons,List.length_nil,reduceAdd,reduceSub,List.replicate_succ,List.replicate_zero]
 simp only [ltb,encPm,tyCells]
 refine ex_region_w tt_ok 7 [0,2,2] [] rfl rfl fun K hK => ?_
 simp only [ltb,go_sem,reduceLT]
 refine hK _ _ rfl ?_
 simp only [mwb,reduceAdd,reduceEqDiff]
 refine ex_region_w tt_ok 7 [0,0,2,1,1,1,1] [] rfl rfl fun K hK => ?_
 refine runX_cut 3 fun K1 hK1 => ?_
 simp only [ltb,go_sem,reduceAdd,reduceLT,reduceEqDiff]
 refine callF_ex (by have h := zeroType_tot p.bound; rw [encTy_eq] at h; exact h) ?_
 rintro _ ⟨r1, rfl⟩
 try simp only [go_sem]
 refine hK1 _ ?_
 simp only [ltb,go_sem,reduceLT,reduceEqDiff]
 refine hK _ _ rfl ?_
 simp only [mwb,reduceAdd,reduceEqDiff]
 exact ex_ret ⟨.inl rfl, _, ⟨_, rfl⟩, rfl⟩
theorem pm2_tot (p : Pm) : ∃ r, isB r ∧ FnOk Tryz.prog 164 [encPm p] r := by
 refine fn_ex tt_ok (fn := Tryz.f164) Tryz.func164 rfl Tryz.call164 ?_
 simp only [ltb,startSt,Tryz.ntmps164,List.length_cons,List.length_nil,reduceAdd,reduceSub,List.replicate_succ,List.replicate_zero]
 simp only [ltb,encPm,tyCells]
 refine ex_region_w tt_ok 11 [0,2,2] [] rfl rfl fun K hK => ?_
 simp only [ltb,go_sem,reduceLT]
 refine hK _ _ rfl ?_
 simp only [mwb,reduceAdd,reduceEqDiff]
 refine ex_region_w tt_ok 11 [0,0,2,1,1,1,1,1,1,1,1] [(3, 6)] rfl rfl fun K hK => ?_
 refine runX_cut 4 fun K1 hK1 => ?_
 simp only [ltb,go_sem,reduceAdd,reduceLT,reduceLeDiff,reduceEqDiff]
 refine hK1 _ ?_
 refine runX_case 6 (by rfl) fun b hb1_3 => ?_
 cases b
 ·simp only [ltb,go_sem,reduceAdd,reduceLT,reduceLeDiff,reduceEqDiff]
  refine hK _ _ rfl ?_
  simp only [mwb,reduceAdd,reduceEqDiff]
  exact ex_ret ⟨.inl rfl, _, ⟨_, rfl⟩, rfl⟩
 ·simp only [ltb,go_sem,reduceLT,reduceEqDiff]
  refine hK _ _ rfl ?_
  simp only [mwb,reduceAdd,reduceEqDiff]
  exact ex_ret ⟨.inl rfl, _, ⟨_, rfl⟩, rfl⟩
theorem pm3_tot (p : Pm) : ∃ r, isB r ∧ FnOk Tryz.prog 166 [encPm p] r := by
 refine fn_ex tt_ok (fn := Tryz.f166) Tryz.func166 rfl Tryz.call166 ?_
 simp only [ltb,startSt,Tryz.ntmps166,List.length_cons,List.length_nil,reduceAdd,reduceSub,List.replicate_succ,List.replicate_zero]
 simp only [ltb,encPm,tyCells]
 refine ex_region_w tt_ok 6 [0,2,2] [] rfl rfl fun K hK => ?_
 simp only [ltb,go_sem,reduceLT]
 refine hK _ _ rfl ?_
 simp only [mwb,reduceAdd,reduceEqDiff]
 refine ex_region_w tt_ok 6 [0,0,2,1,1,1] [] rfl rfl fun K hK => ?_
 simp only [ltb,go_sem,reduceAdd,reduceLT,reduceLeDiff,reduceEqDiff]
 refine hK _ _ rfl ?_
 simp only [mwb,reduceAdd,reduceEqDiff]
 exact ex_ret ⟨.inl rfl, _, ⟨_, rfl⟩, rfl⟩
theorem pm4_tot (p : Pm) : ∃ r, isB r ∧ FnOk Tryz.prog 167 [encPm p] r := by
 refine fn_ex tt_ok (fn := Tryz.f167) Tryz.func167 rfl Tryz.call167 ?_
 simp only [ltb,startSt,Tryz.ntmps167,List.length_cons,List.length_nil,reduceAdd,reduceSub,List.replicate_succ,List.replicate_zero]
 simp only [ltb,encPm,tyCells]
 refine ex_region_w tt_ok 7 [0,2,2] [] rfl rfl fun K hK => ?_
 simp only [ltb,go_sem,reduceLT]
 refine hK _ _ rfl ?_
 simp only [mwb,reduceAdd,reduceEqDiff]
 refine ex_region_w tt_ok 7 [0,0,2,1,1,1,1] [] rfl rfl fun K hK => ?_
 refine runX_cut 3 fun K1 hK1 => ?_
 simp only [ltb,go_sem,reduceAdd,reduceLT,reduceLeDiff,reduceEqDiff]
 refine callF_ex (isType_tot _) ?_
 rintro _ ⟨r1, rfl⟩
 try simp only [go_sem]
 refine hK1 _ ?_
 simp only [ltb,go_sem,reduceLT,reduceEqDiff]
 refine hK _ _ rfl ?_
 simp only [mwb,reduceAdd,reduceEqDiff]
 exact ex_ret ⟨.inl rfl, _, ⟨_, rfl⟩, rfl⟩
theorem dc1_tot (d x : Dc) : ∃ r, isB r ∧ FnOkS Tryz.prog 117 [encDc x, .ptr 0 0] ([.box (dcCells d)]) r ([.box (dcCells d)]) := by
 refine fns_ex tt_ok (fn := Tryz.f117) Tryz.func117 rfl Tryz.call117 (by simp only [ltb,dcCells,tyCells,exCells,List.all_cons,List.all_nil,bB_box,belowV,List.length_cons,List.length_nil,reduceAdd,Bool.and_self]) ?_
 simp only [ltb,startSt,Tryz.ntmps117,List.length_cons,List.length_nil,reduceAdd,reduceSub,List.replicate_succ,List.replicate_zero]
 simp only [ltb,dcCells,encDc,tyCells,exCells]
 refine ex_region_w tt_ok 9 [0,0,2,2] [] rfl rfl fun K hK => ?_
 simp only [ltb,go_sem,reduceAdd,reduceLT]
 refine hK _ _ rfl ?_
 simp only [mwb,reduceAdd,reduceEqDiff]
 refine ex_region_w tt_ok 9 [0,0,0,2,1,1,1,1,1] [] rfl rfl fun K hK => ?_
 simp only [ltb,go_sem,reduceAdd,reduceLT,reduceLeDiff,reduceEqDiff]
 refine hK _ _ rfl ?_
 simp only [mwb,reduceAdd,reduceEqDiff]
 exact ex_ret ⟨.inl rfl, _, ⟨_, rfl⟩, rfl, rfl, rfl⟩
theorem im1_tot (b0 : Blk) (hb0 : ∀ n, 2 ≤ n → belowB n b0 = true) (y x : Im) : ∃ r, isB r ∧ FnOkS Tryz.prog 113 [encIm x, .ptr 1 0] ([b0, .box [str y.path, str y.alias]]) r ([b0, .box [str y.path, str y.alias]]) := by
 refine fns_ex tt_ok (fn := Tryz.f113) Tryz.func113 rfl Tryz.call113 (by simp only [hb0,reduceLeDiff,List.all_cons,List.all_nil,bB_box,belowV,List.length_cons,List.length_nil,reduceAdd,Bool.and_self]) ?_
 simp only [ltb,startSt,Tryz.ntmps113,List.length_cons,List.length_nil,reduceAdd,reduceSub,List.replicate_succ,List.replicate_zero]
 simp only [encIm]
 refine ex_region_w tt_ok 16 [0,0,2,2] [] rfl rfl fun K hK => ?_
 simp only [ltb,go_sem,reduceAdd,reduceLT]
 refine hK _ _ rfl ?_
 simp only [mwb,reduceAdd,reduceEqDiff]
 refine ex_region_w tt_ok 16 (0::0::0::2::(rp 12 1 [])) [(5, 9)] rfl rfl fun K hK => ?_
 refine runX_cut 6 fun K1 hK1 => ?_
 simp only [ltb,go_sem,reduceAdd,reduceLT,reduceLeDiff,reduceEqDiff]
 refine hK1 _ ?_
 refine runX_case 9 (by rfl) fun b hb1_5 => ?_
 cases b
 ·simp only [ltb,go_sem,reduceAdd,reduceLT,reduceEqDiff]
  refine hK _ _ rfl ?_
  simp only [mwb,reduceAdd,reduceEqDiff]
  exact ex_ret ⟨.inl rfl, _, ⟨_, rfl⟩, rfl, rfl, rfl⟩
 ·simp only [ltb,go_sem,reduceAdd,reduceLT,reduceEqDiff]
  refine hK _ _ rfl ?_
  simp only [mwb,reduceAdd,reduceEqDiff]
  exact ex_ret ⟨.inl rfl, _, ⟨_, rfl⟩, rfl, rfl, rfl⟩
end Go.Proofs.YtpjdfcigadnhcaaGreatDoor
end

section
namespace Go.Proofs.YtpjdfcigadnhcaaGreatDoor
open Go.Eng
variable [Glob]
theorem count_nat2 (s : ByteArray) (c : Int) : ∃ r, (∃ k : Nat, r = num k ∧ k ≤ s.size) ∧ NatOk Tryz.prog 217 [str s, .sc (.int .u8 c)] r :=
 ⟨_, ⟨_, rfl, by unfold Lib.countByte; exact Nat.le_trans List.count_le_length (by rw [Array.length_toList]; exact Nat.le_refl _)⟩, natOk_of (P := Tryz.prog) (fn := Tryz.f217) (ext := Extern.BytealgCount.count) Tryz.func217 (by kernel_rfl) rfl (by kernel_rfl) (by kernel_rfl) (l := [.string s, .int .u8 c]) rfl
  fun w => Lib.run_countString (P := Tryz.prog) s c w⟩
end Go.Proofs.YtpjdfcigadnhcaaGreatDoor
end

section
namespace Go.Proofs.YtpjdfcigadnhcaaGreatDoor
open Go.Eng
open Nat (reduceAdd reduceLT reduceLeDiff reduceMul reduceEqDiff reduceSub)
variable [Glob]
set_option maxHeartbeats 4000000
set_option maxRecDepth 100000
attribute [local irreducible] runM stepM valD stepOp stepD callF
theorem size_of_beq {a b : ByteArray} (h : (a.toList == b.toList) = true) : a.size = b.size := by
 have e : a.toList = b.toList := by simpa using h
 rw [ByteArray.toList_eq, ByteArray.toList_eq] at e
 have := congrArg List.length e
 simp only [Array.length_toList] at this
 exact this
theorem index1_tot (hG : Glob.g = some 0) (s : ByteArray) (hs : s.size ≤ 1048576) : ∃ r, (fun v => ∃ o : Int, v = num o ∧ -1 ≤ o ∧ o < s.size) r ∧ FnOk Tryz.prog 199 [str s, str ⟨#[47]⟩] r := by
 refine fn_ex tt_ok (fn := Tryz.f199) Tryz.func199 rfl Tryz.call199 ?_
 simp only [ltb,startSt,Tryz.ntmps199,List.length_cons,List.length_nil,reduceAdd,reduceSub,List.replicate_succ,List.replicate_zero]
 have hT9 : Tryz.prog.underlying 9 = some .string := by kernel_rfl
 have sl : ∀ (a : ByteArray) (ty : TypeId), liftL Tryz.prog (Builtin.len_ #[9] ty) [.sc (.string a)] = some (num a.size) := fun a ty => ev_slen (P := Tryz.prog) (tt := tt) (T := 9) a hT9 ty
 have hz : (⟨#[47]⟩ : ByteArray).size = 1 := rfl
 have hd0 : decide (((1 : Nat) : Int) = 0) = false := by decide
 have hd1 : decide (((1 : Nat) : Int) = 1) = true := by decide
 have hix := ev_index (P := Tryz.prog) ⟨#[47]⟩ hT9 .i64 0 (by omega) (c := 47) rfl
 refine ex_region_w tt_ok 143 [0,0,0,0,2] [] rfl rfl fun K hK => ?_
 try simp only [ltb]
 try simp only [ltb]
 simp only [sl,hz,hd0,hd1,hix,go_sem,reduceIte,reduceAdd,reduceLT,reduceLeDiff,reduceMul,reduceEqDiff,reduceSub,reduceCtorEq,List.take_length]
 refine hK _ _ rfl ?_
 simp only [mwb,reduceAdd,reduceEqDiff]
 refine ex_region_w tt_ok 143 [0,0,0,0,0,2,0,0,0,0,0,0,0,0,1,1] [] rfl rfl fun K hK => ?_
 try simp only [ltb]
 try simp only [ltb]
 simp only [sl,hz,hd0,hd1,hix,go_sem,reduceIte,reduceAdd,reduceLT,reduceLeDiff,reduceMul,reduceEqDiff,reduceSub,reduceCtorEq,List.take_length]
 refine hK _ _ rfl ?_
 simp only [mwb,reduceAdd,reduceEqDiff]
 refine ex_seq ?_
 refine ex_block ?_
 refine ex_region_w tt_ok 143 (rp 16 0 [2,1,1,1,1,1,1,1]) [(2, 19)] rfl rfl fun K hK => ?_
 try simp only [ltb]
 refine runX_cut 3 fun K1 hK1 => ?_
 simp only [ltb]
 simp only [sl,hz,hd0,hd1,hix,go_sem,reduceIte,reduceAdd,reduceLT,reduceLeDiff,reduceMul,reduceEqDiff,reduceSub,reduceCtorEq,List.take_length]
 refine hK1 _ ?_
 refine runX_case 19 (by rfl) fun b hb2_2 => ?_
 cases b
 ·try simp only [ltb]
  simp only [sl,hz,hd0,hd1,hix,go_sem,reduceIte,reduceAdd,reduceLT,reduceLeDiff,reduceMul,reduceEqDiff,reduceSub,reduceCtorEq,List.take_length]
  refine hK _ _ rfl ?_
  simp only [mwb,reduceAdd,reduceEqDiff]
  refine ex_if rfl (fun hc16 => ?_) (fun hc16 => ?_)
  ·refine ex_region_w tt_ok 143 [0,0,0,0,2] [] rfl rfl fun K hK => ?_
   try simp only [ltb]
   try simp only [ltb]
   simp only [sl,hz,hd0,hd1,hix,go_sem,reduceIte,reduceAdd,reduceLT,reduceLeDiff,reduceMul,reduceEqDiff,reduceSub,reduceCtorEq,List.take_length]
   refine hK _ _ rfl ?_
   simp only [mwb,reduceAdd,reduceEqDiff]
   refine ex_ret ?_
   first | exact ⟨.inl rfl, _, ⟨o, rfl, hl, hu⟩, rfl⟩ | exact ⟨.inl rfl, _, ⟨0, rfl, by omega, by have := size_of_beq hc16; rw [show (⟨#[47]⟩ : ByteArray).size = 1 from rfl] at this; omega⟩, rfl⟩
  ·refine ex_region_w tt_ok 143 (rp 24 0 [2,1,1]) [] rfl rfl fun K hK => ?_
   try simp only [ltb]
   try simp only [ltb]
   simp only [sl,hz,hd0,hd1,hix,go_sem,reduceIte,reduceAdd,reduceLT,reduceLeDiff,reduceMul,reduceEqDiff,reduceSub,reduceCtorEq,List.take_length]
   refine hK _ _ rfl ?_
   simp only [mwb,reduceAdd,reduceEqDiff]
   refine ex_if rfl (fun hc24 => ?_) (fun hc24 => ?_)
   ·refine ex_region_w tt_ok 143 (0::0::0::0::2::(rp 22 0 [1,1,1,1])) [] rfl rfl fun K hK => ?_
    try simp only [ltb]
    refine runX_cut 4 fun K1 hK1 => ?_
    simp only [ltb]
    simp only [sl,hz,hd0,hd1,hix,go_sem,reduceIte,reduceAdd,reduceLT,reduceLeDiff,reduceMul,reduceEqDiff,reduceSub,reduceCtorEq,List.take_length]
    refine callF_ex (indexByte_tot _ _) ?_
    rintro _ ⟨o, rfl, hl, hu⟩
    try simp only [sl,hz,hd0,hd1,hix,go_sem,reduceIte,reduceAdd,reduceLT,reduceLeDiff,reduceMul,reduceEqDiff,reduceSub,reduceCtorEq,List.take_length]
    refine hK1 _ ?_
    try simp only [ltb]
    simp only [sl,hz,hd0,hd1,hix,go_sem,reduceIte,reduceAdd,reduceLT,reduceLeDiff,reduceMul,reduceEqDiff,reduceSub,reduceCtorEq,List.take_length]
    refine hK _ _ rfl ?_
    simp only [mwb,reduceAdd,reduceEqDiff]
    refine ex_ret ?_
    first | exact ⟨.inl rfl, _, ⟨o, rfl, hl, hu⟩, rfl⟩ | exact ⟨.inl rfl, _, ⟨0, rfl, by omega, by have := size_of_beq hc16; rw [show (⟨#[47]⟩ : ByteArray).size = 1 from rfl] at this; omega⟩, rfl⟩
   ·cases hc24
 ·cases hb2_2
theorem sindex1_tot (hG : Glob.g = some 0) (s : ByteArray) (hs : s.size ≤ 1048576) : ∃ r, (fun v => ∃ o : Int, v = num o ∧ -1 ≤ o ∧ o < s.size) r ∧ FnOk Tryz.prog 184 [str s, str ⟨#[47]⟩] r := by
 refine fn_ex tt_ok (fn := Tryz.f184) Tryz.func184 rfl Tryz.call184 ?_
 simp only [ltb,startSt,Tryz.ntmps184,List.length_cons,List.length_nil,reduceAdd,reduceSub,List.replicate_succ,List.replicate_zero]
 refine ex_region_w tt_ok 8 [0,0,0,0,2] [] rfl rfl fun K hK => ?_
 try simp only [ltb]
 simp only [ltb,go_sem,reduceIte,reduceAdd,reduceLT,reduceLeDiff,reduceMul,reduceEqDiff,reduceSub,reduceCtorEq,List.take_length]
 refine hK _ _ rfl ?_
 simp only [mwb,reduceAdd,reduceEqDiff]
 refine ex_region_w tt_ok 8 [0,0,0,0,2,1,1,1] [] rfl rfl fun K hK => ?_
 try simp only [ltb]
 refine runX_cut 3 fun K1 hK1 => ?_
 simp only [ltb,go_sem,reduceIte,reduceAdd,reduceLT,reduceLeDiff,reduceMul,reduceEqDiff,reduceSub,reduceCtorEq,List.take_length]
 refine callF_ex (index1_tot hG _ hs) ?_
 rintro _ ⟨o, rfl, hl, hu⟩
 try simp only [go_sem,reduceIte,reduceAdd,reduceLT,reduceLeDiff,reduceMul,reduceEqDiff,reduceSub,reduceCtorEq,List.take_length]
 refine hK1 _ ?_
 simp only [ltb,go_sem,reduceIte,reduceAdd,reduceLT,reduceLeDiff,reduceMul,reduceEqDiff,reduceSub,reduceCtorEq,List.take_length]
 refine hK _ _ rfl ?_
 simp only [mwb,reduceAdd,reduceEqDiff]
 exact ex_ret ⟨.inl rfl, _, ⟨o, rfl, hl, hu⟩, rfl⟩
theorem count1_tot (s : ByteArray) : ∃ r, (fun v => ∃ k : Nat, v = num k ∧ k ≤ s.size) r ∧ FnOk Tryz.prog 208 [str s, str ⟨#[47]⟩] r := by
 refine fn_ex tt_ok (fn := Tryz.f208) Tryz.func208 rfl Tryz.call208 ?_
 simp only [ltb,startSt,Tryz.ntmps208,List.length_cons,List.length_nil,reduceAdd,reduceSub,List.replicate_succ,List.replicate_zero]
 have hT9 : Tryz.prog.underlying 9 = some .string := by kernel_rfl
 have sl : ∀ (a : ByteArray) (ty : TypeId), liftL Tryz.prog (Builtin.len_ #[9] ty) [.sc (.string a)] = some (num a.size) := fun a ty => ev_slen (P := Tryz.prog) (tt := tt) (T := 9) a hT9 ty
 have hz : (⟨#[47]⟩ : ByteArray).size = 1 := rfl
 have hd0 : decide (((1 : Nat) : Int) = 0) = false := by decide
 have hd1 : decide (((1 : Nat) : Int) = 1) = true := by decide
 have hix := ev_index (P := Tryz.prog) ⟨#[47]⟩ hT9 .i64 0 (by omega) (c := 47) rfl
 refine ex_region_w tt_ok 34 [0,0,0,0,2] [] rfl rfl fun K hK => ?_
 try simp only [ltb]
 try simp only [ltb]
 simp only [sl,hz,hd0,hd1,hix,go_sem,reduceIte,reduceAdd,reduceLT,reduceLeDiff,reduceMul,reduceEqDiff,reduceSub,reduceCtorEq,List.take_length]
 refine hK _ _ rfl ?_
 simp only [mwb,reduceAdd,reduceEqDiff]
 refine ex_seq ?_
 refine ex_region_w tt_ok 34 [0,0,0,0,0,0,0,1,1,2] [] rfl rfl fun K hK => ?_
 try simp only [ltb]
 try simp only [ltb]
 simp only [sl,hz,hd0,hd1,hix,go_sem,reduceIte,reduceAdd,reduceLT,reduceLeDiff,reduceMul,reduceEqDiff,reduceSub,reduceCtorEq,List.take_length]
 refine hK _ _ rfl ?_
 simp only [mwb,reduceAdd,reduceEqDiff]
 refine ex_if rfl (fun hc9 => ?_) (fun hc9 => ?_)
 ·cases hc9
 ·refine ex_skip ?_
  show Go.Eng.Ex _ _ _ _ _ _
  refine ex_seq ?_
  refine ex_region_w tt_ok 34 (rp 13 0 [1,1,2]) [] rfl rfl fun K hK => ?_
  try simp only [ltb]
  try simp only [ltb]
  simp only [sl,hz,hd0,hd1,hix,go_sem,reduceIte,reduceAdd,reduceLT,reduceLeDiff,reduceMul,reduceEqDiff,reduceSub,reduceCtorEq,List.take_length]
  refine hK _ _ rfl ?_
  simp only [mwb,reduceAdd,reduceEqDiff]
  refine ex_if rfl (fun hc15 => ?_) (fun hc15 => ?_)
  ·refine ex_region_w tt_ok 34 (0::0::0::0::2::(rp 11 0 [1,1,1,1])) [] rfl rfl fun K hK => ?_
   try simp only [ltb]
   refine runX_cut 4 fun K1 hK1 => ?_
   simp only [ltb]
   simp only [sl,hz,hd0,hd1,hix,go_sem,reduceIte,reduceAdd,reduceLT,reduceLeDiff,reduceMul,reduceEqDiff,reduceSub,reduceCtorEq,List.take_length]
   refine callF_nat (count_nat2 _ _) ?_
   rintro _ ⟨k, rfl, hk⟩
   try simp only [sl,hz,hd0,hd1,hix,go_sem,reduceIte,reduceAdd,reduceLT,reduceLeDiff,reduceMul,reduceEqDiff,reduceSub,reduceCtorEq,List.take_length]
   refine hK1 _ ?_
   try simp only [ltb]
   simp only [sl,hz,hd0,hd1,hix,go_sem,reduceIte,reduceAdd,reduceLT,reduceLeDiff,reduceMul,reduceEqDiff,reduceSub,reduceCtorEq,List.take_length]
   refine hK _ _ rfl ?_
   simp only [mwb,reduceAdd,reduceEqDiff]
   exact ex_ret ⟨.inl rfl, _, ⟨k, rfl, hk⟩, rfl⟩
  ·cases hc15
end Go.Proofs.YtpjdfcigadnhcaaGreatDoor
end

section
namespace Go.Proofs.YtpjdfcigadnhcaaGreatDoor
open Go.Eng
open Nat (reduceAdd reduceLT reduceLeDiff reduceMul reduceEqDiff reduceSub)
variable [Glob]
set_option maxHeartbeats 4000000
set_option maxRecDepth 100000
attribute [local irreducible] runM stepM valD stepOp stepD callF
theorem hasPrefix_tot (s p : ByteArray) : ∃ r, (fun v => ∃ b : Bool, v = bl b ∧ (b = true → p.size ≤ s.size)) r ∧ FnOk Tryz.prog 218 [str s, str p] r := by
 refine fn_ex tt_ok (fn := Tryz.f218) Tryz.func218 rfl Tryz.call218 ?_
 simp only [ltb,startSt,Tryz.ntmps218,List.length_cons,List.length_nil,reduceAdd,reduceSub,List.replicate_succ,List.replicate_zero]
 have hT9 : Tryz.prog.underlying 9 = some .string := by kernel_rfl
 have sl : ∀ (a : ByteArray) (ty : TypeId), liftL Tryz.prog (Builtin.len_ #[9] ty) [.sc (.string a)] = some (num a.size) := fun a ty => ev_slen (P := Tryz.prog) (tt := tt) (T := 9) a hT9 ty
 refine ex_region_w tt_ok 18 [0,0,0,0,2] [] rfl rfl fun K hK => ?_
 simp only [ltb,go_sem]
 refine hK _ _ rfl ?_
 simp only [mwb,reduceAdd]
 refine ex_region_w tt_ok 18 (0::0::0::0::2::(rp 13 1 [])) [(5, 10)] rfl rfl fun K hK => ?_
 refine runX_cut 6 fun K1 hK1 => ?_
 simp only [ltb]
 simp only [sl,go_sem,reduceLT,reduceEqDiff]
 refine hK1 _ ?_
 refine runX_case 10 (by rfl) fun b hb1_5 => ?_
 cases b
 ·simp only [ltb,go_sem,reduceLT,reduceEqDiff]
  refine hK _ _ rfl ?_
  simp only [mwb,reduceAdd,reduceEqDiff]
  refine ex_ret ?_
  first | exact ⟨.inl rfl, _, ⟨_, rfl, fun _ => hps⟩, rfl⟩ | exact ⟨.inl rfl, _, ⟨false, rfl, by intro h; cases h⟩, rfl⟩
 ·have hps : p.size ≤ s.size := by have := of_decide_eq_true hb1_5; omega
  have hct : lift2 Tryz.prog (fun a h => Instr.sliceAt 9 a none (some h) none) (.sc (.string s)) (.sc (.int .i64 ((p.size : Int)))) = some (.sc (.string (s.extract 0 ((p.size : Int) : Int).toNat))) := ev_cutto (P := Tryz.prog) (tt := tt) (mem := []) (T := 9) s hT9 .i64 ((p.size : Int)) (by omega) (by omega)
  try simp only [ltb]
  simp only [hct,sl,go_sem,reduceLT,reduceEqDiff,reduceCtorEq]
  refine hK _ _ rfl ?_
  simp only [mwb,reduceAdd,reduceEqDiff]
  refine ex_ret ?_
  first | exact ⟨.inl rfl, _, ⟨_, rfl, fun _ => hps⟩, rfl⟩ | exact ⟨.inl rfl, _, ⟨false, rfl, by intro h; cases h⟩, rfl⟩
theorem cutPrefix0_tot (s p : ByteArray) : ∃ r, (fun v => ∃ (q : ByteArray) (b : Bool), v = .tup [str q, bl b] ∧ q.size ≤ s.size) r ∧ FnOk Tryz.prog 209 [str s, str p] r := by
 refine fn_ex tt_ok (fn := Tryz.f209) Tryz.func209 rfl Tryz.call209 ?_
 simp only [ltb,startSt,Tryz.ntmps209,List.length_cons,List.length_nil,reduceAdd,reduceSub,List.replicate_succ,List.replicate_zero]
 have hT9 : Tryz.prog.underlying 9 = some .string := by kernel_rfl
 have sl : ∀ (a : ByteArray) (ty : TypeId), liftL Tryz.prog (Builtin.len_ #[9] ty) [.sc (.string a)] = some (num a.size) := fun a ty => ev_slen (P := Tryz.prog) (tt := tt) (T := 9) a hT9 ty
 refine ex_region_w tt_ok 15 [0,0,0,0,2,2] [] rfl rfl fun K hK => ?_
 simp only [ltb,go_sem]
 refine hK _ _ rfl ?_
 simp only [mwb,reduceAdd,reduceEqDiff]
 refine ex_seq ?_
 refine ex_region_w tt_ok 15 [0,0,0,0,0,0,1,1,1,2] [] rfl rfl fun K hK => ?_
 refine runX_cut 3 fun K1 hK1 => ?_
 simp only [ltb,go_sem,reduceLT,reduceEqDiff]
 refine callF_ex (hasPrefix_tot _ _) ?_
 rintro _ ⟨b, rfl, hb⟩
 try simp only [go_sem]
 refine hK1 _ ?_
 simp only [ltb,go_sem,reduceLT,reduceEqDiff]
 refine hK _ _ rfl ?_
 simp only [mwb,reduceAdd,reduceEqDiff]
 refine ex_if rfl (fun hc9 => ?_) (fun hc9 => ?_)
 ·refine ex_region_w tt_ok 15 [0,0,0,0,2,2,0,0,0,0,1] [] rfl rfl fun K hK => ?_
  simp only [ltb,go_sem,reduceLT]
  refine hK _ _ rfl ?_
  simp only [mwb,reduceAdd,reduceEqDiff]
  refine ex_ret ?_
  first | exact ⟨.inl rfl, _, ⟨s, false, rfl, Nat.le_refl _⟩, rfl⟩ | exact ⟨.inl rfl, _, ⟨_, _, rfl, by have := size_ext (s := s) (a := p.size) (b := s.size); omega⟩, rfl⟩
 ·have hps : p.size ≤ s.size := hb (by simpa using hc9)
  have hcf : lift2 Tryz.prog (fun a l => Instr.sliceAt 9 a (some l) none none) (.sc (.string s)) (.sc (.int .i64 ((p.size : Int)))) = some (.sc (.string (s.extract ((p.size : Int) : Int).toNat s.size))) := ev_cutfrom (P := Tryz.prog) (tt := tt) (mem := []) (T := 9) s hT9 .i64 ((p.size : Int)) (by omega) (by omega)
  refine ex_skip ?_
  show Go.Eng.Ex _ _ _ _ _ _
  refine ex_region_w tt_ok 15 [0,0,0,0,2,2,0,0,0,0,0,1,1,1,1] [] rfl rfl fun K hK => ?_
  try simp only [ltb]
  simp only [hcf,sl,go_sem,reduceLT,reduceEqDiff]
  refine hK _ _ rfl ?_
  simp only [mwb,reduceAdd,reduceEqDiff]
  refine ex_ret ?_
  first | exact ⟨.inl rfl, _, ⟨s, false, rfl, Nat.le_refl _⟩, rfl⟩ | exact ⟨.inl rfl, _, ⟨_, _, rfl, by have := size_ext (s := s) (a := p.size) (b := s.size); omega⟩, rfl⟩
theorem cutPrefix_tot (s p : ByteArray) : ∃ r, (fun v => ∃ (q : ByteArray) (b : Bool), v = .tup [str q, bl b] ∧ q.size ≤ s.size) r ∧ FnOk Tryz.prog 201 [str s, str p] r := by
 refine fn_ex tt_ok (fn := Tryz.f201) Tryz.func201 rfl Tryz.call201 ?_
 simp only [ltb,startSt,Tryz.ntmps201,List.length_cons,List.length_nil,reduceAdd,reduceSub,List.replicate_succ,List.replicate_zero]
 refine ex_region_w tt_ok 11 [0,0,0,0,2,2] [] rfl rfl fun K hK => ?_
 simp only [ltb,go_sem]
 refine hK _ _ rfl ?_
 simp only [mwb,reduceAdd,reduceEqDiff]
 refine ex_region_w tt_ok 11 [0,0,0,0,2,2,1,1,1,1,1] [] rfl rfl fun K hK => ?_
 refine runX_cut 3 fun K1 hK1 => ?_
 simp only [ltb,go_sem,reduceLT,reduceEqDiff]
 refine callF_ex (cutPrefix0_tot _ _) ?_
 rintro _ ⟨q, b, rfl, hq⟩
 try simp only [go_sem]
 refine hK1 _ ?_
 simp only [ltb,go_sem,reduceLT,reduceEqDiff]
 refine hK _ _ rfl ?_
 simp only [mwb,reduceAdd,reduceEqDiff]
 exact ex_ret ⟨.inl rfl, _, ⟨q, b, rfl, hq⟩, rfl⟩
theorem version_tot (s : ByteArray) (hs : s.size ≤ 1048576) : ∃ r, (fun v => ∃ (n : Int) (b : Bool), v = .tup [num n, bl b]) r ∧ FnOk Tryz.prog 188 [str s] r := by
 refine fn_ex tt_ok (fn := Tryz.f188) Tryz.func188 rfl Tryz.call188 ?_
 simp only [ltb,startSt,Tryz.ntmps188,List.length_cons,List.length_nil,reduceAdd,reduceSub,List.replicate_succ,List.replicate_zero]
 have hT9 : Tryz.prog.underlying 9 = some .string := by kernel_rfl
 have sl : ∀ (a : ByteArray) (ty : TypeId), liftL Tryz.prog (Builtin.len_ #[9] ty) [.sc (.string a)] = some (num a.size) := fun a ty => ev_slen (P := Tryz.prog) (tt := tt) (T := 9) a hT9 ty
 have hT5 : Tryz.prog.underlying 5 = some (.int .u8) := by kernel_rfl
 have hT3 : Tryz.prog.underlying 3 = some (.int .i64) := by kernel_rfl
 have cv := fun (k : IntKind) (n : Int) => ev_conv (P := Tryz.prog) (src := 5) (dst := 3) hT5 hT3 k n
 refine ex_region_w tt_ok 53 [0,0,2,2] [] rfl rfl fun K hK => ?_
 simp only [ltb,go_sem]
 refine hK _ _ rfl ?_
 simp only [mwb,reduceAdd,reduceEqDiff]
 refine ex_region_w tt_ok 53 [2,0,0,0,2,0,0,1,1,1,1,1] [] rfl rfl fun K hK => ?_
 refine runX_cut 2 fun K1 hK1 => ?_
 simp only [ltb,go_sem,reduceLT]
 refine callF_ex (cutPrefix_tot _ _) ?_
 rintro _ ⟨q, b0, rfl, hq⟩
 try simp only [go_sem]
 refine hK1 _ ?_
 simp only [ltb,go_sem,reduceLT,reduceEqDiff,reduceCtorEq]
 refine hK _ _ rfl ?_
 simp only [mwb,reduceAdd,reduceEqDiff]
 refine ex_seq ?_
 refine ex_region_w tt_ok 53 (rp 12 0 (rp 25 1 [2])) [(2, 14), (6, 18), (11, 23), (15, 27), (21, 33)] rfl rfl fun K hK => ?_
 refine runX_cut 3 fun K1 hK1 => ?_
 simp only [ltb,go_sem,reduceLT,reduceEqDiff]
 refine hK1 _ ?_
 refine runX_case 14 (by rfl) fun b hb2_2 => ?_
 cases b
 ·refine runX_cut 4 fun K1 hK1 => ?_
  simp only [ltb,go_sem,reduceLT,reduceEqDiff,reduceCtorEq]
  refine hK1 _ ?_
  refine runX_case 18 (by rfl) fun b hb2_6 => ?_
  cases b
  ·refine runX_cut 5 fun K1 hK1 => ?_
   simp only [ltb]
   simp only [sl,go_sem,reduceLT,reduceEqDiff,reduceCtorEq]
   refine hK1 _ ?_
   refine runX_case 23 (by rfl) fun b hb2_11 => ?_
   cases b
   ·refine runX_cut 4 fun K1 hK1 => ?_
    simp only [ltb]
    simp only [sl,go_sem,reduceLT,reduceEqDiff,reduceCtorEq]
    refine hK1 _ ?_
    refine runX_case 27 (by rfl) fun b hb2_15 => ?_
    cases b
    ·refine runX_cut 8 fun K1 hK1 => ?_
     simp only [ltb,go_sem,reduceLT,reduceEqDiff,reduceCtorEq]
     refine callF_ex (all_tot 169 digit_tot _ (by omega)) ?_
     rintro _ ⟨r2, rfl⟩
     try simp only [go_sem]
     refine hK1 _ ?_
     simp only [ltb,go_sem,reduceLT,reduceEqDiff]
     refine hK _ _ rfl ?_
     simp only [mwb,reduceAdd,reduceEqDiff]
     refine ex_if rfl (fun hc37 => ?_) (fun hc37 => ?_)
     ·refine ex_region_w tt_ok 53 [0,0,2,2] [] rfl rfl fun K hK => ?_
      simp only [ltb,go_sem]
      refine hK _ _ rfl ?_
      simp only [mwb,reduceAdd,reduceEqDiff]
      exact ex_ret ⟨.inl rfl, _, ⟨_, _, rfl⟩, rfl⟩
     ·refine ex_skip ?_
      show Go.Eng.Ex _ _ _ _ _ _
      refine ex_region_w tt_ok 53 [0,0,0,0,0,2] [] rfl rfl fun K hK => ?_
      simp only [ltb,go_sem]
      refine hK _ _ rfl ?_
      simp only [mwb,reduceAdd]
      refine ex_seq ?_
      refine ex_region_w tt_ok 53 (rp 38 0 [1,2,2]) [] rfl rfl fun K hK => ?_
      try simp only [ltb]
      simp only [sl,go_sem,reduceLT]
      refine hK _ _ rfl ?_
      simp only [mwb,reduceAdd,reduceEqDiff]
      refine ex_block ?_
      refine ex_loopK [40,5] [num 0, num 0] 0 (true::false::true::true::false::true::(rp 31 false [true,false,true,true])) (fun vs => ((q.size : Int) - intOf (vs.headD .undef)).toNat) (fun vs => ∃ (i : Nat) (h : Int), vs = [num i, num h]) (by omega) (by simp only [maskFr,belowV,mkb]) (by simp only [List.all_nil,List.take_nil]) (by rfl) (⟨0, 0, rfl⟩) fun vs hI => ?_
      obtain ⟨i, h, rfl⟩ := hI
      simp only [maskFr,putAll,List.set_cons_zero,List.set_cons_succ,mkb]
      refine ex_region_w tt_ok 53 (rp 41 0 [2]) [] rfl rfl fun K hK => ?_
      simp only [ltb,go_sem,reduceLT]
      refine hK _ _ rfl ?_
      simp only [mwb,reduceAdd]
      refine ex_seq ?_
      refine ex_if rfl (fun hc41 => ?_) (fun hc41 => ?_)
      ·have hlt : i < q.size := by simpa using hc41
       have hw := i64_succ i (by omega)
       obtain ⟨c, hcb⟩ := get_byte (s := q) (i := i) hlt
       have hix := ev_index (P := Tryz.prog) q hT9 .i64 (i : Int) (by omega) (c := c) (show q[((i : Nat) : Int).toNat]? = some c from hcb)
       refine ex_skip ?_
       show Go.Eng.Ex _ _ _ _ _ _
       refine ex_seq ?_
       refine ex_block ?_
       refine ex_region_w tt_ok 53 (0::0::0::0::0::0::2::(rp 35 0 [1])) [] rfl rfl fun K hK => ?_
       simp only [ltb,go_sem,reduceLT]
       refine hK _ _ rfl ?_
       simp only [mwb,reduceAdd,reduceEqDiff]
       refine ex_last_region_w tt_ok 53 (0::0::0::0::0::2::(rp 37 0 (rp 8 2 []))) [] (by kernel_rfl) rfl rfl fun K hK => ?_
       refine runX_cut 8 fun K1 hK1 => ?_
       simp only [ltb]
       simp only [hix,cv,go_sem,reduceLT,reduceEqDiff,reduceCtorEq]
       refine hK1 _ ?_
       simp only [ltb,go_sem,reduceLT,reduceEqDiff]
       refine hK _ _ rfl ?_
       simp only [mwb,reduceAdd,reduceEqDiff]
       show Go.Eng.Ex _ _ _ _ _ _
       refine ex_last_region_w tt_ok 53 (rp 40 0 (2::(rp 10 0 [2]))) [] (by kernel_rfl) rfl rfl fun K hK => ?_
       try simp only [ltb]
       simp only [hw,go_sem,reduceLT]
       refine hK _ _ rfl ?_
       simp only [mwb,reduceAdd,reduceEqDiff]
       refine ⟨[_, _], ?_, ?_, 0, (true::false::true::true::false::true::(rp 31 false [true,false,true,true])), by omega, by simp only [maskFr,belowV,mkb], by simp only [List.all_nil,List.take_nil], by simp only [maskFr,putAll,List.set_cons_zero,List.set_cons_succ,mkb]; rfl⟩
       ·exact ⟨i + 1, _, rfl⟩
       ·simp only [intOf,List.headD_cons]; omega
      ·refine ex_exit ?_
       show Go.Eng.Ex _ _ _ _ _ _
       refine ex_region_w tt_ok 53 (0::0::2::2::(rp 48 0 [1])) [] rfl rfl fun K hK => ?_
       simp only [ltb,go_sem,reduceLT]
       refine hK _ _ rfl ?_
       simp only [mwb,reduceAdd,reduceEqDiff]
       exact ex_ret ⟨.inl rfl, _, ⟨_, _, rfl⟩, rfl⟩
    ·refine runX_cut 1 fun K1 hK1 => ?_
     simp only [ltb,go_sem,reduceLT,reduceEqDiff,reduceCtorEq]
     refine hK1 _ ?_
     obtain ⟨cq, hcq⟩ := ne_get (s := q) (e := ⟨#[]⟩) rfl (by rw [hb2_6]; rfl)
     have hixq := ev_index (P := Tryz.prog) q hT9 .i64 0 (by omega) (c := cq) hcq
     refine runX_cut 5 fun K1 hK1 => ?_
     simp only [ltb]
     simp only [hixq,go_sem,reduceLT,reduceEqDiff]
     refine hK1 _ ?_
     refine runX_case 33 (by rfl) fun b hb2_21 => ?_
     cases b
     ·refine runX_cut 2 fun K1 hK1 => ?_
      simp only [ltb,go_sem,reduceLT,reduceEqDiff,reduceCtorEq]
      refine callF_ex (all_tot 169 digit_tot _ (by omega)) ?_
      rintro _ ⟨r3, rfl⟩
      try simp only [go_sem]
      refine hK1 _ ?_
      simp only [ltb,go_sem,reduceLT,reduceEqDiff]
      refine hK _ _ rfl ?_
      simp only [mwb,reduceAdd,reduceEqDiff]
      refine ex_if rfl (fun hc37 => ?_) (fun hc37 => ?_)
      ·refine ex_region_w tt_ok 53 [0,0,2,2] [] rfl rfl fun K hK => ?_
       simp only [ltb,go_sem]
       refine hK _ _ rfl ?_
       simp only [mwb,reduceAdd,reduceEqDiff]
       exact ex_ret ⟨.inl rfl, _, ⟨_, _, rfl⟩, rfl⟩
      ·refine ex_skip ?_
       show Go.Eng.Ex _ _ _ _ _ _
       refine ex_region_w tt_ok 53 [0,0,0,0,0,2] [] rfl rfl fun K hK => ?_
       simp only [ltb,go_sem]
       refine hK _ _ rfl ?_
       simp only [mwb,reduceAdd]
       refine ex_seq ?_
       refine ex_region_w tt_ok 53 (rp 38 0 [1,2,2]) [] rfl rfl fun K hK => ?_
       try simp only [ltb]
       simp only [sl,go_sem,reduceLT]
       refine hK _ _ rfl ?_
       simp only [mwb,reduceAdd,reduceEqDiff]
       refine ex_block ?_
       refine ex_loopK [40,5] [num 0, num 0] 0 (true::false::true::true::false::true::(rp 31 false [true,false,true,true])) (fun vs => ((q.size : Int) - intOf (vs.headD .undef)).toNat) (fun vs => ∃ (i : Nat) (h : Int), vs = [num i, num h]) (by omega) (by simp only [maskFr,belowV,mkb]) (by simp only [List.all_nil,List.take_nil]) (by rfl) (⟨0, 0, rfl⟩) fun vs hI => ?_
       obtain ⟨i, h, rfl⟩ := hI
       simp only [maskFr,putAll,List.set_cons_zero,List.set_cons_succ,mkb]
       refine ex_region_w tt_ok 53 (rp 41 0 [2]) [] rfl rfl fun K hK => ?_
       simp only [ltb,go_sem,reduceLT]
       refine hK _ _ rfl ?_
       simp only [mwb,reduceAdd]
       refine ex_seq ?_
       refine ex_if rfl (fun hc41 => ?_) (fun hc41 => ?_)
       ·have hlt : i < q.size := by simpa using hc41
        have hw := i64_succ i (by omega)
        obtain ⟨c, hcb⟩ := get_byte (s := q) (i := i) hlt
        have hix := ev_index (P := Tryz.prog) q hT9 .i64 (i : Int) (by omega) (c := c) (show q[((i : Nat) : Int).toNat]? = some c from hcb)
        refine ex_skip ?_
        show Go.Eng.Ex _ _ _ _ _ _
        refine ex_seq ?_
        refine ex_block ?_
        refine ex_region_w tt_ok 53 (0::0::0::0::0::0::2::(rp 35 0 [1])) [] rfl rfl fun K hK => ?_
        simp only [ltb,go_sem,reduceLT]
        refine hK _ _ rfl ?_
        simp only [mwb,reduceAdd,reduceEqDiff]
        refine ex_last_region_w tt_ok 53 (0::0::0::0::0::2::(rp 37 0 (rp 8 2 []))) [] (by kernel_rfl) rfl rfl fun K hK => ?_
        refine runX_cut 8 fun K1 hK1 => ?_
        simp only [ltb]
        simp only [hix,cv,go_sem,reduceLT,reduceEqDiff,reduceCtorEq]
        refine hK1 _ ?_
        simp only [ltb,go_sem,reduceLT,reduceEqDiff]
        refine hK _ _ rfl ?_
        simp only [mwb,reduceAdd,reduceEqDiff]
        show Go.Eng.Ex _ _ _ _ _ _
        refine ex_last_region_w tt_ok 53 (rp 40 0 (2::(rp 10 0 [2]))) [] (by kernel_rfl) rfl rfl fun K hK => ?_
        try simp only [ltb]
        simp only [hw,go_sem,reduceLT]
        refine hK _ _ rfl ?_
        simp only [mwb,reduceAdd,reduceEqDiff]
        refine ⟨[_, _], ?_, ?_, 0, (true::false::true::true::false::true::(rp 31 false [true,false,true,true])), by omega, by simp only [maskFr,belowV,mkb], by simp only [List.all_nil,List.take_nil], by simp only [maskFr,putAll,List.set_cons_zero,List.set_cons_succ,mkb]; rfl⟩
        ·exact ⟨i + 1, _, rfl⟩
        ·simp only [intOf,List.headD_cons]; omega
       ·refine ex_exit ?_
        show Go.Eng.Ex _ _ _ _ _ _
        refine ex_region_w tt_ok 53 (0::0::2::2::(rp 48 0 [1])) [] rfl rfl fun K hK => ?_
        simp only [ltb,go_sem,reduceLT]
        refine hK _ _ rfl ?_
        simp only [mwb,reduceAdd,reduceEqDiff]
        exact ex_ret ⟨.inl rfl, _, ⟨_, _, rfl⟩, rfl⟩
     ·simp only [ltb,go_sem,reduceLT,reduceEqDiff]
      refine hK _ _ rfl ?_
      simp only [mwb,reduceAdd,reduceEqDiff]
      refine ex_cond rfl ?_
      refine ex_region_w tt_ok 53 [0,0,2,2] [] rfl rfl fun K hK => ?_
      simp only [ltb,go_sem]
      refine hK _ _ rfl ?_
      simp only [mwb,reduceAdd,reduceEqDiff]
      exact ex_ret ⟨.inl rfl, _, ⟨_, _, rfl⟩, rfl⟩
   ·refine runX_cut 8 fun K1 hK1 => ?_
    simp only [ltb,go_sem,reduceLT,reduceEqDiff,reduceCtorEq]
    refine hK1 _ ?_
    simp only [ltb,go_sem,reduceLT,reduceEqDiff]
    refine hK _ _ rfl ?_
    simp only [mwb,reduceAdd,reduceEqDiff]
    refine ex_cond rfl ?_
    refine ex_region_w tt_ok 53 [0,0,2,2] [] rfl rfl fun K hK => ?_
    simp only [ltb,go_sem]
    refine hK _ _ rfl ?_
    simp only [mwb,reduceAdd,reduceEqDiff]
    exact ex_ret ⟨.inl rfl, _, ⟨_, _, rfl⟩, rfl⟩
  ·refine runX_cut 8 fun K1 hK1 => ?_
   simp only [ltb,go_sem,reduceLT,reduceEqDiff]
   refine hK1 _ ?_
   refine runX_cut 8 fun K1 hK1 => ?_
   simp only [ltb,go_sem,reduceLT,reduceEqDiff,reduceCtorEq]
   refine hK1 _ ?_
   simp only [ltb,go_sem,reduceLT,reduceEqDiff]
   refine hK _ _ rfl ?_
   simp only [mwb,reduceAdd,reduceEqDiff]
   refine ex_cond rfl ?_
   refine ex_region_w tt_ok 53 [0,0,2,2] [] rfl rfl fun K hK => ?_
   simp only [ltb,go_sem]
   refine hK _ _ rfl ?_
   simp only [mwb,reduceAdd,reduceEqDiff]
   exact ex_ret ⟨.inl rfl, _, ⟨_, _, rfl⟩, rfl⟩
 ·refine runX_cut 8 fun K1 hK1 => ?_
  simp only [ltb,go_sem,reduceLT,reduceEqDiff]
  refine hK1 _ ?_
  refine runX_cut 8 fun K1 hK1 => ?_
  simp only [ltb,go_sem,reduceLT,reduceEqDiff,reduceCtorEq]
  refine hK1 _ ?_
  simp only [ltb,go_sem,reduceLT,reduceEqDiff]
  refine hK _ _ rfl ?_
  simp only [mwb,reduceAdd,reduceEqDiff]
  refine ex_cond rfl ?_
  refine ex_region_w tt_ok 53 [0,0,2,2] [] rfl rfl fun K hK => ?_
  simp only [ltb,go_sem]
  refine hK _ _ rfl ?_
  simp only [mwb,reduceAdd,reduceEqDiff]
  exact ex_ret ⟨.inl rfl, _, ⟨_, _, rfl⟩, rfl⟩
end Go.Proofs.YtpjdfcigadnhcaaGreatDoor
end
