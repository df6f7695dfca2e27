/-
  AWAKE: the example of the chapter.
  THE LAW AdvisoryUses itself.
  THE LAW AdvisoryUses, A: what it does at every argument of the bound, in every world of the shape.
  CLOSING, B: a world for the witness.
-/
import Derived.Test.YtefbaladomfccaaGreatDoorG8
import Derived.Test.YtefbaladomfccaaGreatDoorCards
import Derived.Test.YtefbaladomfccaaGreatDoorTie
import Derived.Lib.LaidTab
set_option linter.all false
section
namespace Go.Proofs.YtefbaladomfccaaGreatDoor
open Go.Eng
variable [Glob]
set_option maxHeartbeats 4000000
set_option maxRecDepth 100000
theorem line_a (hG : Glob.g = some 0) : FnOk Tryz.prog 71 [str ⟨#[97,47,118,49]⟩] (.tup [str ⟨#[97]⟩, num 1, num 0]) := by
 obtain ⟨_, rfl, h⟩ := lineN_ok hG ⟨#[97,47,118,49]⟩ (by decide)
 have e1 : majN ⟨#[97,47,118,49]⟩ = 1 := by kernel_rfl
 have e2 : majE ⟨#[97,47,118,49]⟩ = 0 := by kernel_rfl
 have e3 : linN ⟨#[97,47,118,49]⟩ = ⟨#[97]⟩ := by kernel_rfl
 rw [e1, e2, e3] at h
 exact h
theorem noNat_okA : NatFOk Tryz.prog (fun _ _ => none) := fun f vs r h => by cases h
abbrev pA : V := str ⟨#[97,47,118,49]⟩
abbrev p0 : V := str ⟨#[]⟩
abbrev sF : V := str ⟨#[102]⟩
abbrev sG : V := str ⟨#[103]⟩
abbrev sH : V := str ⟨#[104]⟩
abbrev aA : V := .agg [str ⟨#[65,49]⟩, pA, .slice [.agg [num 0, num 2000]], .slice [sF], p0]
abbrev one : V := .slice [.agg [pA, num 1, num 1, num 0]]
abbrev two : V := .slice [.agg [pA, num 1, num 2, num 0]]
abbrev rl (k : Int) (b : Bool) : V := .agg [pA, num 1, num k, num 0, .slice [], p0, p0, p0, bl b]
abbrev ix : V := .agg [.slice [rl 1 false, rl 2 false], .slice []]
abbrev iy : V := .agg [.slice [rl 1 true, rl 2 false], .slice []]
abbrev rq : V := .slice [.agg [pA, .slice [.agg [num 0, num 1000000]]]]
abbrev dcl (nm : V) (ex : List V) : V := .agg ([num 1, nm, bl true, bl false, p0, .slice [], num 0, p0, p0, .slice [], .slice [], num 0, p0, p0, .slice [], .slice [], num 2, p0, p0, .slice [], .slice []] ++ ex ++ [p0, p0])
abbrev vN (n : Int) : List V := [num 0, p0, p0, p0, num n, .slice [], .slice [], .slice []]
abbrev vU (nm : V) : List V := [num 4, pA, nm, p0, num 0, .slice [], .slice [], .slice []]
abbrev exP : V := .slice [.agg [pA, .slice [], .slice [dcl sF (vN 1), dcl sG [num 16, p0, str ⟨#[43]⟩, p0, num 0, .slice [], .slice [], .slice [.agg (vU sF), .agg (vN 1)]], dcl sH [num 12, p0, p0, p0, num 0, .slice [.agg [num 2, p0, p0, .slice [], .slice []]], .slice [], .slice [.agg [num 2, p0, p0, p0, num 0, .slice [], .slice [], .slice []], .agg (vU sG), .agg (vN 2)]]]]]
abbrev us (nm : V) : V := .agg [pA, nm]
theorem h36 : FnOk Tryz.prog 36 [] exP := ev_call orcOf_nil noNat_okA 2000 (by kernel_rfl)
theorem h30 (hG : Glob.g = some 0) : FnOk Tryz.prog 30 [aA] (num 0) := ev_call (orcOf_cons (line_a hG) orcOf_nil) (natS_ok hG) 2000 (by kernel_rfl)
theorem h27a : FnOk Tryz.prog 27 [aA, one] (bl true) := ev_call orcOf_nil noNat_okA 2000 (by kernel_rfl)
theorem h27b : FnOk Tryz.prog 27 [aA, two] (bl false) := ev_call orcOf_nil noNat_okA 2000 (by kernel_rfl)
theorem h11a (hG : Glob.g = some 0) : FnOk Tryz.prog 11 [exP, one, .slice [aA], pA, sH] (.tup [.slice [.agg [str ⟨#[65,49]⟩, .slice [us sH, us sG, us sF]]], num 0]) := ev_call (orcOf_cons (h30 hG) (orcOf_cons h27a orcOf_nil)) (natS_ok hG) 2000 (by kernel_rfl)
theorem h11b (hG : Glob.g = some 0) : FnOk Tryz.prog 11 [exP, two, .slice [aA], pA, sH] (.tup [.slice [], num 0]) := ev_call (orcOf_cons (h30 hG) (orcOf_cons h27b orcOf_nil)) (natS_ok hG) 2000 (by kernel_rfl)
theorem h95 (hG : Glob.g = some 0) : FnOk Tryz.prog 95 [ix] (num 0) := ev_call (orcOf_cons (line_a hG) orcOf_nil) (natS_ok hG) 2000 (by kernel_rfl)
theorem h95y (hG : Glob.g = some 0) : FnOk Tryz.prog 95 [iy] (num 0) := ev_call (orcOf_cons (line_a hG) orcOf_nil) (natS_ok hG) 2000 (by kernel_rfl)
theorem h19 (hG : Glob.g = some 0) : FnOk Tryz.prog 19 [ix, aA] (.tup [.slice [.agg [pA, num 1000, num 2000]], num 0]) := ev_call (orcOf_cons (h95 hG) (orcOf_cons (h30 hG) orcOf_nil)) (natS_ok hG) 2000 (by kernel_rfl)
theorem h15 (hG : Glob.g = some 0) : FnOk Tryz.prog 15 [ix, .slice [aA]] (.tup [iy, num 0]) := ev_call (orcOf_cons (h95 hG) (orcOf_cons (h30 hG) orcOf_nil)) (natS_ok hG) 2000 (by kernel_rfl)
theorem h28 (hG : Glob.g = some 0) : FnOk Tryz.prog 28 [iy, rq] (.tup [two, num 0]) := ev_call (orcOf_cons (h95y hG) (orcOf_cons (line_a hG) orcOf_nil)) (natS_ok hG) 2000 (by kernel_rfl)
theorem h17 (hG : Glob.g = some 0) : FnOk Tryz.prog 17 [ix, rq, .slice [aA]] (.tup [two, num 0]) := ev_call (orcOf_cons (h15 hG) (orcOf_cons (h28 hG) orcOf_nil)) (natS_ok hG) 2000 (by kernel_rfl)
theorem awake_ok (hG : Glob.g = some 0) : FnOk Tryz.prog 8 [] (bl true) := ev_call (orcOf_cons h36 (orcOf_cons (h30 hG) (orcOf_cons h27a (orcOf_cons (h11a hG) (orcOf_cons (h11b hG) (orcOf_cons (h19 hG) (orcOf_cons (h17 hG) orcOf_nil))))))) (natS_ok hG) 2000 (by kernel_rfl)
end Go.Proofs.YtefbaladomfccaaGreatDoor
end

section
namespace Go.Proofs.YtefbaladomfccaaGreatDoor
open Go.Eng
open Nat renaming reduceAdd → zA, reduceLT → zB, reduceLeDiff → zC, reduceMul → zD, reduceEqDiff → zE, reduceSub → zF
variable [Glob]
set_option maxHeartbeats 4000000
set_option maxRecDepth 100000
theorem lawUses_ok (haw : FnOk Tryz.prog 8 [] (bl true)) (p : List Md) (a b : ByteArray) (hl : p.length ≤ 1048576) (hw : ∀ m ∈ p, m.wt ≤ 1048576) : ∃ r_, (fun w => w = bl (true)) r_ ∧ FnOk Tryz.prog 6 [.slice (p.map encMd), str a, str b] r_ := by
 refine vfn tt_ok [] 31 [.tmp 6] (fn := Tryz.f6) Tryz.func6 rfl Tryz.call6 ⟨rfl, rfl, by simp⟩ fun K hK => ?_
 simp only [List.length_map,go_sem,reduceIte,zA,zB,zC,zD,zE,zF,reduceCtorEq]
 refine cF (⟨_, rfl, haw⟩) ?_
 rintro _ rfl
 simp only [List.length_map,go_sem,reduceIte,zA,zB,zC,zD,zE,zF,reduceCtorEq]
 refine cF (small_ok p hl hw) ?_
 rintro _ ⟨b0, rfl⟩
 simp only [List.length_map,go_sem,reduceIte,zA,zB,zC,zD,zE,zF,reduceCtorEq]
 refine gif (fun hb3_3 => ?_) (fun hb3_3 => ?_)
 ·simp only [List.length_map,go_sem,reduceIte,zA,zB,zC,zD,zE,zF,reduceCtorEq]
  exact hK _ rfl
 ·simp only [List.length_map,go_sem,reduceIte,zA,zB,zC,zD,zE,zF,reduceCtorEq]
  refine gif (fun hb3_8 => ?_) (fun hb3_8 => ?_)
  ·simp only [List.length_map,go_sem,reduceIte,zA,zB,zC,zD,zE,zF,reduceCtorEq]
   exact hK _ rfl
  ·simp only [List.length_map,go_sem,reduceIte,zA,zB,zC,zD,zE,zF,reduceCtorEq]
   refine gif (fun hc21 => ?_) (fun hc21 => ?_)
   ·simp only [List.length_map,go_sem,reduceIte,zA,zB,zC,zD,zE,zF,reduceCtorEq]
    exact hK _ rfl
   ·simp only [List.length_map,go_sem,reduceIte,zA,zB,zC,zD,zE,zF,reduceCtorEq]
    refine cF (by have h := uses_ok p (a, b) hl hw; unfold usesV at h; exact h) ?_
    rintro _ rfl
    simp only [List.length_map,go_sem,reduceIte,zA,zB,zC,zD,zE,zF,reduceCtorEq]
    refine cF (by have h := ruses_ok p (a, b) hl hw; unfold usesV at h; exact h) ?_
    rintro _ rfl
    simp only [List.length_map,go_sem,reduceIte,zA,zB,zC,zD,zE,zF,reduceCtorEq]
    refine cF (by have h := sameUs_ok (usesL (declP p) (a, b)) (usesL (declP p) (a, b)) (usesL_len hw _); rw [decide_eq_true rfl] at h; exact h) ?_
    rintro _ rfl
    simp only [List.length_map,go_sem,reduceIte,zA,zB,zC,zD,zE,zF,reduceCtorEq]
    exact hK _ rfl
end Go.Proofs.YtefbaladomfccaaGreatDoor
end

section
namespace Go.Proofs.YtefbaladomfccaaGreatDoor.lawAdvisoryUses
open Go.Eng
set_option maxRecDepth 100000
open Go.ChangeShapes Go.WideShapes Go.ChangeAt Go.RowKit
theorem contract (H : Type) (enc : TypeId × Value → H) (W : World) (args : Array Value) (ds gs : List (DataW H)) (before : List MemPlace) (base : Nat)
  (hok : ∀ (j : Nat) t v, Tryz.f6.params[j]? = some t → args[j]? = some v → Value.okWide Tryz.prog W .any base t v)
  (hW : DataW.Whole enc Tryz.prog Tryz.f6.params.toList Rows.advisoryUsesSpec.vars false W args.toList ds gs before) (hb : Rows.uptoBulkAll (ds ++ gs) ≤ 1048576) (hS : W.ShapedOpen Tryz.prog) :
  Calls Tryz.prog 6 args W fun e W' => ∃ v, e = .returned v ∧ Rows.advisoryUsesSpec.post enc Tryz.prog Tryz.f6 false true false false W args v W' := by
 have hW' := hW
 have hlt := hW.lt
 obtain ⟨p, q, hA0, hV, rfl, hfz, hnd⟩ := hW
 have hA : DataW.TrodAll enc Tryz.prog W 0 (fun _ => true) true Tryz.f6.params.toList args.toList ds p := hA0
 rw [Tryz.params6] at hA
 obtain ⟨v0, vs0, d0, ds0, p0, q0, hargs, rfl, rfl, h0, r0⟩ := trodAll_cons hA
 obtain ⟨v1, vs1, d1, ds1, p1, q1, rfl, rfl, rfl, h1, r1⟩ := trodAll_cons r0
 obtain ⟨v2, vs2, d2, ds2, p2, q2, rfl, rfl, rfl, h2, r2⟩ := trodAll_cons r1
 obtain ⟨rfl, rfl, rfl⟩ := trodAll_nil r2
 obtain rfl : args = #[v0, v1, v2] := by cases args; simp_all
 obtain ⟨rfl, rfl⟩ := trodVars_none hV
 rw [Tryz.params6] at hok
 obtain ⟨a0, l0, c0, rfl⟩ := okWide_slice Tryz.underlying23 (hok 0 23 v0 rfl rfl)
 obtain ⟨s1, rfl⟩ := okWide_string Tryz.underlying9 (hok 1 9 v1 rfl rfl)
 obtain ⟨s2, rfl⟩ := okWide_string Tryz.underlying9 (hok 2 9 v2 rfl rfl)
 clear hok
 clear hA0 hA r0 r1 r2 hargs hV
 simp only [List.append_nil] at hW' hlt
 simp only [ltb,List.append_nil,Rows.uptoBulkAll] at hb
 have h0' := h0
 have h1' := h1
 have h2' := h2
 obtain ⟨f0, h0⟩ := h0
 have main : Calls Tryz.prog 6 #[.slice a0 l0 c0, .string s1, .string s2] W fun e W' => e = .returned (.bool true) ∧ Below W.heap.size W W' := by
  obtain ⟨n, hn⟩ := maxLen_at hS
  have go : ∀ (G : Glob) (hG : G.g = some 0) (hg : @Gl G W.cell?), Calls Tryz.prog 6 #[.slice a0 l0 c0, .string s1, .string s2] W fun e W' => e = .returned (.bool true) ∧ Below W.heap.size W W' := fun G hG hg => by
   have haw : FnOk Tryz.prog 8 [] (bl true) := awake_ok hG
   obtain ⟨x0, hx0, b0⟩ := rd_mds (F := W.cell?) (hg := hg) rfl h0
   obtain ⟨x1, ht1, b1⟩ := rd_str (F := W.cell?) (hg := hg) (Exists.choose_spec h1)
   have e1 : x1 = s1 := by have h := rep_sc (ht1.1.2 0 _ _ rfl rfl); exact (Value.string.inj h).symm
   subst e1
   obtain ⟨x2, ht2, b2⟩ := rd_str (F := W.cell?) (hg := hg) (Exists.choose_spec h2)
   have e2 : x2 = s2 := by have h := rep_sc (ht2.1.2 0 _ _ rfl rfl); exact (Value.string.inj h).symm
   subst e2
   obtain ⟨rr, hrr, hc⟩ : ∃ r_, r_ = bl true ∧ FnOk Tryz.prog 6 [.slice (x0.map encMd), str x1, str x2] r_ := by
    obtain ⟨r_, h1, h2⟩ := lawUses_ok haw x0 x1 x2 (mds_B (l := x0) (by omega)).1 (mds_B (l := x0) (by omega)).2
    exact ⟨r_, h1, h2⟩
   subst hrr
   refine (hc.2 W.cell? hg W #[.slice a0 l0 c0, .string x1, .string x2] (fun _ _ h => h) ?_).mono fun o W' h => ?_
   ·exact .cons (rep_sl hx0) (.cons (.sc _ _) (.cons (.sc _ _) (.nil _)))
   ·obtain ⟨F', x, rfl, -, -, -, ⟨hg', hx⟩, hbel⟩ := h
    obtain rfl := rep_sc hx
    exact ⟨rfl, hbel⟩
  exact go (gOf n) rfl (@Gl.mk (gOf n) _ (fun g hg => by cases hg; exact hn) (fun g cs j x h => by cases h))
 refine main.mono fun e W' ⟨he, hbel⟩ => ?_
 subst he
 have hlaid : laidOutB Tryz.prog = true := by kernel_rfl
 refine ⟨_, rfl, post_kept (pa := p0 ++ (p1 ++ (p2 ++ []))) (pv := []) hW' (fun _ _ _ => trodAll_cons_mk (shut_bool Tryz.underlying4 _) trodAll_mk0) (fun sp hsp => ?_) (fun _ _ => rfl) (by simp)
  hbel (ok_one (by kernel_rfl) rfl (okWide_bool_mk Tryz.underlying4 _))⟩
 ·refine trodAll_cons_mk (WideElems.Trod_stays hlaid (by kernel_rfl) (of_decide_eq_true (by kernel_rfl)) h0' (fun x hx => hbel.same (hlt x (by simp [hx]))) (fun x hx => hsp x (by simp [hx])))
   (trodAll_cons_mk (WideElems.Trod_stays hlaid (by kernel_rfl) (of_decide_eq_true (by kernel_rfl)) h1' (fun x hx => hbel.same (hlt x (by simp [hx]))) (fun x hx => hsp x (by simp [hx])))
   (trodAll_cons_mk (WideElems.Trod_stays hlaid (by kernel_rfl) (of_decide_eq_true (by kernel_rfl)) h2' (fun x hx => hbel.same (hlt x (by simp [hx]))) (fun x hx => hsp x (by simp [hx])))
   trodAll_mk0))
end Go.Proofs.YtefbaladomfccaaGreatDoor.lawAdvisoryUses
end

section
namespace Go.Proofs.YtefbaladomfccaaGreatDoor
open Go.ChangeShapes Go.WideShapes Go.ChangeAt Go.RowKit
theorem own : ownKnob Tryz.prog.godebug = none := by kernel_rfl
def layAs (cs : Array Value) : Obj → Obj
 | .cells _ t frozen => .cells cs t frozen
 | o => o
def accZ : List Nat := [128,191,160,191,128,159,144,191,128,143,0,0,0,0,0,0,0,0,0,0,0,0,0,0,0,0,0,0,0,0,0,0]
noncomputable def laidWorld (os : Os) : World :=
 { World.holding Tryz.prog os ⟨#[], #[], []⟩ with heap := ((World.holding Tryz.prog os ⟨#[], #[], []⟩).heap.modify 1 (layAs ⟨Pinned.utf8FirstZ.map fun n => Value.int .u8 (Int.ofNat n)⟩)).modify 2 (layAs ⟨accZ.map fun n => Value.int .u8 (Int.ofNat n)⟩) }
end Go.Proofs.YtefbaladomfccaaGreatDoor
end
