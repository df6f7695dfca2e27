/-
  AWAKE: the example of the chapter.
  THE LAW AdvisoryFinds itself.
  THE LAW AdvisoryFinds, A: what it does at every argument of the bound, in every world of the shape.
  CLOSING, B: a world for the witness.
-/
import Derived.Test.YtefbaladomfccaaGreatDoorJ13
import Derived.Test.YtefbaladomfccaaGreatDoorCards
import Derived.Test.YtefbaladomfccaaGreatDoorTie
import Derived.Lib.LaidTab
set_option linter.all false
section
namespace Go.Proofs.YtefbaladomfccaaGreatDoor
open Go.Eng
variable [aK]
set_option maxHeartbeats 4000000
set_option maxRecDepth 100000
theorem xy (hG : aK.g = some 0) : aR Tryz.prog 71 [str ⟨#[97,47,118,49]⟩] (.ch [str ⟨#[97]⟩, num 1, num 0]) := by
 obtain ⟨_, rfl, h⟩ := Jp hG ⟨#[97,47,118,49]⟩ (by decide)
 have e1 : cC ⟨#[97,47,118,49]⟩ = 1 := by kernel_rfl
 have e2 : bM ⟨#[97,47,118,49]⟩ = 0 := by kernel_rfl
 have e3 : Al ⟨#[97,47,118,49]⟩ = ⟨#[97]⟩ := by kernel_rfl
 rw [e1, e2, e3] at h
 exact h
theorem qm : iG Tryz.prog (fun _ _ => none) := fun f vs r h => by cases h
abbrev pA : V := str ⟨#[97,47,118,49]⟩
abbrev p0 : V := str ⟨#[]⟩
abbrev sF : V := str ⟨#[102]⟩
abbrev sG : V := str ⟨#[103]⟩
abbrev sH : V := str ⟨#[104]⟩
abbrev aA : V := .agg [str ⟨#[65,49]⟩, pA, .slice [.agg [num 0, num 2000]], .slice [sF], p0]
abbrev one : V := .slice [.agg [pA, num 1, num 1, num 0]]
abbrev two : V := .slice [.agg [pA, num 1, num 2, num 0]]
abbrev rl (k : Int) (b : Bool) : V := .agg [pA, num 1, num k, num 0, .slice [], p0, p0, p0, bl b]
abbrev ix : V := .agg [.slice [rl 1 false, rl 2 false], .slice []]
abbrev iy : V := .agg [.slice [rl 1 true, rl 2 false], .slice []]
abbrev rq : V := .slice [.agg [pA, .slice [.agg [num 0, num 1000000]]]]
abbrev X2 (nm : V) (ex : List V) : V := .agg ([num 1, nm, bl true, bl false, p0, .slice [], num 0, p0, p0, .slice [], .slice [], num 0, p0, p0, .slice [], .slice [], num 2, p0, p0, .slice [], .slice []] ++ ex ++ [p0, p0])
abbrev vN (n : Int) : List V := [num 0, p0, p0, p0, num n, .slice [], .slice [], .slice []]
abbrev vU (nm : V) : List V := [num 4, pA, nm, p0, num 0, .slice [], .slice [], .slice []]
abbrev X3 : V := .slice [.agg [pA, .slice [], .slice [X2 sF (vN 1), X2 sG [num 16, p0, str ⟨#[43]⟩, p0, num 0, .slice [], .slice [], .slice [.agg (vU sF), .agg (vN 1)]], X2 sH [num 12, p0, p0, p0, num 0, .slice [.agg [num 2, p0, p0, .slice [], .slice []]], .slice [], .slice [.agg [num 2, p0, p0, p0, num 0, .slice [], .slice [], .slice []], .agg (vU sG), .agg (vN 2)]]]]]
abbrev us (nm : V) : V := .agg [pA, nm]
theorem h36 : aR Tryz.prog 36 [] X3 := er df qm 2000 (by kernel_rfl)
theorem Ut (hG : aK.g = some 0) : aR Tryz.prog 30 [aA] (num 0) := er (bx (xy hG) df) (gR hG) 2000 (by kernel_rfl)
theorem Uu : aR Tryz.prog 27 [aA, one] (bl true) := er df qm 2000 (by kernel_rfl)
theorem X4 : aR Tryz.prog 27 [aA, two] (bl false) := er df qm 2000 (by kernel_rfl)
theorem X5 (hG : aK.g = some 0) : aR Tryz.prog 11 [X3, one, .slice [aA], pA, sH] (.ch [.slice [.agg [str ⟨#[65,49]⟩, .slice [us sH, us sG, us sF]]], num 0]) := er (bx (Ut hG) (bx Uu df)) (gR hG) 2000 (by kernel_rfl)
theorem X6 (hG : aK.g = some 0) : aR Tryz.prog 11 [X3, two, .slice [aA], pA, sH] (.ch [.slice [], num 0]) := er (bx (Ut hG) (bx X4 df)) (gR hG) 2000 (by kernel_rfl)
theorem ZK (hG : aK.g = some 0) : aR Tryz.prog 95 [ix] (num 0) := er (bx (xy hG) df) (gR hG) 2000 (by kernel_rfl)
theorem X7 (hG : aK.g = some 0) : aR Tryz.prog 95 [iy] (num 0) := er (bx (xy hG) df) (gR hG) 2000 (by kernel_rfl)
theorem h19 (hG : aK.g = some 0) : aR Tryz.prog 19 [ix, aA] (.ch [.slice [.agg [pA, num 1000, num 2000]], num 0]) := er (bx (ZK hG) (bx (Ut hG) df)) (gR hG) 2000 (by kernel_rfl)
theorem h15 (hG : aK.g = some 0) : aR Tryz.prog 15 [ix, .slice [aA]] (.ch [iy, num 0]) := er (bx (ZK hG) (bx (Ut hG) df)) (gR hG) 2000 (by kernel_rfl)
theorem h28 (hG : aK.g = some 0) : aR Tryz.prog 28 [iy, rq] (.ch [two, num 0]) := er (bx (X7 hG) (bx (xy hG) df)) (gR hG) 2000 (by kernel_rfl)
theorem h17 (hG : aK.g = some 0) : aR Tryz.prog 17 [ix, rq, .slice [aA]] (.ch [two, num 0]) := er (bx (h15 hG) (bx (h28 hG) df)) (gR hG) 2000 (by kernel_rfl)
theorem Jq (hG : aK.g = some 0) : aR Tryz.prog 8 [] (bl true) := er (bx h36 (bx (Ut hG) (bx Uu (bx (X5 hG) (bx (X6 hG) (bx (h19 hG) (bx (h17 hG) df))))))) (gR hG) 2000 (by kernel_rfl)
end Go.Proofs.YtefbaladomfccaaGreatDoor
end

section
namespace Go.Proofs.YtefbaladomfccaaGreatDoor
open Go.Eng
open Nat renaming reduceAdd → zA, reduceLT → zB, reduceLeDiff → zC, reduceMul → zD, reduceEqDiff → zE, reduceSub → zF
variable [aK]
set_option maxHeartbeats 4000000
set_option maxRecDepth 100000
theorem DV {α : Type} : ∀ l : List α, ak (fun _ => 1) l = l.length
 | [] => rfl
 | a :: l => by simp only [ak,List.length_cons]; rw [DV l]; omega
theorem FX {p : List Md} (h : ak Md.wt p ≤ 1048576) : (gf p).length ≤ 1048576 := by
 have h1 := Ad (fun _ => 1) p
 simp only [DV] at h1
 have h2 : ak (fun m : Md => m.decls.length) p ≤ ak Md.wt p := sL (fun m => po m) p
 omega
theorem lawFinds_ok (hG : aK.g = some 0) (X8 : aR Tryz.prog 8 [] (bl true)) (p : List Md) (hl : p.length ≤ 1048576) (hw : ∀ m ∈ p, m.wt ≤ 1048576) (hS : ak Md.wt p ≤ 1048576) (s : List kr) (hs : s.length ≤ 1048576) (l : List fQ) (Jv : l.length ≤ 1048576) (jA : ∀ a ∈ l, MG a) (a b : ByteArray) : aR Tryz.prog 3 [.slice (p.map dv), .slice (s.map a6), .slice (l.map ay), str a, str b] (bl true) := by
 refine Y1 tt_ok [] 66 [.tmp 10] (fn := Tryz.f3) Tryz.func3 rfl Tryz.call3 ⟨rfl, rfl, by simp⟩ fun K hK => ?_
 have gv : Tryz.prog.underlying 9 = some .string := by kernel_rfl
 have sl : ∀ (a : ByteArray) (ty : TypeId), dh Tryz.prog (Builtin.len_ #[9] ty) [.sc (.string a)] = some (num a.size) := fun a ty => cH (P := Tryz.prog) (tt := tt) (T := 9) a gv ty
 simp only [List.length_map,sl,aJ,go_sem,reduceIte,zA,zB,zC,zD,zE,zF,reduceCtorEq]
 refine cF (⟨_, rfl, X8⟩) ?_
 rintro _ rfl
 simp only [List.length_map,sl,aJ,go_sem,reduceIte,zA,zB,zC,zD,zE,zF,reduceCtorEq]
 refine cF (FW p hl hw hS) ?_
 rintro _ ⟨b0, rfl, Tc⟩
 simp only [List.length_map,sl,aJ,go_sem,reduceIte,zA,zB,zC,zD,zE,zF,reduceCtorEq]
 refine aT (fun M7 => ?_) (fun M7 => ?_)
 ·simp only [List.length_map,sl,aJ,go_sem,reduceIte,zA,zB,zC,zD,zE,zF,reduceCtorEq]
  exact hK _ (by first | rfl | simp)
 ·have ZH := Tc (by simpa using M7)
  simp only [List.length_map,sl,aJ,go_sem,reduceIte,zA,zB,zC,zD,zE,zF,reduceCtorEq]
  refine aT (fun Uv => ?_) (fun Uv => ?_)
  ·simp only [List.length_map,sl,aJ,go_sem,reduceIte,zA,zB,zC,zD,zE,zF,reduceCtorEq]
   exact hK _ (by first | rfl | simp)
  ·simp only [List.length_map,sl,aJ,go_sem,reduceIte,zA,zB,zC,zD,zE,zF,reduceCtorEq]
   refine cF (Pd l Jv) ?_
   rintro _ ⟨b1, rfl⟩
   simp only [List.length_map,sl,aJ,go_sem,reduceIte,zA,zB,zC,zD,zE,zF,reduceCtorEq]
   refine aT (fun Qj => ?_) (fun Qj => ?_)
   ·simp only [List.length_map,sl,aJ,go_sem,reduceIte,zA,zB,zC,zD,zE,zF,reduceCtorEq]
    exact hK _ (by first | rfl | simp)
   ·simp only [List.length_map,sl,aJ,go_sem,reduceIte,zA,zB,zC,zD,zE,zF,reduceCtorEq]
    refine aT (fun Qk => ?_) (fun Qk => ?_)
    ·simp only [List.length_map,sl,aJ,go_sem,reduceIte,zA,zB,zC,zD,zE,zF,reduceCtorEq]
     exact hK _ (by first | rfl | simp)
    ·simp only [List.length_map,sl,aJ,go_sem,reduceIte,zA,zB,zC,zD,zE,zF,reduceCtorEq]
     refine aT (fun X9 => ?_) (fun X9 => ?_)
     ·simp only [List.length_map,sl,aJ,go_sem,reduceIte,zA,zB,zC,zD,zE,zF,reduceCtorEq]
      exact hK _ (by first | rfl | simp)
     ·simp only [List.length_map,sl,aJ,go_sem,reduceIte,zA,zB,zC,zD,zE,zF,reduceCtorEq]
      refine cR (IF hG p hl hw (FX hS) s hs l Jv jA a b) ?_
      rintro _ _ ⟨rfl, F, e, rfl, he, hF⟩
      simp only [List.length_map,sl,aJ,go_sem,reduceIte,zA,zB,zC,zD,zE,zF,reduceCtorEq]
      refine cF (FN p hl hw hS ZH s hs l Jv jA a b) ?_
      rintro _ ⟨F2, e2, rfl, Vd, ec⟩
      subst he Vd; rcases hF with ⟨Og, rfl⟩ | ⟨Og, v, fl, hv, Ya, rfl⟩
      ·obtain ⟨-, rfl⟩ := ec.resolve_right fun h => Og h.1
       simp only [List.length_map,sl,aJ,go_sem,reduceIte,zA,zB,zC,zD,zE,zF,reduceCtorEq]
       refine cF (by have h := Aj [] [] (by simp) (fun f hf => by simp at hf); simp only [List.map_nil] at h; exact h) ?_
       rintro w Yb; obtain rfl := Yb (by trivial)
       simp only [List.length_map,sl,aJ,go_sem,reduceIte,zA,zB,zC,zD,zE,zF,reduceCtorEq]
       exact hK _ (by first | rfl | simp)
      ·obtain ⟨-, v2, vI, ZL, hS2, rfl⟩ := ec.resolve_left fun h => h.1 Og
       rw [hv] at ZL
       cases ZL
       obtain rfl := lG.unique Ya hS2
       simp only [List.length_map,sl,aJ,go_sem,reduceIte,zA,zB,zC,zD,zE,zF,reduceCtorEq]
       refine cF (Aj fl fl (by have := Ya.len; omega) Ya.PQ) ?_
       rintro w Yb; obtain rfl := Yb rfl
       simp only [List.length_map,sl,aJ,go_sem,reduceIte,zA,zB,zC,zD,zE,zF,reduceCtorEq]
       exact hK _ (by first | rfl | simp)
end Go.Proofs.YtefbaladomfccaaGreatDoor
end

section
namespace Go.Proofs.YtefbaladomfccaaGreatDoor.lawAdvisoryFinds
open Go.Eng
set_option maxRecDepth 100000
open Go.ChangeShapes Go.WideShapes Go.ChangeAt Go.RowKit
theorem contract (H : Type) (enc : TypeId × Value → H) (W : World) (args : Array Value) (ds gs : List (DataW H)) (before : List MemPlace) (base : Nat)
  (dc : ∀ (j : Nat) t v, Tryz.f3.params[j]? = some t → args[j]? = some v → Value.okWide Tryz.prog W .any base t v)
  (hW : DataW.Whole enc Tryz.prog Tryz.f3.params.toList Rows.advisoryFindsSpec.vars false W args.toList ds gs before) (hb : Rows.uptoBulkAll (ds ++ gs) ≤ 1048576) (hS : W.ShapedOpen Tryz.prog) :
  Calls Tryz.prog 3 args W fun e W' => ∃ v, e = .returned v ∧ Rows.advisoryFindsSpec.post enc Tryz.prog Tryz.f3 false true false false W args v W' := by
 have ZM := hW
 have aL := hW.lt
 obtain ⟨p, q, SI, hV, rfl, Xp, j3⟩ := hW
 have hA : DataW.TrodAll enc Tryz.prog W 0 (fun _ => true) true Tryz.f3.params.toList args.toList ds p := SI
 rw [Tryz.params3] at hA
 obtain ⟨v0, SH, d0, ds0, p0, q0, jQ, rfl, rfl, h0, r0⟩ := trodAll_cons hA
 obtain ⟨v1, vs1, d1, ds1, p1, q1, rfl, rfl, rfl, h1, r1⟩ := trodAll_cons r0
 obtain ⟨v2, vs2, d2, ds2, p2, q2, rfl, rfl, rfl, h2, r2⟩ := trodAll_cons r1
 obtain ⟨v3, vs3, d3, ds3, p3, q3, rfl, rfl, rfl, h3, r3⟩ := trodAll_cons r2
 obtain ⟨v4, vs4, d4, ds4, p4, q4, rfl, rfl, rfl, h4, r4⟩ := trodAll_cons r3
 obtain ⟨rfl, rfl, rfl⟩ := trodAll_nil r4
 obtain rfl : args = #[v0, v1, v2, v3, v4] := by cases args; simp_all
 obtain ⟨rfl, rfl⟩ := trodVars_none hV
 rw [Tryz.params3] at dc
 obtain ⟨a0, l0, c0, rfl⟩ := okWide_slice Tryz.underlying23 (dc 0 23 v0 rfl rfl)
 obtain ⟨a1, l1, c1, rfl⟩ := okWide_slice Tryz.underlying24 (dc 1 24 v1 rfl rfl)
 obtain ⟨a2, l2, c2, rfl⟩ := okWide_slice Tryz.underlying25 (dc 2 25 v2 rfl rfl)
 obtain ⟨s3, rfl⟩ := okWide_string Tryz.underlying9 (dc 3 9 v3 rfl rfl)
 obtain ⟨s4, rfl⟩ := okWide_string Tryz.underlying9 (dc 4 9 v4 rfl rfl)
 clear dc
 clear SI hA r0 r1 r2 r3 r4 jQ hV
 simp only [List.append_nil] at ZM aL
 simp only [kd,List.append_nil,Rows.uptoBulkAll] at hb
 have QG := h0
 have OX := h1
 have MB := h2
 have UG := h3
 have h4' := h4
 obtain ⟨f0, h0⟩ := h0
 obtain ⟨f1, h1⟩ := h1
 obtain ⟨f2, h2⟩ := h2
 have main : Calls Tryz.prog 3 #[.slice a0 l0 c0, .slice a1 l1 c1, .slice a2 l2 c2, .string s3, .string s4] W fun e W' => e = .returned (.bool true) ∧ Below W.heap.size W W' := by
  obtain ⟨n, hn⟩ := EY hS
  have go : ∀ (G : aK) (hG : G.g = some 0) (hg : @Gl G W.cell?), Calls Tryz.prog 3 #[.slice a0 l0 c0, .slice a1 l1 c1, .slice a2 l2 c2, .string s3, .string s4] W fun e W' => e = .returned (.bool true) ∧ Below W.heap.size W W' := fun G hG hg => by
   have X8 : aR Tryz.prog 8 [] (bl true) := Jq hG
   obtain ⟨x0, j9, b0⟩ := Ps (F := W.cell?) (hg := hg) rfl h0
   obtain ⟨x1, ua, b1⟩ := K7 (F := W.cell?) (hg := hg) rfl h1
   obtain ⟨x2, CJ, b2⟩ := La (F := W.cell?) (hg := hg) rfl h2
   obtain ⟨x3, ht3, b3⟩ := dp (F := W.cell?) (hg := hg) (Exists.choose_spec h3)
   have e3 : x3 = s3 := by have h := bS (ht3.1.2 0 _ _ rfl rfl); exact (Value.string.inj h).symm
   subst e3
   obtain ⟨x4, ht4, b4⟩ := dp (F := W.cell?) (hg := hg) (Exists.choose_spec h4)
   have e4 : x4 = s4 := by have h := bS (ht4.1.2 0 _ _ rfl rfl); exact (Value.string.inj h).symm
   subst e4
   obtain ⟨rr, uE, hc⟩ : ∃ r_, r_ = bl true ∧ aR Tryz.prog 3 [.slice (x0.map dv), .slice (x1.map a6), .slice (x2.map ay), str x3, str x4] r_ := by
    obtain ⟨r_, h1, h2⟩ := (⟨_, rfl, lawFinds_ok hG X8 x0 (MH (l := x0) (by omega)).1 (MH (l := x0) (by omega)).2 (by omega) x1 (Pt (l := x1) (by omega)) x2 (H9 (l := x2) (by omega)).1 (H9 (l := x2) (by omega)).2 x3 x4⟩ : ∃ r_, r_ = bl true ∧ aR Tryz.prog 3 _ r_)
    exact ⟨r_, h1, h2⟩
   subst uE
   refine (hc.2 W.cell? hg W #[.slice a0 l0 c0, .slice a1 l1 c1, .slice a2 l2 c2, .string x3, .string x4] (fun _ _ h => h) ?_).mono fun o W' h => ?_
   ·exact .cons (BP j9) (.cons (BP ua) (.cons (BP CJ) (.cons (.sc _ _) (.cons (.sc _ _) (.nil _)))))
   ·obtain ⟨F', x, rfl, -, -, -, ⟨JY, hx⟩, uw⟩ := h
    obtain rfl := bS hx
    exact ⟨rfl, uw⟩
  exact go (Zk n) rfl (@Gl.mk (Zk n) _ (fun g hg => by cases hg; exact hn) (fun g cs j x h => by cases h))
 refine main.mono fun e W' ⟨he, uw⟩ => ?_
 subst he
 have Am : laidOutB Tryz.prog = true := by kernel_rfl
 refine ⟨_, rfl, EZ (pa := p0 ++ (p1 ++ (p2 ++ (p3 ++ (p4 ++ []))))) (pv := []) ZM (fun _ _ _ => trodAll_cons_mk (shut_bool Tryz.underlying4 _) trodAll_mk0) (fun sp rm => ?_) (fun _ _ => rfl) (by simp)
  uw (ok_one (by kernel_rfl) rfl (okWide_bool_mk Tryz.underlying4 _))⟩
 ·refine trodAll_cons_mk (WideElems.Trod_stays Am (by kernel_rfl) (of_decide_eq_true (by kernel_rfl)) QG (fun x hx => uw.same (aL x (by simp [hx]))) (fun x hx => rm x (by simp [hx])))
   (trodAll_cons_mk (WideElems.Trod_stays Am (by kernel_rfl) (of_decide_eq_true (by kernel_rfl)) OX (fun x hx => uw.same (aL x (by simp [hx]))) (fun x hx => rm x (by simp [hx])))
   (trodAll_cons_mk (WideElems.Trod_stays Am (by kernel_rfl) (of_decide_eq_true (by kernel_rfl)) MB (fun x hx => uw.same (aL x (by simp [hx]))) (fun x hx => rm x (by simp [hx])))
   (trodAll_cons_mk (WideElems.Trod_stays Am (by kernel_rfl) (of_decide_eq_true (by kernel_rfl)) UG (fun x hx => uw.same (aL x (by simp [hx]))) (fun x hx => rm x (by simp [hx])))
   (trodAll_cons_mk (WideElems.Trod_stays Am (by kernel_rfl) (of_decide_eq_true (by kernel_rfl)) h4' (fun x hx => uw.same (aL x (by simp [hx]))) (fun x hx => rm x (by simp [hx])))
   trodAll_mk0))))
end Go.Proofs.YtefbaladomfccaaGreatDoor.lawAdvisoryFinds
end

section
namespace Go.Proofs.YtefbaladomfccaaGreatDoor
open Go.ChangeShapes Go.WideShapes Go.ChangeAt Go.RowKit
theorem own : ownKnob Tryz.prog.godebug = none := by kernel_rfl
def M8 (cs : Array Value) : Obj → Obj
 | .cells _ t frozen => .cells cs t frozen
 | o => o
def Yc : List Nat := [128,191,160,191,128,159,144,191,128,143,0,0,0,0,0,0,0,0,0,0,0,0,0,0,0,0,0,0,0,0,0,0]
noncomputable def qn (os : Os) : World :=
 { World.holding Tryz.prog os ⟨#[], #[], []⟩ with heap := ((World.holding Tryz.prog os ⟨#[], #[], []⟩).heap.modify 1 (M8 ⟨Pinned.utf8FirstZ.map fun n => Value.int .u8 (Int.ofNat n)⟩)).modify 2 (M8 ⟨Yc.map fun n => Value.int .u8 (Int.ofNat n)⟩) }
end Go.Proofs.YtefbaladomfccaaGreatDoor
end
