/-
  AWAKE: the example of the chapter.
  THE LAW ScopeOrder, A: what it does at every argument of the bound, in every world of the shape.
  CLOSING, B: a world for the witness.
-/
import Derived.Test.YtnboooapeopjoaaGreatDoorJ10
import Derived.Test.YtnboooapeopjoaaGreatDoorCards
import Derived.Test.YtnboooapeopjoaaGreatDoorTie
import Derived.Lib.LaidTab
set_option linter.all false
section
namespace Go.Proofs.YtnboooapeopjoaaGreatDoor
open Go.Eng
variable [aA]
set_option maxHeartbeats 4000000
set_option maxRecDepth 100000
theorem Le (hG : aA.g = some 1) : aT Tryz.prog 7 [] (bl true) := bB (aM (Xl hG) (aM (RZ hG) (aM (XK hG) aH))) (aW hG) 3000 (by kernel_rfl)
end Go.Proofs.YtnboooapeopjoaaGreatDoor
end

section
namespace Go.Proofs.YtnboooapeopjoaaGreatDoor.lawScopeOrder
open Go.Eng
set_option maxRecDepth 100000
open Go.ChangeShapes Go.WideShapes Go.ChangeAt Go.RowKit
theorem contract (H : Type) (enc : TypeId × Value → H) (W : World) (args : Array Value) (ds gs : List (DataW H)) (before : List MemPlace) (base : Nat)
  (dx : ∀ (j : Nat) t v, Tryz.f6.params[j]? = some t → args[j]? = some v → Value.okWide Tryz.prog W .any base t v)
  (hW : DataW.Whole enc Tryz.prog Tryz.f6.params.toList Rows.scopeOrderSpec.vars false W args.toList ds gs before) (hb : Rows.uptoBulkAll (ds ++ gs) ≤ 1048576) (hS : W.ShapedOpen Tryz.prog) :
  Calls Tryz.prog 6 args W fun e W' => ∃ v, e = .returned v ∧ Rows.scopeOrderSpec.post enc Tryz.prog Tryz.f6 false true false false W args v W' := by
 have hW' := hW
 have aZ := hW.lt
 obtain ⟨p, q, Ue, hV, rfl, hfz, iK⟩ := hW
 have hA : DataW.TrodAll enc Tryz.prog W 0 (fun _ => true) true Tryz.f6.params.toList args.toList ds p := Ue
 rw [Tryz.params6] at hA
 obtain ⟨v0, Lx, d0, ds0, p0, q0, kN, rfl, rfl, h0, r0⟩ := trodAll_cons hA
 obtain ⟨v1, vs1, d1, ds1, p1, q1, rfl, rfl, rfl, h1, r1⟩ := trodAll_cons r0
 obtain ⟨v2, vs2, d2, ds2, p2, q2, rfl, rfl, rfl, h2, r2⟩ := trodAll_cons r1
 obtain ⟨rfl, rfl, rfl⟩ := trodAll_nil r2
 obtain rfl : args = #[v0, v1, v2] := by cases args; simp_all
 obtain ⟨rfl, rfl⟩ := trodVars_none hV
 rw [Tryz.params6] at dx
 obtain ⟨x0, rfl⟩ := okWide_bool Tryz.underlying4 (dx 0 4 v0 rfl rfl)
 obtain ⟨s1, rfl⟩ := okWide_string Tryz.underlying9 (dx 1 9 v1 rfl rfl)
 obtain ⟨s2, rfl⟩ := okWide_string Tryz.underlying9 (dx 2 9 v2 rfl rfl)
 clear dx
 clear Ue hA r0 r1 r2 kN hV
 simp only [List.append_nil] at hW' aZ
 simp only [ck,List.append_nil,Rows.uptoBulkAll] at hb
 have h0' := h0
 have h1' := h1
 have h2' := h2
 have main : Calls Tryz.prog 6 #[.bool x0, .string s1, .string s2] W fun e W' => e = .returned (.bool true) ∧ Below W.heap.size W W' := by
  obtain ⟨n, hn⟩ := GF hS
  have go : ∀ (G : aA) (hG : G.g = some 1) (hg : @Gl G W.cell?), Calls Tryz.prog 6 #[.bool x0, .string s1, .string s2] W fun e W' => e = .returned (.bool true) ∧ Below W.heap.size W W' := fun G hG hg => by
   have OK : aT Tryz.prog 7 [] (bl true) := Le hG
   obtain ⟨x1, ht1, b1⟩ := Kg (F := W.cell?) (hg := hg) (Exists.choose_spec h1)
   have e1 : x1 = s1 := by have h := dk (ht1.1.2 0 _ _ rfl rfl); exact (Value.string.inj h).symm
   subst e1
   obtain ⟨x2, ht2, b2⟩ := Kg (F := W.cell?) (hg := hg) (Exists.choose_spec h2)
   have e2 : x2 = s2 := by have h := dk (ht2.1.2 0 _ _ rfl rfl); exact (Value.string.inj h).symm
   subst e2
   obtain ⟨rr, wG, hc⟩ : ∃ r_, r_ = bl true ∧ aT Tryz.prog 6 [bl x0, str x1, str x2] r_ := by
    obtain ⟨r_, h1, h2⟩ := lawOrder_ok hG OK x0 x1 x2
    exact ⟨r_, h1, h2⟩
   subst wG
   refine (hc.2 W.cell? hg W #[.bool x0, .string x1, .string x2] (fun _ _ h => h) ?_).mono fun o W' h => ?_
   ·exact .cons (.sc _ _) (.cons (.sc _ _) (.cons (.sc _ _) (.nil _)))
   ·obtain ⟨F', x, rfl, -, -, -, ⟨zJ, hx⟩, GR⟩ := h
    obtain rfl := dk hx
    exact ⟨rfl, GR⟩
  exact go (gOf n) rfl (@Gl.mk (gOf n) _ (fun g hg => by cases hg; exact hn) (fun g cs j x h => by cases h))
 refine main.mono fun e W' ⟨he, GR⟩ => ?_
 subst he
 have Lf : laidOutB Tryz.prog = true := by kernel_rfl
 refine ⟨_, rfl, GG (pa := p0 ++ (p1 ++ (p2 ++ []))) (pv := []) hW' (fun _ _ _ => trodAll_cons_mk (shut_bool Tryz.underlying4 _) trodAll_mk0) (fun sp GZ => ?_) (fun _ _ => rfl) (by simp)
  GR (ok_one (by kernel_rfl) rfl (okWide_bool_mk Tryz.underlying4 _))⟩
 ·refine trodAll_cons_mk (WideElems.Trod_stays Lf (by kernel_rfl) (of_decide_eq_true (by kernel_rfl)) h0' (fun x hx => GR.same (aZ x (by simp [hx]))) (fun x hx => GZ x (by simp [hx])))
   (trodAll_cons_mk (WideElems.Trod_stays Lf (by kernel_rfl) (of_decide_eq_true (by kernel_rfl)) h1' (fun x hx => GR.same (aZ x (by simp [hx]))) (fun x hx => GZ x (by simp [hx])))
   (trodAll_cons_mk (WideElems.Trod_stays Lf (by kernel_rfl) (of_decide_eq_true (by kernel_rfl)) h2' (fun x hx => GR.same (aZ x (by simp [hx]))) (fun x hx => GZ x (by simp [hx])))
   trodAll_mk0))
end Go.Proofs.YtnboooapeopjoaaGreatDoor.lawScopeOrder
end

section
namespace Go.Proofs.YtnboooapeopjoaaGreatDoor
open Go.ChangeShapes Go.WideShapes Go.ChangeAt Go.RowKit
theorem own : ownKnob Tryz.prog.godebug = none := by kernel_rfl
def OX (cs : Array Value) : Obj → Obj
 | .cells _ t frozen => .cells cs t frozen
 | o => o
def abY : List Nat := [0,1,28,2,29,14,24,3,30,22,20,15,25,17,4,8,31,27,13,23,21,19,16,7,26,12,18,6,11,5,10,9]
def abZ : List Nat := [0,1,56,2,57,49,28,3,61,58,42,50,38,29,17,4,62,47,59,36,45,43,51,22,53,39,33,30,24,18,12,5,63,55,48,27,60,41,37,16,46,35,44,21,52,32,23,11,54,26,40,15,34,20,31,10,25,14,19,9,13,8,7,6]
def XL : List Nat := [1,10,100,1000,10000,100000,1000000,10000000,100000000,1000000000,10000000000,100000000000,1000000000000,10000000000000,100000000000000,1000000000000000,10000000000000000,100000000000000000,1000000000000000000,10000000000000000000]
def ab0 : List Nat := [128,191,160,191,128,159,144,191,128,143,0,0,0,0,0,0,0,0,0,0,0,0,0,0,0,0,0,0,0,0,0,0]
def NJ (l : List Nat) : Obj → Obj := OX ⟨l.map fun n => Value.int .u8 (Int.ofNat n)⟩
noncomputable def sm (os : Os) : World :=
 { World.holding Tryz.prog os ⟨#[], #[], []⟩ with heap := (((((World.holding Tryz.prog os ⟨#[], #[], []⟩).heap.modify 4 (NJ Pinned.utf8FirstZ)).modify 5 (NJ ab0)).modify 0 (OX ⟨XL.map fun n => Value.int .u64 (Int.ofNat n)⟩)).modify 2 (NJ abY)).modify 3 (NJ abZ) }
end Go.Proofs.YtnboooapeopjoaaGreatDoor
end
