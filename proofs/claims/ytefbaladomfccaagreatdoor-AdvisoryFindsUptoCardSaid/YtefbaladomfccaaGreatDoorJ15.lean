/-
  THE LAW AdvisoryFinds, C: the statement and its card.
-/
import Derived.Test.YtefbaladomfccaaGreatDoorJ14
set_option linter.all false
section
namespace Go.Proofs.YtefbaladomfccaaGreatDoor.lawAdvisoryFinds
open Go.ChangeShapes Go.WideShapes Go.ChangeAt Go.RowKit
def DW : Array Value := #[.slice none 0 0, .slice none 0 0, .slice none 0 0, .string ⟨#[]⟩, .string ⟨#[]⟩]
def Uw (H : Type) : List (DataW H) := [.nil, .nil, .nil, .lit (.string []), .lit (.string [])]
theorem Jr (os : Os) : laidMet Tryz.prog Rows.advisoryFindsUptoRow.laid ((qn os).forCall (fun _ _ => 0) ⟨#[], DW, []⟩).memory :=
 laidMet_of_run' 8 (by kernel_rfl) (by kernel_rfl)
theorem reads (os : Os) {H : Type} (enc : TypeId × Value → H) : ∃ places, DataW.whole enc Tryz.prog ((qn os).forCall (fun _ _ => 0) ⟨#[], DW, []⟩).memory Tryz.f3.params.toList Rows.advisoryFindsSpec.vars false DW.toList 8 = some (Uw H, [], places) :=
 ⟨[], by kernel_rfl⟩
set_option maxRecDepth 100000 in
theorem CD (os : Os) (started : os.Started) (H : Type) (enc : TypeId × Value → H) (F : Stop.Interp) :
  ReturnsInHanded {} Tryz.checked os 3 .any ((Rows.OpenSpec.upto Rows.advisoryFindsSpec).preRow enc Tryz.prog Tryz.f3 Rows.advisoryFindsUptoRow.domain false Rows.advisoryFindsUptoRow.laid) (((Rows.OpenSpec.upto Rows.advisoryFindsSpec).at F).post enc Tryz.prog Tryz.f3 false true false false) := by
 obtain ⟨places, hx⟩ := reads os enc
 refine returnsInHanded_of_row (C := Tryz.checked) (s := Rows.OpenSpec.upto Rows.advisoryFindsSpec) own started (by kernel_rfl) Tryz.func3
  (witness_row_at (enc := enc) (C := Tryz.checked) false (qn os) DW rfl (by kernel_rfl) (by kernel_rfl) (by kernel_rfl)
   (OpenSpec.preRow_of_cond 8 hx (by kernel_rfl) (fun k hk => by cases hk; kernel_rfl) (by kernel_rfl) (Jr os))) ?_
 intro W base args ds gs before dc hW _ ow _ _ hS _
 exact contract H enc W args ds gs before base dc hW (of_decide_eq_true (ow _ rfl)) hS
theorem jf0 : (Rows.advisoryFindsUptoRow.wf (OpenSpec.ofChange (Rows.OpenSpec.upto Rows.advisoryFindsSpec).bare)) = true := by kernel_rfl
theorem jf1 : (laidOutB Tryz.pinned.checked.prog) = true := by kernel_rfl
theorem jf2 : (mapsRowed Tryz.pinned.checked.prog) = true := by kernel_rfl
theorem jf3 : (Tryz.f3.params.all (Tryz.pinned.checked.prog.readableRec ·)) = true := by kernel_rfl
theorem jf4 : (namedTie Tryz.pinned.checked.prog Rows.advisoryFindsUptoRow.named (Rows.OpenSpec.upto Rows.advisoryFindsSpec).bare.vars) = true := by kernel_rfl
theorem jf5 : ((Rows.advisoryFindsUptoRow.stops == [])) = true := by kernel_rfl
theorem jf6 : ((Tryz.pinned.checked.prog.stops == [])) = true := by kernel_rfl
theorem jf7 : ((Rows.advisoryFindsUptoRow.knobs == [])) = true := by kernel_rfl
theorem jf8 : ((Tryz.pinned.checked.prog.stopKnobs == [])) = true := by kernel_rfl
theorem jf9 : ((Rows.advisoryFindsUptoRow.inPlace == Tryz.pinned.checked.prog.inPlace 3)) = true := by kernel_rfl
theorem Yd : ((Rows.advisoryFindsUptoRow.unfollowed == Tryz.pinned.checked.prog.unfollowed 3)) = true := by kernel_rfl
theorem Ye : ((Rows.advisoryFindsUptoRow.recurses == Tryz.pinned.checked.prog.recurses 3)) = true := by kernel_rfl
theorem Yf : ((Rows.advisoryFindsUptoRow.named == Tryz.pinned.checked.prog.varsNamed 3)) = true := by kernel_rfl
theorem Yg : ((Rows.advisoryFindsUptoRow.maps == (Tryz.f3.params.toList ++ (Rows.OpenSpec.upto Rows.advisoryFindsSpec).bare.plain.varTypes Tryz.pinned.checked.prog).any (Tryz.pinned.checked.prog.mapsRec ·))) = true := by kernel_rfl
theorem Yh : ((Rows.advisoryFindsUptoRow.ifaces == (Tryz.f3.params.toList ++ (Rows.OpenSpec.upto Rows.advisoryFindsSpec).bare.plain.varTypes Tryz.pinned.checked.prog).any (Tryz.pinned.checked.prog.ifacesRec ·))) = true := by kernel_rfl
theorem Yi : ((Rows.advisoryFindsUptoRow.mapsOut == Tryz.pinned.checked.prog.mapsAmong Tryz.f3.resultTypes.toList)) = true := by kernel_rfl
theorem Yj : ((Rows.advisoryFindsUptoRow.loops == (Tryz.f3.params.toList ++ (Rows.OpenSpec.upto Rows.advisoryFindsSpec).bare.plain.varTypes Tryz.pinned.checked.prog).any (Tryz.pinned.checked.prog.loopsFrom ·))) = true := by kernel_rfl
theorem Yk : ((Rows.advisoryFindsUptoRow.wideKeys == (Tryz.f3.params.toList ++ (Rows.OpenSpec.upto Rows.advisoryFindsSpec).bare.plain.varTypes Tryz.pinned.checked.prog ++ Tryz.f3.resultTypes.toList).any (Tryz.pinned.checked.prog.wideKeysFrom ·))) = true := by kernel_rfl
theorem Yl : ((Rows.OpenSpec.upto Rows.advisoryFindsSpec).bare.vars.all (Tryz.pinned.checked.prog.varReadable ·)) = true := by kernel_rfl
theorem Ym : (Tryz.f3.resultTypes.all (fun t => Tryz.pinned.checked.prog.readableRec t && decide (t < Tryz.pinned.checked.prog.types.size))) = true := by kernel_rfl
theorem Yn : ((Rows.advisoryFindsUptoRow.ifacesOut == Tryz.f3.resultTypes.toList.any (Tryz.pinned.checked.prog.ifacesRec ·))) = true := by kernel_rfl
theorem Yo : ((Rows.advisoryFindsUptoRow.loopsOut == Tryz.f3.resultTypes.toList.any (Tryz.pinned.checked.prog.loopsFrom ·))) = true := by kernel_rfl
theorem Yp : ((Rows.advisoryFindsUptoRow.plainKeys == Tryz.pinned.checked.prog.plainKeys)) = true := by kernel_rfl
theorem Yq : (Rows.advisoryFindsUptoRow.shortTexts.isNone) = true := by kernel_rfl
theorem Yr : (Tryz.pinned.checked.prog.stopsHeard) = true := by kernel_rfl
theorem Ys : (Tryz.pinned.checked.prog.mayEnter) = true := by kernel_rfl
theorem Yt : ((Rows.advisoryFindsUptoRow.lifted == Tryz.pinned.checked.prog.liftsFinal)) = true := by kernel_rfl
theorem Yu : ((Tryz.pinned.checked.prog.make == some Rows.advisoryFindsUptoRow.make)) = true := by kernel_rfl
theorem Yv : ((Rows.advisoryFindsUptoRow.kinds == (if Rows.advisoryFindsUptoRow.domain.isEmpty then [] else Tryz.f3.params.toList.map fun t => match Tryz.pinned.checked.prog.underlying t with | some (.int k) => some k | _ => none))) = true := by kernel_rfl
theorem Yw : ((Rows.advisoryFindsUptoRow.pinned == Rows.advisoryFindsUptoRow.pinnedBy)) = true := by kernel_rfl
theorem Yx : ((Rows.advisoryFindsUptoRow.veiled == (Tryz.f3.params.toList ++ (Rows.OpenSpec.upto Rows.advisoryFindsSpec).bare.plain.varTypes Tryz.pinned.checked.prog ++ Tryz.f3.resultTypes.toList).any (Tryz.pinned.checked.prog.veiledRec ·))) = true := by kernel_rfl
theorem Yy : (Rows.advisoryFindsUptoRow.veiledFits Tryz.pinned.checked.prog Tryz.f3.params.toList (Tryz.f3.params.toList ++ (Rows.OpenSpec.upto Rows.advisoryFindsSpec).bare.plain.varTypes Tryz.pinned.checked.prog ++ Tryz.f3.resultTypes.toList)) = true := by kernel_rfl
theorem fL {a b : Bool} (h1 : a = true) (h2 : b = true) : (a && b) = true := by rw [h1, h2]; rfl
set_option maxRecDepth 100000 in
theorem Ql : joinedFacts Tryz.pinned.checked.prog 3 Tryz.f3 (Rows.OpenSpec.upto Rows.advisoryFindsSpec).bare Rows.advisoryFindsUptoRow = true := by
 unfold joinedFacts
 exact fL (fL (fL (fL (fL (fL (fL (fL (fL (fL (fL (fL (fL (fL (fL (fL (fL (fL (fL (fL (fL (fL (fL (fL (fL (fL (fL (fL (fL (fL (fL (jf0) jf1) jf2) jf3) jf4) jf5) jf6) jf7) jf8) jf9) Yd) Ye) Yf) Yg) Yh) Yi) Yj) Yk) Yl) Ym) Yn) Yo) Yp) Yq) Yr) Ys) Yt) Yu) Yv) Yw) Yx) Yy
theorem Js : Rows.AdvisoryFindsUptoSaid :=
 OpenClaim.holds_of_cond 3 Tryz.f3 rfl rfl rfl rfl rfl rfl rfl ⟨rfl, rfl, rfl, rfl, rfl⟩ rfl rfl rfl rfl rfl (by kernel_rfl) Tryz.func3 Ql
  (of_decide_eq_true (by kernel_rfl)) (by unfold Func.isWrapper; first | (rw [if_pos (by decide +kernel)]; kernel_rfl) | (rw [if_neg (by decide +kernel)]; exact ⟨rfl, rfl⟩))
  (fun os started H enc _ F => by rw [OpenClaim.pre_eq_preRow]; exact CD os started H enc F)
theorem plain (f : FuncId) (fn : Func) (hf : Tryz.pinned.checked.prog.funcNamed "modcert/modcertlaw42.AdvisoryFinds" = some f) (Qx : Tryz.pinned.checked.prog.funcs[f]? = some fn) :
  false = Tryz.pinned.checked.prog.looks [] ∧ ∀ (j : Nat) t, fn.params[j]? = some t → Tryz.pinned.checked.prog.wantsStandIn t = false := by
 obtain rfl : f = 3 := Option.some.inj ((show Tryz.prog.funcNamed "modcert/modcertlaw42.AdvisoryFinds" = some 3 by kernel_rfl).symm.trans hf) |>.symm
 obtain rfl : fn = Tryz.f3 := (Option.some.inj (Tryz.func3.symm.trans Qx)).symm
 refine ⟨by kernel_rfl, fun j t ht => ?_⟩
 rw [Tryz.params3] at ht
 have h : ∀ t ∈ [23,24,25,9,9], Tryz.prog.wantsStandIn t = false := by
  intro t ht
  simp only [List.mem_cons,List.not_mem_nil,or_false] at ht
  rcases ht with rfl | rfl | rfl | rfl | rfl <;> kernel_rfl
 exact h t (by simpa using Array.mem_of_getElem? ht)
theorem cardUpto : Rows.AdvisoryFindsUptoCardSaid :=
 Claim7.holds_tied_plain_at .later [] _ _ _ _ Js (fun _ h => by cases h) (by kernel_rfl) (fun _ h => by cases h) advisoryFindsUpto_row_tie rfl ⟨rfl, rfl⟩ (by kernel_rfl) rfl plain (by kernel_rfl)
end Go.Proofs.YtefbaladomfccaaGreatDoor.lawAdvisoryFinds
end
