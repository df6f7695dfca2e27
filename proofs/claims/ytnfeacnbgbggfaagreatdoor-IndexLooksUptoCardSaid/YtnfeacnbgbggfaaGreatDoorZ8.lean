/-
  THE LAW IndexLooks, C: the statement and its card.
-/
import Derived.Test.YtnfeacnbgbggfaaGreatDoorZ7
set_option linter.all false
section
namespace Go.Proofs.YtnfeacnbgbggfaaGreatDoor.lawIndexLooks
open Go.ChangeShapes Go.WideShapes Go.ChangeAt Go.RowKit
def Em : Array Value := #[wIx, .string ⟨#[]⟩, XW]
def Uw (H : Type) : List (DataW H) := [dIx H, .lit (.string []), XX H]
theorem JD (os : Os) : laidMet Tryz.prog Rows.indexLooksUptoRow.laid ((qC os).forCall (fun _ _ => 0) ⟨#[], Em, []⟩).memory :=
 laidMet_of_run' 8 (by kernel_rfl) (by kernel_rfl)
theorem reads (os : Os) {H : Type} (enc : TypeId × Value → H) : ∃ places, DataW.whole enc Tryz.prog ((qC os).forCall (fun _ _ => 0) ⟨#[], Em, []⟩).memory Tryz.f8.params.toList Rows.indexLooksSpec.vars false Em.toList 8 = some (Uw H, [], places) :=
 ⟨[], by kernel_rfl⟩
set_option maxRecDepth 100000 in
theorem CW (os : Os) (started : os.Started) (H : Type) (enc : TypeId × Value → H) (F : Stop.Interp) :
  ReturnsInHanded {} Tryz.checked os 8 .any ((Rows.OpenSpec.upto Rows.indexLooksSpec).preRow enc Tryz.prog Tryz.f8 Rows.indexLooksUptoRow.domain false Rows.indexLooksUptoRow.laid) (((Rows.OpenSpec.upto Rows.indexLooksSpec).at F).post enc Tryz.prog Tryz.f8 false true false false) := by
 obtain ⟨places, hx⟩ := reads os enc
 refine returnsInHanded_of_row (C := Tryz.checked) (s := Rows.OpenSpec.upto Rows.indexLooksSpec) own started (by kernel_rfl) Tryz.func8
  (witness_row_at (enc := enc) (C := Tryz.checked) false (qC os) Em rfl (by kernel_rfl) (by kernel_rfl) (by kernel_rfl)
   (OpenSpec.preRow_of_cond 8 hx (by kernel_rfl) (fun k hk => by cases hk; kernel_rfl) (by kernel_rfl) (JD os))) ?_
 intro W base args ds gs before bK hW _ oB _ _ hS _
 exact contract H enc W args ds gs before base bK hW (of_decide_eq_true (oB _ rfl)) hS
theorem JE : Rows.IndexLooksUptoSaid :=
 OpenClaim.holds_of_cond 8 Tryz.f8 rfl rfl rfl rfl rfl rfl rfl ⟨rfl, rfl, rfl, rfl, rfl⟩ rfl rfl rfl rfl rfl (by kernel_rfl) Tryz.func8 (by kernel_rfl)
  (of_decide_eq_true (by kernel_rfl)) (by unfold Func.isWrapper; first | (rw [if_pos (by decide +kernel)]; kernel_rfl) | (rw [if_neg (by decide +kernel)]; exact ⟨rfl, rfl⟩))
  (fun os started H enc _ F => by rw [OpenClaim.pre_eq_preRow]; exact CW os started H enc F)
theorem plain (f : FuncId) (fn : Func) (hf : Tryz.pinned.checked.prog.funcNamed "modcert/modcertlaw32.IndexLooks" = some f) (JL : Tryz.pinned.checked.prog.funcs[f]? = some fn) :
  false = Tryz.pinned.checked.prog.looks [] ∧ ∀ (j : Nat) t, fn.params[j]? = some t → Tryz.pinned.checked.prog.wantsStandIn t = false := by
 obtain rfl : f = 8 := Option.some.inj ((show Tryz.prog.funcNamed "modcert/modcertlaw32.IndexLooks" = some 8 by kernel_rfl).symm.trans hf) |>.symm
 obtain rfl : fn = Tryz.f8 := (Option.some.inj (Tryz.func8.symm.trans JL)).symm
 refine ⟨by kernel_rfl, fun j t ht => ?_⟩
 rw [Tryz.params8] at ht
 have h : ∀ t ∈ [25,9,38], Tryz.prog.wantsStandIn t = false := by
  intro t ht
  simp only [List.mem_cons,List.not_mem_nil,or_false] at ht
  rcases ht with rfl | rfl | rfl <;> kernel_rfl
 exact h t (by simpa using Array.mem_of_getElem? ht)
theorem cardUpto : Rows.IndexLooksUptoCardSaid :=
 Claim7.holds_tied_plain_at .later [] _ _ _ _ JE (fun _ h => by cases h) (by kernel_rfl) (fun _ h => by cases h) indexLooksUpto_row_tie rfl ⟨rfl, rfl⟩ (by kernel_rfl) rfl plain (by kernel_rfl)
end Go.Proofs.YtnfeacnbgbggfaaGreatDoor.lawIndexLooks
end
