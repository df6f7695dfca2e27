/-
  THE LAW IndexManifests, C: the statement and its card.
-/
import Derived.Test.YtnfeacnbgbggfaaGreatDoorO7
set_option linter.all false
section
namespace Go.Proofs.YtnfeacnbgbggfaaGreatDoor.lawIndexManifests
open Go.ChangeShapes Go.WideShapes Go.ChangeAt Go.RowKit
def Ed : Array Value := #[Xf, .string ⟨#[]⟩]
def T7 (H : Type) : List (DataW H) := [Xh H, .lit (.string [])]
theorem Jy (os : Os) : laidMet Tryz.prog Rows.indexManifestsUptoRow.laid ((qv os).forCall (fun _ _ => 0) ⟨#[], Ed, []⟩).memory :=
 laidMet_of_run' 8 (by kernel_rfl) (by kernel_rfl)
theorem reads (os : Os) {H : Type} (enc : TypeId × Value → H) : ∃ places, DataW.whole enc Tryz.prog ((qv os).forCall (fun _ _ => 0) ⟨#[], Ed, []⟩).memory Tryz.f4.params.toList Rows.indexManifestsSpec.vars false Ed.toList 8 = some (T7 H, [], places) :=
 ⟨[], by kernel_rfl⟩
set_option maxRecDepth 100000 in
theorem CP (os : Os) (started : os.Started) (H : Type) (enc : TypeId × Value → H) (F : Stop.Interp) :
  ReturnsInHanded {} Tryz.checked os 4 .any ((Rows.OpenSpec.upto Rows.indexManifestsSpec).preRow enc Tryz.prog Tryz.f4 Rows.indexManifestsUptoRow.domain false Rows.indexManifestsUptoRow.laid) (((Rows.OpenSpec.upto Rows.indexManifestsSpec).at F).post enc Tryz.prog Tryz.f4 false true false false) := by
 obtain ⟨places, hx⟩ := reads os enc
 refine returnsInHanded_of_row (C := Tryz.checked) (s := Rows.OpenSpec.upto Rows.indexManifestsSpec) own started (by kernel_rfl) Tryz.func4
  (witness_row_at (enc := enc) (C := Tryz.checked) false (qv os) Ed rfl (by kernel_rfl) (by kernel_rfl) (by kernel_rfl)
   (OpenSpec.preRow_of_cond 8 hx (by kernel_rfl) (fun k hk => by cases hk; kernel_rfl) (by kernel_rfl) (Jy os))) ?_
 intro W base args ds gs before bB hW _ oo _ _ hS _
 exact contract H enc W args ds gs before base bB hW (of_decide_eq_true (oo _ rfl)) hS
theorem Jz : Rows.IndexManifestsUptoSaid :=
 OpenClaim.holds_of_cond 4 Tryz.f4 rfl rfl rfl rfl rfl rfl rfl ⟨rfl, rfl, rfl, rfl, rfl⟩ rfl rfl rfl rfl rfl (by kernel_rfl) Tryz.func4 (by kernel_rfl)
  (of_decide_eq_true (by kernel_rfl)) (by unfold Func.isWrapper; first | (rw [if_pos (by decide +kernel)]; kernel_rfl) | (rw [if_neg (by decide +kernel)]; exact ⟨rfl, rfl⟩))
  (fun os started H enc _ F => by rw [OpenClaim.pre_eq_preRow]; exact CP os started H enc F)
theorem plain (f : FuncId) (fn : Func) (hf : Tryz.pinned.checked.prog.funcNamed "modcert/modcertlaw32.IndexManifests" = some f) (Ui : Tryz.pinned.checked.prog.funcs[f]? = some fn) :
  false = Tryz.pinned.checked.prog.looks [] ∧ ∀ (j : Nat) t, fn.params[j]? = some t → Tryz.pinned.checked.prog.wantsStandIn t = false := by
 obtain rfl : f = 4 := Option.some.inj ((show Tryz.prog.funcNamed "modcert/modcertlaw32.IndexManifests" = some 4 by kernel_rfl).symm.trans hf) |>.symm
 obtain rfl : fn = Tryz.f4 := (Option.some.inj (Tryz.func4.symm.trans Ui)).symm
 refine ⟨by kernel_rfl, fun j t ht => ?_⟩
 rw [Tryz.params4] at ht
 have h : ∀ t ∈ [40,9], Tryz.prog.wantsStandIn t = false := by
  intro t ht
  simp only [List.mem_cons,List.not_mem_nil,or_false] at ht
  rcases ht with rfl | rfl <;> kernel_rfl
 exact h t (by simpa using Array.mem_of_getElem? ht)
theorem cardUpto : Rows.IndexManifestsUptoCardSaid :=
 Claim7.holds_tied_plain_at .later [] _ _ _ _ Jz (fun _ h => by cases h) (by kernel_rfl) (fun _ h => by cases h) indexManifestsUpto_row_tie rfl ⟨rfl, rfl⟩ (by kernel_rfl) rfl plain (by kernel_rfl)
end Go.Proofs.YtnfeacnbgbggfaaGreatDoor.lawIndexManifests
end
