/-
  THE LAW IndexReaches, C: the statement and its card.
-/
import Derived.Test.YtnfeacnbgbggfaaGreatDoorU7
set_option linter.all false
section
namespace Go.Proofs.YtnfeacnbgbggfaaGreatDoor.lawIndexReaches
open Go.ChangeShapes Go.WideShapes Go.ChangeAt Go.RowKit
def Dh : Array Value := #[ZU, .slice none 0 0, .slice none 0 0]
def Ty (H : Type) : List (DataW H) := [ZV H, .nil, .nil]
theorem IC (os : Os) : laidMet Tryz.prog Rows.indexReachesUptoRow.laid ((qa os).forCall (fun _ _ => 0) ⟨#[], Dh, []⟩).memory :=
 laidMet_of_run' 8 (by kernel_rfl) (by kernel_rfl)
theorem reads (os : Os) {H : Type} (enc : TypeId × Value → H) : ∃ places, DataW.whole enc Tryz.prog ((qa os).forCall (fun _ _ => 0) ⟨#[], Dh, []⟩).memory Tryz.f3.params.toList Rows.indexReachesSpec.vars false Dh.toList 8 = some (Ty H, [], places) :=
 ⟨[], by kernel_rfl⟩
set_option maxRecDepth 100000 in
theorem BM (os : Os) (started : os.Started) (H : Type) (enc : TypeId × Value → H) (F : Stop.Interp) :
  ReturnsInHanded {} Tryz.checked os 3 .any ((Rows.OpenSpec.upto Rows.indexReachesSpec).preRow enc Tryz.prog Tryz.f3 Rows.indexReachesUptoRow.domain false Rows.indexReachesUptoRow.laid) (((Rows.OpenSpec.upto Rows.indexReachesSpec).at F).post enc Tryz.prog Tryz.f3 false true false false) := by
 obtain ⟨places, hx⟩ := reads os enc
 refine returnsInHanded_of_row (C := Tryz.checked) (s := Rows.OpenSpec.upto Rows.indexReachesSpec) own started (by kernel_rfl) Tryz.func3
  (witness_row_at (enc := enc) (C := Tryz.checked) false (qa os) Dh rfl (by kernel_rfl) (by kernel_rfl) (by kernel_rfl)
   (OpenSpec.preRow_of_cond 8 hx (by kernel_rfl) (fun k hk => by cases hk; kernel_rfl) (by kernel_rfl) (IC os))) ?_
 intro W base args ds gs before bK hW _ ob _ _ hS _
 exact contract H enc W args ds gs before base bK hW (of_decide_eq_true (ob _ rfl)) hS
theorem ID : Rows.IndexReachesUptoSaid :=
 OpenClaim.holds_of_cond 3 Tryz.f3 rfl rfl rfl rfl rfl rfl rfl ⟨rfl, rfl, rfl, rfl, rfl⟩ rfl rfl rfl rfl rfl (by kernel_rfl) Tryz.func3 (by kernel_rfl)
  (of_decide_eq_true (by kernel_rfl)) (by unfold Func.isWrapper; first | (rw [if_pos (by decide +kernel)]; kernel_rfl) | (rw [if_neg (by decide +kernel)]; exact ⟨rfl, rfl⟩))
  (fun os started H enc _ F => by rw [OpenClaim.pre_eq_preRow]; exact BM os started H enc F)
theorem plain (f : FuncId) (fn : Func) (hf : Tryz.pinned.checked.prog.funcNamed "modcert/modcertlaw32.IndexReaches" = some f) (IJ : Tryz.pinned.checked.prog.funcs[f]? = some fn) :
  false = Tryz.pinned.checked.prog.looks [] ∧ ∀ (j : Nat) t, fn.params[j]? = some t → Tryz.pinned.checked.prog.wantsStandIn t = false := by
 obtain rfl : f = 3 := Option.some.inj ((show Tryz.prog.funcNamed "modcert/modcertlaw32.IndexReaches" = some 3 by kernel_rfl).symm.trans hf) |>.symm
 obtain rfl : fn = Tryz.f3 := (Option.some.inj (Tryz.func3.symm.trans IJ)).symm
 refine ⟨by kernel_rfl, fun j t ht => ?_⟩
 rw [Tryz.params3] at ht
 have h : ∀ t ∈ [25,26,27], Tryz.prog.wantsStandIn t = false := by
  intro t ht
  simp only [List.mem_cons,List.not_mem_nil,or_false] at ht
  rcases ht with rfl | rfl | rfl <;> kernel_rfl
 exact h t (by simpa using Array.mem_of_getElem? ht)
theorem cardUpto : Rows.IndexReachesUptoCardSaid :=
 Claim7.holds_tied_plain_at .later [] _ _ _ _ ID (fun _ h => by cases h) (by kernel_rfl) (fun _ h => by cases h) indexReachesUpto_row_tie rfl ⟨rfl, rfl⟩ (by kernel_rfl) rfl plain (by kernel_rfl)
end Go.Proofs.YtnfeacnbgbggfaaGreatDoor.lawIndexReaches
end
