/-
  THE LAW ScopeOrder, C: the statement and its card.
-/
import Derived.Test.YtnboooapeopjoaaGreatDoorJ11
set_option linter.all false
section
namespace Go.Proofs.YtnboooapeopjoaaGreatDoor.lawScopeOrder
open Go.ChangeShapes Go.WideShapes Go.ChangeAt Go.RowKit
def EY : Array Value := #[.bool false, .string ⟨#[]⟩, .string ⟨#[]⟩]
def XM (H : Type) : List (DataW H) := [.lit (.bool false), .lit (.string []), .lit (.string [])]
theorem Lg (os : Os) : laidMet Tryz.prog Rows.scopeOrderUptoRow.laid ((sm os).forCall (fun _ _ => 0) ⟨#[], EY, []⟩).memory :=
 laidMet_of_run' 8 (by kernel_rfl) (by kernel_rfl)
theorem reads (os : Os) {H : Type} (enc : TypeId × Value → H) : ∃ places, DataW.whole enc Tryz.prog ((sm os).forCall (fun _ _ => 0) ⟨#[], EY, []⟩).memory Tryz.f6.params.toList Rows.scopeOrderSpec.vars false EY.toList 8 = some (XM H, [], places) :=
 ⟨[], by kernel_rfl⟩
set_option maxRecDepth 100000 in
theorem D0 (os : Os) (started : os.Started) (H : Type) (enc : TypeId × Value → H) (F : Stop.Interp) :
  ReturnsInHanded {} Tryz.checked os 6 .any ((Rows.OpenSpec.upto Rows.scopeOrderSpec).preRow enc Tryz.prog Tryz.f6 Rows.scopeOrderUptoRow.domain false Rows.scopeOrderUptoRow.laid) (((Rows.OpenSpec.upto Rows.scopeOrderSpec).at F).post enc Tryz.prog Tryz.f6 false true false false) := by
 obtain ⟨places, hx⟩ := reads os enc
 refine returnsInHanded_of_row (C := Tryz.checked) (s := Rows.OpenSpec.upto Rows.scopeOrderSpec) own started (by kernel_rfl) Tryz.func6
  (witness_row_at (enc := enc) (C := Tryz.checked) false (sm os) EY rfl (by kernel_rfl) (by kernel_rfl) (by kernel_rfl)
   (OpenSpec.preRow_of_cond 8 hx (by kernel_rfl) (fun k hk => by cases hk; kernel_rfl) (by kernel_rfl) (Lg os))) ?_
 intro W base args ds gs before dx hW _ mZ _ _ hS _
 exact contract H enc W args ds gs before base dx hW (of_decide_eq_true (mZ _ rfl)) hS
theorem jf0 : (Rows.scopeOrderUptoRow.wf (OpenSpec.ofChange (Rows.OpenSpec.upto Rows.scopeOrderSpec).bare)) = true := by kernel_rfl
theorem jf1 : (laidOutB Tryz.pinned.checked.prog) = true := by kernel_rfl
theorem jf2 : (mapsRowed Tryz.pinned.checked.prog) = true := by kernel_rfl
theorem jf3 : (Tryz.f6.params.all (Tryz.pinned.checked.prog.readableRec ·)) = true := by kernel_rfl
theorem jf4 : (namedTie Tryz.pinned.checked.prog Rows.scopeOrderUptoRow.named (Rows.OpenSpec.upto Rows.scopeOrderSpec).bare.vars) = true := by kernel_rfl
theorem jf5 : ((Rows.scopeOrderUptoRow.stops == [])) = true := by kernel_rfl
theorem jf6 : ((Tryz.pinned.checked.prog.stops == [])) = true := by kernel_rfl
theorem jf7 : ((Rows.scopeOrderUptoRow.knobs == [])) = true := by kernel_rfl
theorem jf8 : ((Tryz.pinned.checked.prog.stopKnobs == [])) = true := by kernel_rfl
theorem jf9 : ((Rows.scopeOrderUptoRow.inPlace == Tryz.pinned.checked.prog.inPlace 6)) = true := by kernel_rfl
theorem ab1 : ((Rows.scopeOrderUptoRow.unfollowed == Tryz.pinned.checked.prog.unfollowed 6)) = true := by kernel_rfl
theorem ab2 : ((Rows.scopeOrderUptoRow.recurses == Tryz.pinned.checked.prog.recurses 6)) = true := by kernel_rfl
theorem ab3 : ((Rows.scopeOrderUptoRow.named == Tryz.pinned.checked.prog.varsNamed 6)) = true := by kernel_rfl
theorem ab4 : ((Rows.scopeOrderUptoRow.maps == (Tryz.f6.params.toList ++ (Rows.OpenSpec.upto Rows.scopeOrderSpec).bare.plain.varTypes Tryz.pinned.checked.prog).any (Tryz.pinned.checked.prog.mapsRec ·))) = true := by kernel_rfl
theorem ab5 : ((Rows.scopeOrderUptoRow.ifaces == (Tryz.f6.params.toList ++ (Rows.OpenSpec.upto Rows.scopeOrderSpec).bare.plain.varTypes Tryz.pinned.checked.prog).any (Tryz.pinned.checked.prog.ifacesRec ·))) = true := by kernel_rfl
theorem ab6 : ((Rows.scopeOrderUptoRow.mapsOut == Tryz.pinned.checked.prog.mapsAmong Tryz.f6.resultTypes.toList)) = true := by kernel_rfl
theorem ab7 : ((Rows.scopeOrderUptoRow.loops == (Tryz.f6.params.toList ++ (Rows.OpenSpec.upto Rows.scopeOrderSpec).bare.plain.varTypes Tryz.pinned.checked.prog).any (Tryz.pinned.checked.prog.loopsFrom ·))) = true := by kernel_rfl
theorem ab8 : ((Rows.scopeOrderUptoRow.wideKeys == (Tryz.f6.params.toList ++ (Rows.OpenSpec.upto Rows.scopeOrderSpec).bare.plain.varTypes Tryz.pinned.checked.prog ++ Tryz.f6.resultTypes.toList).any (Tryz.pinned.checked.prog.wideKeysFrom ·))) = true := by kernel_rfl
theorem ab9 : ((Rows.OpenSpec.upto Rows.scopeOrderSpec).bare.vars.all (Tryz.pinned.checked.prog.varReadable ·)) = true := by kernel_rfl
theorem aca : (Tryz.f6.resultTypes.all (fun t => Tryz.pinned.checked.prog.readableRec t && decide (t < Tryz.pinned.checked.prog.types.size))) = true := by kernel_rfl
theorem acb : ((Rows.scopeOrderUptoRow.ifacesOut == Tryz.f6.resultTypes.toList.any (Tryz.pinned.checked.prog.ifacesRec ·))) = true := by kernel_rfl
theorem acd : ((Rows.scopeOrderUptoRow.loopsOut == Tryz.f6.resultTypes.toList.any (Tryz.pinned.checked.prog.loopsFrom ·))) = true := by kernel_rfl
theorem ace : ((Rows.scopeOrderUptoRow.plainKeys == Tryz.pinned.checked.prog.plainKeys)) = true := by kernel_rfl
theorem acf : (Rows.scopeOrderUptoRow.shortTexts.isNone) = true := by kernel_rfl
theorem acg : (Tryz.pinned.checked.prog.stopsHeard) = true := by kernel_rfl
theorem ach : (Tryz.pinned.checked.prog.mayEnter) = true := by kernel_rfl
theorem aci : ((Rows.scopeOrderUptoRow.lifted == Tryz.pinned.checked.prog.liftsFinal)) = true := by kernel_rfl
theorem acj : ((Tryz.pinned.checked.prog.make == some Rows.scopeOrderUptoRow.make)) = true := by kernel_rfl
theorem ack : ((Rows.scopeOrderUptoRow.kinds == (if Rows.scopeOrderUptoRow.domain.isEmpty then [] else Tryz.f6.params.toList.map fun t => match Tryz.pinned.checked.prog.underlying t with | some (.int k) => some k | _ => none))) = true := by kernel_rfl
theorem acm : ((Rows.scopeOrderUptoRow.pinned == Rows.scopeOrderUptoRow.pinnedBy)) = true := by kernel_rfl
theorem acn : ((Rows.scopeOrderUptoRow.veiled == (Tryz.f6.params.toList ++ (Rows.OpenSpec.upto Rows.scopeOrderSpec).bare.plain.varTypes Tryz.pinned.checked.prog ++ Tryz.f6.resultTypes.toList).any (Tryz.pinned.checked.prog.veiledRec ·))) = true := by kernel_rfl
theorem aco : (Rows.scopeOrderUptoRow.veiledFits Tryz.pinned.checked.prog Tryz.f6.params.toList (Tryz.f6.params.toList ++ (Rows.OpenSpec.upto Rows.scopeOrderSpec).bare.plain.varTypes Tryz.pinned.checked.prog ++ Tryz.f6.resultTypes.toList)) = true := by kernel_rfl
theorem ia {a b : Bool} (h1 : a = true) (h2 : b = true) : (a && b) = true := by rw [h1, h2]; rfl
set_option maxRecDepth 100000 in
theorem R0 : joinedFacts Tryz.pinned.checked.prog 6 Tryz.f6 (Rows.OpenSpec.upto Rows.scopeOrderSpec).bare Rows.scopeOrderUptoRow = true := by
 unfold joinedFacts
 exact ia (ia (ia (ia (ia (ia (ia (ia (ia (ia (ia (ia (ia (ia (ia (ia (ia (ia (ia (ia (ia (ia (ia (ia (ia (ia (ia (ia (ia (ia (ia (jf0) jf1) jf2) jf3) jf4) jf5) jf6) jf7) jf8) jf9) ab1) ab2) ab3) ab4) ab5) ab6) ab7) ab8) ab9) aca) acb) acd) ace) acf) acg) ach) aci) acj) ack) acm) acn) aco
theorem Lh : Rows.ScopeOrderUptoSaid :=
 OpenClaim.holds_of_cond 6 Tryz.f6 rfl rfl rfl rfl rfl rfl rfl ⟨rfl, rfl, rfl, rfl, rfl⟩ rfl rfl rfl rfl rfl (by kernel_rfl) Tryz.func6 R0
  (of_decide_eq_true (by kernel_rfl)) (by unfold Func.isWrapper; first | (rw [if_pos (by decide +kernel)]; kernel_rfl) | (rw [if_neg (by decide +kernel)]; exact ⟨rfl, rfl⟩))
  (fun os started H enc _ F => by rw [OpenClaim.pre_eq_preRow]; exact D0 os started H enc F)
theorem plain (f : FuncId) (fn : Func) (hf : Tryz.pinned.checked.prog.funcNamed "modcert/modcertlaw10.ScopeOrder" = some f) (R9 : Tryz.pinned.checked.prog.funcs[f]? = some fn) :
  false = Tryz.pinned.checked.prog.looks [] ∧ ∀ (j : Nat) t, fn.params[j]? = some t → Tryz.pinned.checked.prog.wantsStandIn t = false := by
 obtain rfl : f = 6 := Option.some.inj ((show Tryz.prog.funcNamed "modcert/modcertlaw10.ScopeOrder" = some 6 by kernel_rfl).symm.trans hf) |>.symm
 obtain rfl : fn = Tryz.f6 := (Option.some.inj (Tryz.func6.symm.trans R9)).symm
 refine ⟨by kernel_rfl, fun j t ht => ?_⟩
 rw [Tryz.params6] at ht
 have h : ∀ t ∈ [4,9,9], Tryz.prog.wantsStandIn t = false := by
  intro t ht
  simp only [List.mem_cons,List.not_mem_nil,or_false] at ht
  rcases ht with rfl | rfl | rfl <;> kernel_rfl
 exact h t (by simpa using Array.mem_of_getElem? ht)
theorem cardUpto : Rows.ScopeOrderUptoCardSaid :=
 Claim7.holds_tied_plain_at .later [] _ _ _ _ Lh (fun _ h => by cases h) (by kernel_rfl) (fun _ h => by cases h) scopeOrderUpto_row_tie rfl ⟨rfl, rfl⟩ (by kernel_rfl) rfl plain (by kernel_rfl)
end Go.Proofs.YtnboooapeopjoaaGreatDoor.lawScopeOrder
end
