import Derived.Test.YtnboooapeopjoaaGreatDoorJ12
open Go.Proofs.Tryz renaming prog→ab
open List renaming mem_cons→cp,not_mem_nil→nG
open Option.some renaming inj→tu
set_option linter.all false
section
namespace Go.Proofs.YtnboooapeopjoaaGreatDoor.lawScopeAliases
open Go.ChangeShapes Go.WideShapes Go.ChangeAt Go.RowKit
def JJ:Array Value := #[.agg #[.string ⟨#[]⟩,.slice none 0 0,.slice none 0 0]]
def aeo (H:Type):List (DataW H):=[.agg [.lit (.string []),.nil,.nil]]
theorem Qu (os:Os):laidMet ab Rows.scopeAliasesUptoRow.laid ((wj os).forCall (fun _ _=>0) ⟨#[],JJ,[]⟩).memory :=
 laidMet_of_run' 8 (by kernel_rfl) (by kernel_rfl)
theorem reads (os:Os) {H:Type} (enc:TypeId×Value→H):∃ places,DataW.whole enc ab ((wj os).forCall (fun _ _=>0) ⟨#[],JJ,[]⟩).memory Tryz.f5.params.toList Rows.scopeAliasesSpec.vars false JJ.toList 8=some (aeo H,[],places) :=
 ⟨[],by kernel_rfl⟩
set_option maxRecDepth 100000 in
theorem Is (os:Os) (started:os.Started) (H:Type) (enc:TypeId×Value→H) (F:Stop.Interp) :
  ReturnsInHanded {} Tryz.checked os 5 .any ((Rows.OpenSpec.upto Rows.scopeAliasesSpec).preRow enc ab Tryz.f5 Rows.scopeAliasesUptoRow.domain false Rows.scopeAliasesUptoRow.laid) (((Rows.OpenSpec.upto Rows.scopeAliasesSpec).at F).post enc ab Tryz.f5 false true false false):=by
 obtain⟨places,hx⟩:=reads os enc
 refine returnsInHanded_of_row (C:=Tryz.checked) (s:=Rows.OpenSpec.upto Rows.scopeAliasesSpec) own started (by kernel_rfl) Tryz.func5
  (witness_row_at (enc:=enc) (C:=Tryz.checked) false (wj os) JJ rfl (by kernel_rfl) (by kernel_rfl) (by kernel_rfl)
   (OpenSpec.preRow_of_cond 8 hx (by kernel_rfl) (fun k hk=>by cases hk; kernel_rfl) (by kernel_rfl) (Qu os))) ?_
 intro W base args ds gs before gh hW _ qi _ _ hS _;exact contract H enc W args ds gs before base gh hW (of_decide_eq_true (qi _ rfl)) hS
theorem jf0:(Rows.scopeAliasesUptoRow.wf (OpenSpec.ofChange (Rows.OpenSpec.upto Rows.scopeAliasesSpec).bare))=true:=by kernel_rfl
theorem jf1:(laidOutB Tryz.pinned.checked.prog)=true:=by kernel_rfl
theorem jf2:(mapsRowed Tryz.pinned.checked.prog)=true:=by kernel_rfl
theorem jf3:(Tryz.f5.params.all (Tryz.pinned.checked.prog.readableRec ·))=true:=by kernel_rfl
theorem jf4:(namedTie Tryz.pinned.checked.prog Rows.scopeAliasesUptoRow.named (Rows.OpenSpec.upto Rows.scopeAliasesSpec).bare.vars)=true:=by kernel_rfl
theorem jf5:((Rows.scopeAliasesUptoRow.stops==[]))=true:=by kernel_rfl
theorem jf6:((Tryz.pinned.checked.prog.stops==[]))=true:=by kernel_rfl
theorem jf7:((Rows.scopeAliasesUptoRow.knobs==[]))=true:=by kernel_rfl
theorem jf8:((Tryz.pinned.checked.prog.stopKnobs==[]))=true:=by kernel_rfl
theorem jf9:((Rows.scopeAliasesUptoRow.inPlace==Tryz.pinned.checked.prog.inPlace 5))=true:=by kernel_rfl
theorem aix:((Rows.scopeAliasesUptoRow.unfollowed==Tryz.pinned.checked.prog.unfollowed 5))=true:=by kernel_rfl
theorem aiy:((Rows.scopeAliasesUptoRow.recurses==Tryz.pinned.checked.prog.recurses 5))=true:=by kernel_rfl
theorem aiz:((Rows.scopeAliasesUptoRow.named==Tryz.pinned.checked.prog.varsNamed 5))=true:=by kernel_rfl
theorem aiA:((Rows.scopeAliasesUptoRow.maps==(Tryz.f5.params.toList++(Rows.OpenSpec.upto Rows.scopeAliasesSpec).bare.plain.varTypes Tryz.pinned.checked.prog).any (Tryz.pinned.checked.prog.mapsRec ·)))=true:=by kernel_rfl
theorem aiB:((Rows.scopeAliasesUptoRow.ifaces==(Tryz.f5.params.toList++(Rows.OpenSpec.upto Rows.scopeAliasesSpec).bare.plain.varTypes Tryz.pinned.checked.prog).any (Tryz.pinned.checked.prog.ifacesRec ·)))=true:=by kernel_rfl
theorem aiC:((Rows.scopeAliasesUptoRow.mapsOut==Tryz.pinned.checked.prog.mapsAmong Tryz.f5.resultTypes.toList))=true:=by kernel_rfl
theorem aiD:((Rows.scopeAliasesUptoRow.loops==(Tryz.f5.params.toList++(Rows.OpenSpec.upto Rows.scopeAliasesSpec).bare.plain.varTypes Tryz.pinned.checked.prog).any (Tryz.pinned.checked.prog.loopsFrom ·)))=true:=by kernel_rfl
theorem aiE:((Rows.scopeAliasesUptoRow.wideKeys==(Tryz.f5.params.toList++(Rows.OpenSpec.upto Rows.scopeAliasesSpec).bare.plain.varTypes Tryz.pinned.checked.prog++Tryz.f5.resultTypes.toList).any (Tryz.pinned.checked.prog.wideKeysFrom ·)))=true:=by kernel_rfl
theorem aiF:((Rows.OpenSpec.upto Rows.scopeAliasesSpec).bare.vars.all (Tryz.pinned.checked.prog.varReadable ·))=true:=by kernel_rfl
theorem aiG:(Tryz.f5.resultTypes.all (fun t=>Tryz.pinned.checked.prog.readableRec t&&decide (t<Tryz.pinned.checked.prog.types.size)))=true:=by kernel_rfl
theorem aiH:((Rows.scopeAliasesUptoRow.ifacesOut==Tryz.f5.resultTypes.toList.any (Tryz.pinned.checked.prog.ifacesRec ·)))=true:=by kernel_rfl
theorem aiI:((Rows.scopeAliasesUptoRow.loopsOut==Tryz.f5.resultTypes.toList.any (Tryz.pinned.checked.prog.loopsFrom ·)))=true:=by kernel_rfl
theorem aiJ:((Rows.scopeAliasesUptoRow.plainKeys==Tryz.pinned.checked.prog.plainKeys))=true:=by kernel_rfl
theorem aiK:(Rows.scopeAliasesUptoRow.shortTexts.isNone)=true:=by kernel_rfl
theorem aiL:(Tryz.pinned.checked.prog.stopsHeard)=true:=by kernel_rfl
theorem aiM:(Tryz.pinned.checked.prog.mayEnter)=true:=by kernel_rfl
theorem aiN:((Rows.scopeAliasesUptoRow.lifted==Tryz.pinned.checked.prog.liftsFinal))=true:=by kernel_rfl
theorem aiO:((Tryz.pinned.checked.prog.make==some Rows.scopeAliasesUptoRow.make))=true:=by kernel_rfl
theorem aiP:((Rows.scopeAliasesUptoRow.kinds==(if Rows.scopeAliasesUptoRow.domain.isEmpty then [] else Tryz.f5.params.toList.map fun t=>match Tryz.pinned.checked.prog.underlying t with | some (.int k)=>some k | _=>none)))=true:=by kernel_rfl
theorem aiQ:((Rows.scopeAliasesUptoRow.pinned==Rows.scopeAliasesUptoRow.pinnedBy))=true:=by kernel_rfl
theorem aiR:((Rows.scopeAliasesUptoRow.veiled==(Tryz.f5.params.toList++(Rows.OpenSpec.upto Rows.scopeAliasesSpec).bare.plain.varTypes Tryz.pinned.checked.prog++Tryz.f5.resultTypes.toList).any (Tryz.pinned.checked.prog.veiledRec ·)))=true:=by kernel_rfl
theorem aiS:(Rows.scopeAliasesUptoRow.veiledFits Tryz.pinned.checked.prog Tryz.f5.params.toList (Tryz.f5.params.toList++(Rows.OpenSpec.upto Rows.scopeAliasesSpec).bare.plain.varTypes Tryz.pinned.checked.prog++Tryz.f5.resultTypes.toList))=true:=by kernel_rfl
theorem kI {a b:Bool} (h1:a=true) (h2:b=true):(a&&b)=true:=by rw [h1,h2]; rfl
set_option maxRecDepth 100000 in
theorem Yw:joinedFacts Tryz.pinned.checked.prog 5 Tryz.f5 (Rows.OpenSpec.upto Rows.scopeAliasesSpec).bare Rows.scopeAliasesUptoRow=true:=by unfold joinedFacts;exact kI (kI (kI (kI (kI (kI (kI (kI (kI (kI (kI (kI (kI (kI (kI (kI (kI (kI (kI (kI (kI (kI (kI (kI (kI (kI (kI (kI (kI (kI (kI (jf0) jf1) jf2) jf3) jf4) jf5) jf6) jf7) jf8) jf9) aix) aiy) aiz) aiA) aiB) aiC) aiD) aiE) aiF) aiG) aiH) aiI) aiJ) aiK) aiL) aiM) aiN) aiO) aiP) aiQ) aiR) aiS
theorem Qv:Rows.ScopeAliasesUptoSaid :=
 OpenClaim.holds_of_cond 5 Tryz.f5 rfl rfl rfl rfl rfl rfl rfl ⟨rfl,rfl,rfl,rfl,rfl⟩ rfl rfl rfl rfl rfl (by kernel_rfl) Tryz.func5 Yw
  (of_decide_eq_true (by kernel_rfl)) (by unfold Func.isWrapper; first | (rw [if_pos (by decide +kernel)]; kernel_rfl) | (rw [if_neg (by decide +kernel)]; exact⟨rfl,rfl⟩))
  (fun os started H enc _ F=>by rw [OpenClaim.pre_eq_preRow]; exact Is os started H enc F)
theorem plain (f:FuncId) (fn:Func) (hf:Tryz.pinned.checked.prog.funcNamed "modcert/modcertlaw10.ScopeAliases" = some f) (YF:Tryz.pinned.checked.prog.funcs[f]?=some fn) :
  false=Tryz.pinned.checked.prog.looks []∧∀ (j:Nat) t,fn.params[j]?=some t→Tryz.pinned.checked.prog.wantsStandIn t=false:=by
 obtain rfl:f=5:=tu ((show ab.funcNamed "modcert/modcertlaw10.ScopeAliases" = some 5 by kernel_rfl).symm.trans hf) |>.symm
 obtain rfl:fn=Tryz.f5:=(tu (Tryz.func5.symm.trans YF)).symm;refine⟨by kernel_rfl,fun j t ht=>?_⟩;rw [Tryz.params5] at ht;have h:∀ t∈[25],ab.wantsStandIn t=false:=by intro t ht;simp only [cp,nG,or_false] at ht;subst ht; kernel_rfl
 exact h t (by simpa using Array.mem_of_getElem? ht)
theorem cardUpto:Rows.ScopeAliasesUptoCardSaid :=
 Claim7.holds_tied_plain_at .later [] _ _ _ _ Qv (fun _ h=>by cases h) (by kernel_rfl) (fun _ h=>by cases h) scopeAliasesUpto_row_tie rfl ⟨rfl,rfl⟩ (by kernel_rfl) rfl plain (by kernel_rfl)
end Go.Proofs.YtnboooapeopjoaaGreatDoor.lawScopeAliases
end
