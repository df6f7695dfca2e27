import Derived.Test.YtnboooapeopjoaaGreatDoorJ13
open Go.Proofs.Tryz renaming prog→af
open List renaming mem_cons→cb,not_mem_nil→tv
open Option.some renaming inj→kN
set_option linter.all false
section
namespace Go.Proofs.YtnboooapeopjoaaGreatDoor.lawScopeAbsolute
open Go.ChangeShapes Go.WideShapes Go.ChangeAt Go.RowKit
def Lh:Array Value := #[.agg #[.string ⟨#[]⟩,.slice none 0 0,.slice none 0 0]]
def adO (H:Type):List (DataW H):=[.agg [.lit (.string []),.nil,.nil]]
theorem Qs (os:Os):laidMet af Rows.scopeAbsoluteUptoRow.laid ((xm os).forCall (fun _ _=>0) ⟨#[],Lh,[]⟩).memory :=
 laidMet_of_run' 8 (by kernel_rfl) (by kernel_rfl)
theorem reads (os:Os) {H:Type} (enc:TypeId×Value→H):∃ places,DataW.whole enc af ((xm os).forCall (fun _ _=>0) ⟨#[],Lh,[]⟩).memory Tryz.f4.params.toList Rows.scopeAbsoluteSpec.vars false Lh.toList 8=some (adO H,[],places) :=
 ⟨[],by kernel_rfl⟩
set_option maxRecDepth 100000 in
theorem Jo (os:Os) (started:os.Started) (H:Type) (enc:TypeId×Value→H) (F:Stop.Interp) :
  ReturnsInHanded {} Tryz.checked os 4 .any ((Rows.OpenSpec.upto Rows.scopeAbsoluteSpec).preRow enc af Tryz.f4 Rows.scopeAbsoluteUptoRow.domain false Rows.scopeAbsoluteUptoRow.laid) (((Rows.OpenSpec.upto Rows.scopeAbsoluteSpec).at F).post enc af Tryz.f4 false true false false):=by
 obtain⟨places,hx⟩:=reads os enc
 refine returnsInHanded_of_row (C:=Tryz.checked) (s:=Rows.OpenSpec.upto Rows.scopeAbsoluteSpec) own started (by kernel_rfl) Tryz.func4
  (witness_row_at (enc:=enc) (C:=Tryz.checked) false (xm os) Lh rfl (by kernel_rfl) (by kernel_rfl) (by kernel_rfl)
   (OpenSpec.preRow_of_cond 8 hx (by kernel_rfl) (fun k hk=>by cases hk; kernel_rfl) (by kernel_rfl) (Qs os))) ?_
 intro W base args ds gs before fU hW _ ru _ _ hS _;exact contract H enc W args ds gs before base fU hW (of_decide_eq_true (ru _ rfl)) hS
theorem jf0:(Rows.scopeAbsoluteUptoRow.wf (OpenSpec.ofChange (Rows.OpenSpec.upto Rows.scopeAbsoluteSpec).bare))=true:=by kernel_rfl
theorem jf1:(laidOutB Tryz.pinned.checked.prog)=true:=by kernel_rfl
theorem jf2:(mapsRowed Tryz.pinned.checked.prog)=true:=by kernel_rfl
theorem jf3:(Tryz.f4.params.all (Tryz.pinned.checked.prog.readableRec ·))=true:=by kernel_rfl
theorem jf4:(namedTie Tryz.pinned.checked.prog Rows.scopeAbsoluteUptoRow.named (Rows.OpenSpec.upto Rows.scopeAbsoluteSpec).bare.vars)=true:=by kernel_rfl
theorem jf5:((Rows.scopeAbsoluteUptoRow.stops==[]))=true:=by kernel_rfl
theorem jf6:((Tryz.pinned.checked.prog.stops==[]))=true:=by kernel_rfl
theorem jf7:((Rows.scopeAbsoluteUptoRow.knobs==[]))=true:=by kernel_rfl
theorem jf8:((Tryz.pinned.checked.prog.stopKnobs==[]))=true:=by kernel_rfl
theorem jf9:((Rows.scopeAbsoluteUptoRow.inPlace==Tryz.pinned.checked.prog.inPlace 4))=true:=by kernel_rfl
theorem ajd:((Rows.scopeAbsoluteUptoRow.unfollowed==Tryz.pinned.checked.prog.unfollowed 4))=true:=by kernel_rfl
theorem aje:((Rows.scopeAbsoluteUptoRow.recurses==Tryz.pinned.checked.prog.recurses 4))=true:=by kernel_rfl
theorem ajf:((Rows.scopeAbsoluteUptoRow.named==Tryz.pinned.checked.prog.varsNamed 4))=true:=by kernel_rfl
theorem ajg:((Rows.scopeAbsoluteUptoRow.maps==(Tryz.f4.params.toList++(Rows.OpenSpec.upto Rows.scopeAbsoluteSpec).bare.plain.varTypes Tryz.pinned.checked.prog).any (Tryz.pinned.checked.prog.mapsRec ·)))=true:=by kernel_rfl
theorem ajh:((Rows.scopeAbsoluteUptoRow.ifaces==(Tryz.f4.params.toList++(Rows.OpenSpec.upto Rows.scopeAbsoluteSpec).bare.plain.varTypes Tryz.pinned.checked.prog).any (Tryz.pinned.checked.prog.ifacesRec ·)))=true:=by kernel_rfl
theorem aji:((Rows.scopeAbsoluteUptoRow.mapsOut==Tryz.pinned.checked.prog.mapsAmong Tryz.f4.resultTypes.toList))=true:=by kernel_rfl
theorem ajj:((Rows.scopeAbsoluteUptoRow.loops==(Tryz.f4.params.toList++(Rows.OpenSpec.upto Rows.scopeAbsoluteSpec).bare.plain.varTypes Tryz.pinned.checked.prog).any (Tryz.pinned.checked.prog.loopsFrom ·)))=true:=by kernel_rfl
theorem ajk:((Rows.scopeAbsoluteUptoRow.wideKeys==(Tryz.f4.params.toList++(Rows.OpenSpec.upto Rows.scopeAbsoluteSpec).bare.plain.varTypes Tryz.pinned.checked.prog++Tryz.f4.resultTypes.toList).any (Tryz.pinned.checked.prog.wideKeysFrom ·)))=true:=by kernel_rfl
theorem ajl:((Rows.OpenSpec.upto Rows.scopeAbsoluteSpec).bare.vars.all (Tryz.pinned.checked.prog.varReadable ·))=true:=by kernel_rfl
theorem ajm:(Tryz.f4.resultTypes.all (fun t=>Tryz.pinned.checked.prog.readableRec t&&decide (t<Tryz.pinned.checked.prog.types.size)))=true:=by kernel_rfl
theorem ajn:((Rows.scopeAbsoluteUptoRow.ifacesOut==Tryz.f4.resultTypes.toList.any (Tryz.pinned.checked.prog.ifacesRec ·)))=true:=by kernel_rfl
theorem ajo:((Rows.scopeAbsoluteUptoRow.loopsOut==Tryz.f4.resultTypes.toList.any (Tryz.pinned.checked.prog.loopsFrom ·)))=true:=by kernel_rfl
theorem ajp:((Rows.scopeAbsoluteUptoRow.plainKeys==Tryz.pinned.checked.prog.plainKeys))=true:=by kernel_rfl
theorem ajq:(Rows.scopeAbsoluteUptoRow.shortTexts.isNone)=true:=by kernel_rfl
theorem ajr:(Tryz.pinned.checked.prog.stopsHeard)=true:=by kernel_rfl
theorem ajs:(Tryz.pinned.checked.prog.mayEnter)=true:=by kernel_rfl
theorem ajt:((Rows.scopeAbsoluteUptoRow.lifted==Tryz.pinned.checked.prog.liftsFinal))=true:=by kernel_rfl
theorem aju:((Tryz.pinned.checked.prog.make==some Rows.scopeAbsoluteUptoRow.make))=true:=by kernel_rfl
theorem ajv:((Rows.scopeAbsoluteUptoRow.kinds==(if Rows.scopeAbsoluteUptoRow.domain.isEmpty then [] else Tryz.f4.params.toList.map fun t=>match Tryz.pinned.checked.prog.underlying t with | some (.int k)=>some k | _=>none)))=true:=by kernel_rfl
theorem ajw:((Rows.scopeAbsoluteUptoRow.pinned==Rows.scopeAbsoluteUptoRow.pinnedBy))=true:=by kernel_rfl
theorem ajx:((Rows.scopeAbsoluteUptoRow.veiled==(Tryz.f4.params.toList++(Rows.OpenSpec.upto Rows.scopeAbsoluteSpec).bare.plain.varTypes Tryz.pinned.checked.prog++Tryz.f4.resultTypes.toList).any (Tryz.pinned.checked.prog.veiledRec ·)))=true:=by kernel_rfl
theorem ajy:(Rows.scopeAbsoluteUptoRow.veiledFits Tryz.pinned.checked.prog Tryz.f4.params.toList (Tryz.f4.params.toList++(Rows.OpenSpec.upto Rows.scopeAbsoluteSpec).bare.plain.varTypes Tryz.pinned.checked.prog++Tryz.f4.resultTypes.toList))=true:=by kernel_rfl
theorem lA {a b:Bool} (h1:a=true) (h2:b=true):(a&&b)=true:=by rw [h1,h2]; rfl
set_option maxRecDepth 100000 in
theorem Za:joinedFacts Tryz.pinned.checked.prog 4 Tryz.f4 (Rows.OpenSpec.upto Rows.scopeAbsoluteSpec).bare Rows.scopeAbsoluteUptoRow=true:=by unfold joinedFacts;exact lA (lA (lA (lA (lA (lA (lA (lA (lA (lA (lA (lA (lA (lA (lA (lA (lA (lA (lA (lA (lA (lA (lA (lA (lA (lA (lA (lA (lA (lA (lA (jf0) jf1) jf2) jf3) jf4) jf5) jf6) jf7) jf8) jf9) ajd) aje) ajf) ajg) ajh) aji) ajj) ajk) ajl) ajm) ajn) ajo) ajp) ajq) ajr) ajs) ajt) aju) ajv) ajw) ajx) ajy
theorem Qt:Rows.ScopeAbsoluteUptoSaid :=
 OpenClaim.holds_of_cond 4 Tryz.f4 rfl rfl rfl rfl rfl rfl rfl ⟨rfl,rfl,rfl,rfl,rfl⟩ rfl rfl rfl rfl rfl (by kernel_rfl) Tryz.func4 Za
  (of_decide_eq_true (by kernel_rfl)) (by unfold Func.isWrapper; first | (rw [if_pos (by decide +kernel)]; kernel_rfl) | (rw [if_neg (by decide +kernel)]; exact⟨rfl,rfl⟩))
  (fun os started H enc _ F=>by rw [OpenClaim.pre_eq_preRow]; exact Jo os started H enc F)
theorem plain (f:FuncId) (fn:Func) (hf:Tryz.pinned.checked.prog.funcNamed "modcert/modcertlaw10.ScopeAbsolute" = some f) (hfn:Tryz.pinned.checked.prog.funcs[f]?=some fn) :
  false=Tryz.pinned.checked.prog.looks []∧∀ (j:Nat) t,fn.params[j]?=some t→Tryz.pinned.checked.prog.wantsStandIn t=false:=by
 obtain rfl:f=4:=kN ((show af.funcNamed "modcert/modcertlaw10.ScopeAbsolute" = some 4 by kernel_rfl).symm.trans hf) |>.symm
 obtain rfl:fn=Tryz.f4:=(kN (Tryz.func4.symm.trans hfn)).symm;refine⟨by kernel_rfl,fun j t ht=>?_⟩;rw [Tryz.params4] at ht;have h:∀ t∈[25],af.wantsStandIn t=false:=by intro t ht;simp only [cb,tv,or_false] at ht;subst ht; kernel_rfl
 exact h t (by simpa using Array.mem_of_getElem? ht)
theorem cardUpto:Rows.ScopeAbsoluteUptoCardSaid :=
 Claim7.holds_tied_plain_at .later [] _ _ _ _ Qt (fun _ h=>by cases h) (by kernel_rfl) (fun _ h=>by cases h) scopeAbsoluteUpto_row_tie rfl ⟨rfl,rfl⟩ (by kernel_rfl) rfl plain (by kernel_rfl)
end Go.Proofs.YtnboooapeopjoaaGreatDoor.lawScopeAbsolute
end
