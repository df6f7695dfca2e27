import Derived.Test.YtfbbfmcggbapoaaGreatDoorJ8
open Go.Proofs.Tryz renaming prog→aj
open List renaming mem_cons→cI,not_mem_nil→iM
open Option.some renaming inj→mB
set_option linter.all false
section
namespace Go.Proofs.YtfbbfmcggbapoaaGreatDoor.lawPrinterRefuses
open Go.ChangeShapes Go.WideShapes Go.ChangeAt Go.RowKit
def Mm:Array Value := #[.agg #[.int .i64 0,.string ⟨#[]⟩,.string ⟨#[]⟩,.slice none 0 0,.slice none 0 0],.agg #[.int .i64 0,.string ⟨#[]⟩,.string ⟨#[]⟩,.string ⟨#[]⟩,.int .i64 0,.slice none 0 0,.slice none 0 0,.slice none 0 0]]
def ahh (H:Type):List (DataW H):=[.agg [.lit (.int .i64 0),.lit (.string []),.lit (.string []),.nil,.nil],.agg [.lit (.int .i64 0),.lit (.string []),.lit (.string []),.lit (.string []),.lit (.int .i64 0),.nil,.nil,.nil]]
theorem Tc (os:Os):laidMet aj Rows.printerRefusesUptoRow.laid ((yb os).forCall (fun _ _=>0) ⟨#[],Mm,[]⟩).memory :=
 laidMet_of_run' 8 kr kr
theorem reads (os:Os) {H:Type} (enc:TypeId×Value→H):∃ places,DataW.whole enc aj ((yb os).forCall (fun _ _=>0) ⟨#[],Mm,[]⟩).memory Tryz.f8.params.toList Rows.printerRefusesSpec.vars false Mm.toList 8=some (ahh H,[],places) :=
 ⟨[],kr⟩
set_option maxRecDepth 100000 in
theorem KX (os:Os) (started:os.Started) (H:Type) (enc:TypeId×Value→H) (F:Stop.Interp) :
  ReturnsInHanded {} Tryz.checked os 8 .any ((Rows.OpenSpec.upto Rows.printerRefusesSpec).preRow enc aj Tryz.f8 Rows.printerRefusesUptoRow.domain false Rows.printerRefusesUptoRow.laid) (((Rows.OpenSpec.upto Rows.printerRefusesSpec).at F).post enc aj Tryz.f8 false true false false):=by obtain⟨places,hx⟩:=reads os enc;refine returnsInHanded_of_row (C:=Tryz.checked) (s:=Rows.OpenSpec.upto Rows.printerRefusesSpec) own started kr Tryz.func8 (witness_row_at (enc:=enc) (C:=Tryz.checked) false (yb os) Mm rfl kr kr kr (OpenSpec.preRow_of_cond 8 hx kr (fun k hk=>by cases hk;kernel_rfl) kr (Tc os))) ?_;intro W base args ds gs before gV hW _ rV _ hL hS _;exact contract H enc W args ds gs before base gV hW (of_decide_eq_true (rV _ rfl)) hL hS
theorem jf0:(Rows.printerRefusesUptoRow.wf (OpenSpec.ofChange (Rows.OpenSpec.upto Rows.printerRefusesSpec).bare))=true:=kr
theorem jf1:(laidOutB Tryz.pinned.checked.prog)=true:=kr
theorem jf2:(mapsRowed Tryz.pinned.checked.prog)=true:=kr
theorem jf3:(Tryz.f8.params.all (Tryz.pinned.checked.prog.readableRec ·))=true:=kr
theorem jf4:(namedTie Tryz.pinned.checked.prog Rows.printerRefusesUptoRow.named (Rows.OpenSpec.upto Rows.printerRefusesSpec).bare.vars)=true:=kr
theorem jf5:((Rows.printerRefusesUptoRow.stops==[]))=true:=kr
theorem jf6:((Tryz.pinned.checked.prog.stops==[]))=true:=kr
theorem jf7:((Rows.printerRefusesUptoRow.knobs==[]))=true:=kr
theorem jf8:((Tryz.pinned.checked.prog.stopKnobs==[]))=true:=kr
theorem jf9:((Rows.printerRefusesUptoRow.inPlace==Tryz.pinned.checked.prog.inPlace 8))=true:=kr
theorem alI:((Rows.printerRefusesUptoRow.unfollowed==Tryz.pinned.checked.prog.unfollowed 8))=true:=kr
theorem alJ:((Rows.printerRefusesUptoRow.recurses==Tryz.pinned.checked.prog.recurses 8))=true:=kr
theorem alK:((Rows.printerRefusesUptoRow.named==Tryz.pinned.checked.prog.varsNamed 8))=true:=kr
theorem alL:((Rows.printerRefusesUptoRow.maps==(Tryz.f8.params.toList++(Rows.OpenSpec.upto Rows.printerRefusesSpec).bare.plain.varTypes Tryz.pinned.checked.prog).any (Tryz.pinned.checked.prog.mapsRec ·)))=true:=kr
theorem alM:((Rows.printerRefusesUptoRow.ifaces==(Tryz.f8.params.toList++(Rows.OpenSpec.upto Rows.printerRefusesSpec).bare.plain.varTypes Tryz.pinned.checked.prog).any (Tryz.pinned.checked.prog.ifacesRec ·)))=true:=kr
theorem alN:((Rows.printerRefusesUptoRow.mapsOut==Tryz.pinned.checked.prog.mapsAmong Tryz.f8.resultTypes.toList))=true:=kr
theorem alO:((Rows.printerRefusesUptoRow.loops==(Tryz.f8.params.toList++(Rows.OpenSpec.upto Rows.printerRefusesSpec).bare.plain.varTypes Tryz.pinned.checked.prog).any (Tryz.pinned.checked.prog.loopsFrom ·)))=true:=kr
theorem alP:((Rows.printerRefusesUptoRow.wideKeys==(Tryz.f8.params.toList++(Rows.OpenSpec.upto Rows.printerRefusesSpec).bare.plain.varTypes Tryz.pinned.checked.prog++Tryz.f8.resultTypes.toList).any (Tryz.pinned.checked.prog.wideKeysFrom ·)))=true:=kr
theorem alQ:((Rows.OpenSpec.upto Rows.printerRefusesSpec).bare.vars.all (Tryz.pinned.checked.prog.varReadable ·))=true:=kr
theorem alR:(Tryz.f8.resultTypes.all (fun t=>Tryz.pinned.checked.prog.readableRec t&&decide (t<Tryz.pinned.checked.prog.types.size)))=true:=kr
theorem alS:((Rows.printerRefusesUptoRow.ifacesOut==Tryz.f8.resultTypes.toList.any (Tryz.pinned.checked.prog.ifacesRec ·)))=true:=kr
theorem alT:((Rows.printerRefusesUptoRow.loopsOut==Tryz.f8.resultTypes.toList.any (Tryz.pinned.checked.prog.loopsFrom ·)))=true:=kr
theorem alU:((Rows.printerRefusesUptoRow.plainKeys==Tryz.pinned.checked.prog.plainKeys))=true:=kr
theorem alV:(Rows.printerRefusesUptoRow.shortTexts.isNone)=true:=kr
theorem alW:(Tryz.pinned.checked.prog.stopsHeard)=true:=kr
theorem alX:(Tryz.pinned.checked.prog.mayEnter)=true:=kr
theorem alY:((Rows.printerRefusesUptoRow.lifted==Tryz.pinned.checked.prog.liftsFinal))=true:=kr
theorem alZ:((Tryz.pinned.checked.prog.make==some Rows.printerRefusesUptoRow.make))=true:=kr
theorem al0:((Rows.printerRefusesUptoRow.kinds==(if Rows.printerRefusesUptoRow.domain.isEmpty then [] else Tryz.f8.params.toList.map fun t=>match Tryz.pinned.checked.prog.underlying t with|some (.int k)=>some k|_=>none)))=true:=kr
theorem al1:((Rows.printerRefusesUptoRow.pinned==Rows.printerRefusesUptoRow.pinnedBy))=true:=kr
theorem al2:((Rows.printerRefusesUptoRow.veiled==(Tryz.f8.params.toList++(Rows.OpenSpec.upto Rows.printerRefusesSpec).bare.plain.varTypes Tryz.pinned.checked.prog++Tryz.f8.resultTypes.toList).any (Tryz.pinned.checked.prog.veiledRec ·)))=true:=kr
theorem al3:(Rows.printerRefusesUptoRow.veiledFits Tryz.pinned.checked.prog Tryz.f8.params.toList (Tryz.f8.params.toList++(Rows.OpenSpec.upto Rows.printerRefusesSpec).bare.plain.varTypes Tryz.pinned.checked.prog++Tryz.f8.resultTypes.toList))=true:=kr
theorem lI {a b:Bool} (h1:a=true) (h2:b=true):(a&&b)=true:=by rw [h1,h2];rfl
set_option maxRecDepth 100000 in
theorem abX:joinedFacts Tryz.pinned.checked.prog 8 Tryz.f8 (Rows.OpenSpec.upto Rows.printerRefusesSpec).bare Rows.printerRefusesUptoRow=true:=by unfold joinedFacts;exact lI (lI (lI (lI (lI (lI (lI (lI (lI (lI (lI (lI (lI (lI (lI (lI (lI (lI (lI (lI (lI (lI (lI (lI (lI (lI (lI (lI (lI (lI (lI (jf0) jf1) jf2) jf3) jf4) jf5) jf6) jf7) jf8) jf9) alI) alJ) alK) alL) alM) alN) alO) alP) alQ) alR) alS) alT) alU) alV) alW) alX) alY) alZ) al0) al1) al2) al3
theorem Td:Rows.PrinterRefusesUptoSaid :=
 OpenClaim.holds_of_cond 8 Tryz.f8 rfl rfl rfl rfl rfl rfl rfl ⟨rfl,rfl,rfl,rfl,rfl⟩ rfl rfl rfl rfl rfl kr Tryz.func8 abX
  (of_decide_eq_true kr) (by unfold Func.isWrapper;first|(rw [if_pos (by decide +kernel)];kernel_rfl)|(rw [if_neg (by decide +kernel)];exact⟨rfl,rfl⟩))
  (fun os started H enc _ F=>by rw [OpenClaim.pre_eq_preRow];exact KX os started H enc F)
theorem plain (f:FuncId) (fn:Func) (hf:Tryz.pinned.checked.prog.funcNamed "modcert/modcertlaw06.PrinterRefuses" = some f) (Tn:Tryz.pinned.checked.prog.funcs[f]?=some fn) :
  false=Tryz.pinned.checked.prog.looks []∧∀ (j:Nat) t,fn.params[j]?=some t→Tryz.pinned.checked.prog.wantsStandIn t=false:=by
 obtain rfl:f=8:=mB ((show aj.funcNamed "modcert/modcertlaw06.PrinterRefuses" = some 8 from kr).symm.trans hf) |>.symm
 obtain rfl:fn=Tryz.f8:=(mB (Tryz.func8.symm.trans Tn)).symm;refine⟨kr,fun j t ht=>?_⟩;rw [Tryz.params8] at ht;have h:∀ t∈[25,29],aj.wantsStandIn t=false:=by intro t ht;simp only [cI,iM,or_false] at ht;rcases ht with rfl|rfl <;> kernel_rfl
 exact h t (by simpa using Array.mem_of_getElem? ht)
theorem cardUpto:Rows.PrinterRefusesUptoCardSaid :=
 Claim7.holds_tied_plain_at .later [] _ _ _ _ Td (fun _ h=>by cases h) kr (fun _ h=>by cases h) printerRefusesUpto_row_tie rfl ⟨rfl,rfl⟩ kr rfl plain kr
end Go.Proofs.YtfbbfmcggbapoaaGreatDoor.lawPrinterRefuses
end
