import Derived.Test.YtfbbfmcggbapoaaGreatDoorL8
open Go.Proofs.Tryz renaming prog->ak
open List renaming mem_cons->dp,not_mem_nil->ja
open Option.some renaming inj->mP
set_option linter.all false
section
namespace Go.Proofs.YtfbbfmcggbapoaaGreatDoor.lawPrinterPrints
open Go.ChangeShapes Go.WideShapes Go.ChangeAt Go.RowKit
def OM:Array Value := #[.agg #[.int .i64 0,.string ⟨#[]⟩,.string ⟨#[]⟩,.slice none 0 0,.slice none 0 0],.agg #[.int .i64 0,.string ⟨#[]⟩,.string ⟨#[]⟩,.string ⟨#[]⟩,.int .i64 0,.slice none 0 0,.slice none 0 0,.slice none 0 0],.agg #[.string ⟨#[]⟩,.slice none 0 0,.slice none 0 0]]
def akd (H:Type):List (DataW H):=[.agg [.lit (.int .i64 0),.lit (.string []),.lit (.string []),.nil,.nil],.agg [.lit (.int .i64 0),.lit (.string []),.lit (.string []),.lit (.string []),.lit (.int .i64 0),.nil,.nil,.nil],.agg [.lit (.string []),.nil,.nil]]
theorem VN (os:Os):laidMet ak Rows.printerPrintsUptoRow.laid ((zd os).forCall (fun _ _=>0) ⟨#[],OM,[]⟩).memory :=
 laidMet_of_run' 8 kr kr
theorem reads (os:Os) {H:Type} (enc:g9×Value->H):∃ places,DataW.whole enc ak ((zd os).forCall (fun _ _=>0) ⟨#[],OM,[]⟩).memory Tryz.f3.params.toList Rows.printerPrintsSpec.vars false OM.toList 8=some (akd H,[],places) :=
 ⟨[],kr⟩
set_option maxRecDepth 100000 in
theorem MX (os:Os) (started:os.Started) (H:Type) (enc:g9×Value->H) (F:Stop.Interp) :
  ReturnsInHanded {} Tryz.checked os 3 .any ((Rows.OpenSpec.upto Rows.printerPrintsSpec).preRow enc ak Tryz.f3 Rows.printerPrintsUptoRow.domain false Rows.printerPrintsUptoRow.laid) (((Rows.OpenSpec.upto Rows.printerPrintsSpec).at F).post enc ak Tryz.f3 false true false false):=by obtain⟨places,hx⟩:=reads os enc;refine returnsInHanded_of_row (C:=Tryz.checked) (s:=Rows.OpenSpec.upto Rows.printerPrintsSpec) own started kr Tryz.func3 (witness_row_at (enc:=enc) (C:=Tryz.checked) false (zd os) OM rfl kr kr kr (OpenSpec.preRow_of_cond 8 hx kr (fun k hk=>by cases hk;kernel_rfl) kr (VN os))) ?_;intro W base args ds gs before iq hW _ sL _ hL hS _;exact contract H enc W args ds gs before base iq hW (qB (sL _ rfl)) hL hS
theorem jf0:(Rows.printerPrintsUptoRow.wf (OpenSpec.ofChange (Rows.OpenSpec.upto Rows.printerPrintsSpec).bare))=true:=kr
theorem jf1:(laidOutB Tryz.pinned.checked.prog)=true:=kr
theorem jf2:(mapsRowed Tryz.pinned.checked.prog)=true:=kr
theorem jf3:(Tryz.f3.params.all (Tryz.pinned.checked.prog.readableRec ·))=true:=kr
theorem jf4:(namedTie Tryz.pinned.checked.prog Rows.printerPrintsUptoRow.named (Rows.OpenSpec.upto Rows.printerPrintsSpec).bare.vars)=true:=kr
theorem jf5:((Rows.printerPrintsUptoRow.stops==[]))=true:=kr
theorem jf6:((Tryz.pinned.checked.prog.stops==[]))=true:=kr
theorem jf7:((Rows.printerPrintsUptoRow.knobs==[]))=true:=kr
theorem jf8:((Tryz.pinned.checked.prog.stopKnobs==[]))=true:=kr
theorem jf9:((Rows.printerPrintsUptoRow.inPlace==Tryz.pinned.checked.prog.inPlace 3))=true:=kr
theorem aoW:((Rows.printerPrintsUptoRow.unfollowed==Tryz.pinned.checked.prog.unfollowed 3))=true:=kr
theorem aoX:((Rows.printerPrintsUptoRow.recurses==Tryz.pinned.checked.prog.recurses 3))=true:=kr
theorem aoY:((Rows.printerPrintsUptoRow.named==Tryz.pinned.checked.prog.varsNamed 3))=true:=kr
theorem aoZ:((Rows.printerPrintsUptoRow.maps==(Tryz.f3.params.toList++(Rows.OpenSpec.upto Rows.printerPrintsSpec).bare.plain.varTypes Tryz.pinned.checked.prog).any (Tryz.pinned.checked.prog.mapsRec ·)))=true:=kr
theorem ao0:((Rows.printerPrintsUptoRow.ifaces==(Tryz.f3.params.toList++(Rows.OpenSpec.upto Rows.printerPrintsSpec).bare.plain.varTypes Tryz.pinned.checked.prog).any (Tryz.pinned.checked.prog.ifacesRec ·)))=true:=kr
theorem ao1:((Rows.printerPrintsUptoRow.mapsOut==Tryz.pinned.checked.prog.mapsAmong Tryz.f3.resultTypes.toList))=true:=kr
theorem ao2:((Rows.printerPrintsUptoRow.loops==(Tryz.f3.params.toList++(Rows.OpenSpec.upto Rows.printerPrintsSpec).bare.plain.varTypes Tryz.pinned.checked.prog).any (Tryz.pinned.checked.prog.loopsFrom ·)))=true:=kr
theorem ao3:((Rows.printerPrintsUptoRow.wideKeys==(Tryz.f3.params.toList++(Rows.OpenSpec.upto Rows.printerPrintsSpec).bare.plain.varTypes Tryz.pinned.checked.prog++Tryz.f3.resultTypes.toList).any (Tryz.pinned.checked.prog.wideKeysFrom ·)))=true:=kr
theorem ao4:((Rows.OpenSpec.upto Rows.printerPrintsSpec).bare.vars.all (Tryz.pinned.checked.prog.varReadable ·))=true:=kr
theorem ao5:(Tryz.f3.resultTypes.all (fun t=>Tryz.pinned.checked.prog.readableRec t&&decide (t<Tryz.pinned.checked.prog.types.size)))=true:=kr
theorem ao6:((Rows.printerPrintsUptoRow.ifacesOut==Tryz.f3.resultTypes.toList.any (Tryz.pinned.checked.prog.ifacesRec ·)))=true:=kr
theorem ao7:((Rows.printerPrintsUptoRow.loopsOut==Tryz.f3.resultTypes.toList.any (Tryz.pinned.checked.prog.loopsFrom ·)))=true:=kr
theorem ao8:((Rows.printerPrintsUptoRow.plainKeys==Tryz.pinned.checked.prog.plainKeys))=true:=kr
theorem ao9:(Rows.printerPrintsUptoRow.shortTexts.isNone)=true:=kr
theorem apa:(Tryz.pinned.checked.prog.stopsHeard)=true:=kr
theorem apb:(Tryz.pinned.checked.prog.mayEnter)=true:=kr
theorem apc:((Rows.printerPrintsUptoRow.lifted==Tryz.pinned.checked.prog.liftsFinal))=true:=kr
theorem apd:((Tryz.pinned.checked.prog.make==some Rows.printerPrintsUptoRow.make))=true:=kr
theorem ape:((Rows.printerPrintsUptoRow.kinds==(if Rows.printerPrintsUptoRow.domain.isEmpty then [] else Tryz.f3.params.toList.map fun t=>match Tryz.pinned.checked.prog.underlying t with|some (.int k)=>some k|_=>none)))=true:=kr
theorem apf:((Rows.printerPrintsUptoRow.pinned==Rows.printerPrintsUptoRow.pinnedBy))=true:=kr
theorem apg:((Rows.printerPrintsUptoRow.veiled==(Tryz.f3.params.toList++(Rows.OpenSpec.upto Rows.printerPrintsSpec).bare.plain.varTypes Tryz.pinned.checked.prog++Tryz.f3.resultTypes.toList).any (Tryz.pinned.checked.prog.veiledRec ·)))=true:=kr
theorem aph:(Rows.printerPrintsUptoRow.veiledFits Tryz.pinned.checked.prog Tryz.f3.params.toList (Tryz.f3.params.toList++(Rows.OpenSpec.upto Rows.printerPrintsSpec).bare.plain.varTypes Tryz.pinned.checked.prog++Tryz.f3.resultTypes.toList))=true:=kr
theorem lU {a b:Bool} (h1:a=true) (h2:b=true):(a&&b)=true:=by rw [h1,h2];rfl
set_option maxRecDepth 100000 in
theorem aeW:joinedFacts Tryz.pinned.checked.prog 3 Tryz.f3 (Rows.OpenSpec.upto Rows.printerPrintsSpec).bare Rows.printerPrintsUptoRow=true:=by unfold joinedFacts;exact lU (lU (lU (lU (lU (lU (lU (lU (lU (lU (lU (lU (lU (lU (lU (lU (lU (lU (lU (lU (lU (lU (lU (lU (lU (lU (lU (lU (lU (lU (lU (jf0) jf1) jf2) jf3) jf4) jf5) jf6) jf7) jf8) jf9) aoW) aoX) aoY) aoZ) ao0) ao1) ao2) ao3) ao4) ao5) ao6) ao7) ao8) ao9) apa) apb) apc) apd) ape) apf) apg) aph
theorem VO:Rows.PrinterPrintsUptoSaid :=
 OpenClaim.holds_of_cond 3 Tryz.f3 rfl rfl rfl rfl rfl rfl rfl ⟨rfl,rfl,rfl,rfl,rfl⟩ rfl rfl rfl rfl rfl kr Tryz.func3 aeW
  (qB kr) (by unfold Func.isWrapper;first|(rw [gH (by decide +kernel)];kernel_rfl)|(rw [g5 (by decide +kernel)];exact⟨rfl,rfl⟩))
  (fun os started H enc _ F=>by rw [OpenClaim.pre_eq_preRow];exact MX os started H enc F)
theorem plain (f:FuncId) (fn:Func) (hf:Tryz.pinned.checked.prog.funcNamed "modcert/modcertlaw06.PrinterPrints" = some f) (V0:Tryz.pinned.checked.prog.funcs[f]?=some fn) :
  false=Tryz.pinned.checked.prog.looks []/\∀ (j:Nat) t,fn.params[j]?=some t->Tryz.pinned.checked.prog.wantsStandIn t=false:=by
 obtain rfl:f=3:=mP ((show ak.funcNamed "modcert/modcertlaw06.PrinterPrints" = some 3 from kr).symm.trans hf) |>.symm
 obtain rfl:fn=Tryz.f3:=(mP (Tryz.func3.symm.trans V0)).symm;refine⟨kr,fun j t ht=>?_⟩;rw [Tryz.params3] at ht;have h:∀ t∈[25,29,33],ak.wantsStandIn t=false:=by intro t ht;simp only [dp,ja,or_false] at ht;rcases ht with rfl|rfl|rfl <;> kernel_rfl
 exact h t (by simpa using Array.mem_of_getElem? ht)
theorem cardUpto:Rows.PrinterPrintsUptoCardSaid :=
 Claim7.holds_tied_plain_at .later [] _ _ _ _ VO (fun _ h=>by cases h) kr (fun _ h=>by cases h) printerPrintsUpto_row_tie rfl ⟨rfl,rfl⟩ kr rfl plain kr
end Go.Proofs.YtfbbfmcggbapoaaGreatDoor.lawPrinterPrints
end
