import Derived.Test.YtfbbfmcggbapoaaGreatDoorK8
open Go.Proofs.Tryz renaming prog→aj
open List renaming mem_cons→b8,not_mem_nil→ef
open Option.some renaming inj→gD
set_option linter.all false
section
namespace Go.Proofs.YtfbbfmcggbapoaaGreatDoor.lawPrinterApart
open Go.ChangeShapes Go.WideShapes Go.ChangeAt Go.RowKit
def Mr:Array Value := #[.agg #[.int .i64 0,.string ⟨#[]⟩,.string ⟨#[]⟩,.slice none 0 0,.slice none 0 0],.agg #[.int .i64 0,.string ⟨#[]⟩,.string ⟨#[]⟩,.slice none 0 0,.slice none 0 0],.agg #[.int .i64 0,.string ⟨#[]⟩,.string ⟨#[]⟩,.string ⟨#[]⟩,.int .i64 0,.slice none 0 0,.slice none 0 0,.slice none 0 0],.agg #[.int .i64 0,.string ⟨#[]⟩,.string ⟨#[]⟩,.string ⟨#[]⟩,.int .i64 0,.slice none 0 0,.slice none 0 0,.slice none 0 0]]
def aiR (H:Type):List (DataW H):=[.agg [.lit (.int .i64 0),.lit (.string []),.lit (.string []),.nil,.nil],.agg [.lit (.int .i64 0),.lit (.string []),.lit (.string []),.nil,.nil],.agg [.lit (.int .i64 0),.lit (.string []),.lit (.string []),.lit (.string []),.lit (.int .i64 0),.nil,.nil,.nil],.agg [.lit (.int .i64 0),.lit (.string []),.lit (.string []),.lit (.string []),.lit (.int .i64 0),.nil,.nil,.nil]]
theorem TQ (os:Os):laidMet aj Rows.printerApartUptoRow.laid ((xT os).forCall (fun _ _=>0) ⟨#[],Mr,[]⟩).memory :=
 laidMet_of_run' 8 kr kr
theorem reads (os:Os) {H:Type} (enc:TypeId×Value→H):∃ places,DataW.whole enc aj ((xT os).forCall (fun _ _=>0) ⟨#[],Mr,[]⟩).memory Tryz.f6.params.toList Rows.printerApartSpec.vars false Mr.toList 8=some (aiR H,[],places) :=
 ⟨[],kr⟩
set_option maxRecDepth 100000 in
theorem KE (os:Os) (started:os.Started) (H:Type) (enc:TypeId×Value→H) (F:Stop.Interp) :
  ReturnsInHanded {} Tryz.checked os 6 .any ((Rows.OpenSpec.upto Rows.printerApartSpec).preRow enc aj Tryz.f6 Rows.printerApartUptoRow.domain false Rows.printerApartUptoRow.laid) (((Rows.OpenSpec.upto Rows.printerApartSpec).at F).post enc aj Tryz.f6 false true false false):=by obtain⟨places,hx⟩:=reads os enc;refine returnsInHanded_of_row (C:=Tryz.checked) (s:=Rows.OpenSpec.upto Rows.printerApartSpec) own started kr Tryz.func6 (witness_row_at (enc:=enc) (C:=Tryz.checked) false (xT os) Mr rfl kr kr kr (OpenSpec.preRow_of_cond 8 hx kr (fun k hk=>by cases hk;kernel_rfl) kr (TQ os))) ?_;intro W base args ds gs before jH hW _ rE _ hL hS _;exact contract H enc W args ds gs before base jH hW (of_decide_eq_true (rE _ rfl)) hL hS
theorem jf0:(Rows.printerApartUptoRow.wf (OpenSpec.ofChange (Rows.OpenSpec.upto Rows.printerApartSpec).bare))=true:=kr
theorem jf1:(laidOutB Tryz.pinned.checked.prog)=true:=kr
theorem jf2:(mapsRowed Tryz.pinned.checked.prog)=true:=kr
theorem jf3:(Tryz.f6.params.all (Tryz.pinned.checked.prog.readableRec ·))=true:=kr
theorem jf4:(namedTie Tryz.pinned.checked.prog Rows.printerApartUptoRow.named (Rows.OpenSpec.upto Rows.printerApartSpec).bare.vars)=true:=kr
theorem jf5:((Rows.printerApartUptoRow.stops==[]))=true:=kr
theorem jf6:((Tryz.pinned.checked.prog.stops==[]))=true:=kr
theorem jf7:((Rows.printerApartUptoRow.knobs==[]))=true:=kr
theorem jf8:((Tryz.pinned.checked.prog.stopKnobs==[]))=true:=kr
theorem jf9:((Rows.printerApartUptoRow.inPlace==Tryz.pinned.checked.prog.inPlace 6))=true:=kr
theorem ano:((Rows.printerApartUptoRow.unfollowed==Tryz.pinned.checked.prog.unfollowed 6))=true:=kr
theorem anp:((Rows.printerApartUptoRow.recurses==Tryz.pinned.checked.prog.recurses 6))=true:=kr
theorem anq:((Rows.printerApartUptoRow.named==Tryz.pinned.checked.prog.varsNamed 6))=true:=kr
theorem anr:((Rows.printerApartUptoRow.maps==(Tryz.f6.params.toList++(Rows.OpenSpec.upto Rows.printerApartSpec).bare.plain.varTypes Tryz.pinned.checked.prog).any (Tryz.pinned.checked.prog.mapsRec ·)))=true:=kr
theorem ans:((Rows.printerApartUptoRow.ifaces==(Tryz.f6.params.toList++(Rows.OpenSpec.upto Rows.printerApartSpec).bare.plain.varTypes Tryz.pinned.checked.prog).any (Tryz.pinned.checked.prog.ifacesRec ·)))=true:=kr
theorem ant:((Rows.printerApartUptoRow.mapsOut==Tryz.pinned.checked.prog.mapsAmong Tryz.f6.resultTypes.toList))=true:=kr
theorem anu:((Rows.printerApartUptoRow.loops==(Tryz.f6.params.toList++(Rows.OpenSpec.upto Rows.printerApartSpec).bare.plain.varTypes Tryz.pinned.checked.prog).any (Tryz.pinned.checked.prog.loopsFrom ·)))=true:=kr
theorem anv:((Rows.printerApartUptoRow.wideKeys==(Tryz.f6.params.toList++(Rows.OpenSpec.upto Rows.printerApartSpec).bare.plain.varTypes Tryz.pinned.checked.prog++Tryz.f6.resultTypes.toList).any (Tryz.pinned.checked.prog.wideKeysFrom ·)))=true:=kr
theorem anw:((Rows.OpenSpec.upto Rows.printerApartSpec).bare.vars.all (Tryz.pinned.checked.prog.varReadable ·))=true:=kr
theorem anx:(Tryz.f6.resultTypes.all (fun t=>Tryz.pinned.checked.prog.readableRec t&&decide (t<Tryz.pinned.checked.prog.types.size)))=true:=kr
theorem anz:((Rows.printerApartUptoRow.ifacesOut==Tryz.f6.resultTypes.toList.any (Tryz.pinned.checked.prog.ifacesRec ·)))=true:=kr
theorem anA:((Rows.printerApartUptoRow.loopsOut==Tryz.f6.resultTypes.toList.any (Tryz.pinned.checked.prog.loopsFrom ·)))=true:=kr
theorem anB:((Rows.printerApartUptoRow.plainKeys==Tryz.pinned.checked.prog.plainKeys))=true:=kr
theorem anC:(Rows.printerApartUptoRow.shortTexts.isNone)=true:=kr
theorem anD:(Tryz.pinned.checked.prog.stopsHeard)=true:=kr
theorem anE:(Tryz.pinned.checked.prog.mayEnter)=true:=kr
theorem anF:((Rows.printerApartUptoRow.lifted==Tryz.pinned.checked.prog.liftsFinal))=true:=kr
theorem anG:((Tryz.pinned.checked.prog.make==some Rows.printerApartUptoRow.make))=true:=kr
theorem anH:((Rows.printerApartUptoRow.kinds==(if Rows.printerApartUptoRow.domain.isEmpty then [] else Tryz.f6.params.toList.map fun t=>match Tryz.pinned.checked.prog.underlying t with|some (.int k)=>some k|_=>none)))=true:=kr
theorem anI:((Rows.printerApartUptoRow.pinned==Rows.printerApartUptoRow.pinnedBy))=true:=kr
theorem anJ:((Rows.printerApartUptoRow.veiled==(Tryz.f6.params.toList++(Rows.OpenSpec.upto Rows.printerApartSpec).bare.plain.varTypes Tryz.pinned.checked.prog++Tryz.f6.resultTypes.toList).any (Tryz.pinned.checked.prog.veiledRec ·)))=true:=kr
theorem anK:(Rows.printerApartUptoRow.veiledFits Tryz.pinned.checked.prog Tryz.f6.params.toList (Tryz.f6.params.toList++(Rows.OpenSpec.upto Rows.printerApartSpec).bare.plain.varTypes Tryz.pinned.checked.prog++Tryz.f6.resultTypes.toList))=true:=kr
theorem kK {a b:Bool} (h1:a=true) (h2:b=true):(a&&b)=true:=by rw [h1,h2];rfl
set_option maxRecDepth 100000 in
theorem ac5:joinedFacts Tryz.pinned.checked.prog 6 Tryz.f6 (Rows.OpenSpec.upto Rows.printerApartSpec).bare Rows.printerApartUptoRow=true:=by unfold joinedFacts;exact kK (kK (kK (kK (kK (kK (kK (kK (kK (kK (kK (kK (kK (kK (kK (kK (kK (kK (kK (kK (kK (kK (kK (kK (kK (kK (kK (kK (kK (kK (kK (jf0) jf1) jf2) jf3) jf4) jf5) jf6) jf7) jf8) jf9) ano) anp) anq) anr) ans) ant) anu) anv) anw) anx) anz) anA) anB) anC) anD) anE) anF) anG) anH) anI) anJ) anK
theorem TR:Rows.PrinterApartUptoSaid :=
 OpenClaim.holds_of_cond 6 Tryz.f6 rfl rfl rfl rfl rfl rfl rfl ⟨rfl,rfl,rfl,rfl,rfl⟩ rfl rfl rfl rfl rfl kr Tryz.func6 ac5
  (of_decide_eq_true kr) (by unfold Func.isWrapper;first|(rw [if_pos (by decide +kernel)];kernel_rfl)|(rw [if_neg (by decide +kernel)];exact⟨rfl,rfl⟩))
  (fun os started H enc _ F=>by rw [OpenClaim.pre_eq_preRow];exact KE os started H enc F)
theorem plain (f:FuncId) (fn:Func) (hf:Tryz.pinned.checked.prog.funcNamed "modcert/modcertlaw06.PrinterApart" = some f) (hfn:Tryz.pinned.checked.prog.funcs[f]?=some fn) :
  false=Tryz.pinned.checked.prog.looks []∧∀ (j:Nat) t,fn.params[j]?=some t→Tryz.pinned.checked.prog.wantsStandIn t=false:=by
 obtain rfl:f=6:=gD ((show aj.funcNamed "modcert/modcertlaw06.PrinterApart" = some 6 from kr).symm.trans hf) |>.symm
 obtain rfl:fn=Tryz.f6:=(gD (Tryz.func6.symm.trans hfn)).symm;refine⟨kr,fun j t ht=>?_⟩;rw [Tryz.params6] at ht;have h:∀ t∈[25,25,29,29],aj.wantsStandIn t=false:=by intro t ht;simp only [b8,ef,or_false] at ht;rcases ht with rfl|rfl|rfl|rfl <;> kernel_rfl
 exact h t (by simpa using Array.mem_of_getElem? ht)
theorem cardUpto:Rows.PrinterApartUptoCardSaid :=
 Claim7.holds_tied_plain_at .later [] _ _ _ _ TR (fun _ h=>by cases h) kr (fun _ h=>by cases h) printerApartUpto_row_tie rfl ⟨rfl,rfl⟩ kr rfl plain kr
end Go.Proofs.YtfbbfmcggbapoaaGreatDoor.lawPrinterApart
end
