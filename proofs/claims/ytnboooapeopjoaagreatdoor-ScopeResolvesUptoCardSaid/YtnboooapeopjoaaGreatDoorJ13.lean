import Derived.Test.YtnboooapeopjoaaGreatDoorJ12
open Go.Proofs.Tryz renaming prog→ab
open List renaming mem_cons→dj,not_mem_nil→o3
open Option.some renaming inj→vH
set_option linter.all false
section
namespace Go.Proofs.YtnboooapeopjoaaGreatDoor.lawScopeResolves
open Go.ChangeShapes Go.WideShapes Go.ChangeAt Go.RowKit
def Ny:Array Value := #[.agg #[.string ⟨#[]⟩,.slice none 0 0,.slice none 0 0]]
def ajo (H:Type):List (DataW H):=[.agg [.lit (.string []),.nil,.nil]]
theorem US (os:Os):laidMet ab Rows.scopeResolvesUptoRow.laid ((yz os).forCall (fun _ _=>0) ⟨#[],Ny,[]⟩).memory :=
 laidMet_of_run' 8 kr kr
theorem reads (os:Os) {H:Type} (enc:TypeId×Value→H):∃ places,DataW.whole enc ab ((yz os).forCall (fun _ _=>0) ⟨#[],Ny,[]⟩).memory Tryz.f3.params.toList Rows.scopeResolvesSpec.vars false Ny.toList 8=some (ajo H,[],places) :=
 ⟨[],kr⟩
set_option maxRecDepth 100000 in
theorem Mc (os:Os) (started:os.Started) (H:Type) (enc:TypeId×Value→H) (F:Stop.Interp) :
  ReturnsInHanded {} Tryz.checked os 3 .any ((Rows.OpenSpec.upto Rows.scopeResolvesSpec).preRow enc ab Tryz.f3 Rows.scopeResolvesUptoRow.domain false Rows.scopeResolvesUptoRow.laid) (((Rows.OpenSpec.upto Rows.scopeResolvesSpec).at F).post enc ab Tryz.f3 false true false false):=by obtain⟨places,hx⟩:=reads os enc;refine returnsInHanded_of_row (C:=Tryz.checked) (s:=Rows.OpenSpec.upto Rows.scopeResolvesSpec) own started kr Tryz.func3 (witness_row_at (enc:=enc) (C:=Tryz.checked) false (yz os) Ny rfl kr kr kr (OpenSpec.preRow_of_cond 8 hx kr (fun k hk=>by cases hk;kernel_rfl) kr (US os))) ?_;intro W base args ds gs before fF hW _ sn _ _ hS _;exact contract H enc W args ds gs before base fF hW (of_decide_eq_true (sn _ rfl)) hS
theorem jf0:(Rows.scopeResolvesUptoRow.wf (OpenSpec.ofChange (Rows.OpenSpec.upto Rows.scopeResolvesSpec).bare))=true:=kr
theorem jf1:(laidOutB Tryz.pinned.checked.prog)=true:=kr
theorem jf2:(mapsRowed Tryz.pinned.checked.prog)=true:=kr
theorem jf3:(Tryz.f3.params.all (Tryz.pinned.checked.prog.readableRec ·))=true:=kr
theorem jf4:(namedTie Tryz.pinned.checked.prog Rows.scopeResolvesUptoRow.named (Rows.OpenSpec.upto Rows.scopeResolvesSpec).bare.vars)=true:=kr
theorem jf5:((Rows.scopeResolvesUptoRow.stops==[]))=true:=kr
theorem jf6:((Tryz.pinned.checked.prog.stops==[]))=true:=kr
theorem jf7:((Rows.scopeResolvesUptoRow.knobs==[]))=true:=kr
theorem jf8:((Tryz.pinned.checked.prog.stopKnobs==[]))=true:=kr
theorem jf9:((Rows.scopeResolvesUptoRow.inPlace==Tryz.pinned.checked.prog.inPlace 3))=true:=kr
theorem an9:((Rows.scopeResolvesUptoRow.unfollowed==Tryz.pinned.checked.prog.unfollowed 3))=true:=kr
theorem aoa:((Rows.scopeResolvesUptoRow.recurses==Tryz.pinned.checked.prog.recurses 3))=true:=kr
theorem aob:((Rows.scopeResolvesUptoRow.named==Tryz.pinned.checked.prog.varsNamed 3))=true:=kr
theorem aoc:((Rows.scopeResolvesUptoRow.maps==(Tryz.f3.params.toList++(Rows.OpenSpec.upto Rows.scopeResolvesSpec).bare.plain.varTypes Tryz.pinned.checked.prog).any (Tryz.pinned.checked.prog.mapsRec ·)))=true:=kr
theorem aod:((Rows.scopeResolvesUptoRow.ifaces==(Tryz.f3.params.toList++(Rows.OpenSpec.upto Rows.scopeResolvesSpec).bare.plain.varTypes Tryz.pinned.checked.prog).any (Tryz.pinned.checked.prog.ifacesRec ·)))=true:=kr
theorem aoe:((Rows.scopeResolvesUptoRow.mapsOut==Tryz.pinned.checked.prog.mapsAmong Tryz.f3.resultTypes.toList))=true:=kr
theorem aof:((Rows.scopeResolvesUptoRow.loops==(Tryz.f3.params.toList++(Rows.OpenSpec.upto Rows.scopeResolvesSpec).bare.plain.varTypes Tryz.pinned.checked.prog).any (Tryz.pinned.checked.prog.loopsFrom ·)))=true:=kr
theorem aog:((Rows.scopeResolvesUptoRow.wideKeys==(Tryz.f3.params.toList++(Rows.OpenSpec.upto Rows.scopeResolvesSpec).bare.plain.varTypes Tryz.pinned.checked.prog++Tryz.f3.resultTypes.toList).any (Tryz.pinned.checked.prog.wideKeysFrom ·)))=true:=kr
theorem aoh:((Rows.OpenSpec.upto Rows.scopeResolvesSpec).bare.vars.all (Tryz.pinned.checked.prog.varReadable ·))=true:=kr
theorem aoi:(Tryz.f3.resultTypes.all (fun t=>Tryz.pinned.checked.prog.readableRec t&&decide (t<Tryz.pinned.checked.prog.types.size)))=true:=kr
theorem aoj:((Rows.scopeResolvesUptoRow.ifacesOut==Tryz.f3.resultTypes.toList.any (Tryz.pinned.checked.prog.ifacesRec ·)))=true:=kr
theorem aok:((Rows.scopeResolvesUptoRow.loopsOut==Tryz.f3.resultTypes.toList.any (Tryz.pinned.checked.prog.loopsFrom ·)))=true:=kr
theorem aol:((Rows.scopeResolvesUptoRow.plainKeys==Tryz.pinned.checked.prog.plainKeys))=true:=kr
theorem aom:(Rows.scopeResolvesUptoRow.shortTexts.isNone)=true:=kr
theorem aon:(Tryz.pinned.checked.prog.stopsHeard)=true:=kr
theorem aoo:(Tryz.pinned.checked.prog.mayEnter)=true:=kr
theorem aop:((Rows.scopeResolvesUptoRow.lifted==Tryz.pinned.checked.prog.liftsFinal))=true:=kr
theorem aoq:((Tryz.pinned.checked.prog.make==some Rows.scopeResolvesUptoRow.make))=true:=kr
theorem aor:((Rows.scopeResolvesUptoRow.kinds==(if Rows.scopeResolvesUptoRow.domain.isEmpty then [] else Tryz.f3.params.toList.map fun t=>match Tryz.pinned.checked.prog.underlying t with|some (.int k)=>some k|_=>none)))=true:=kr
theorem aos:((Rows.scopeResolvesUptoRow.pinned==Rows.scopeResolvesUptoRow.pinnedBy))=true:=kr
theorem aot:((Rows.scopeResolvesUptoRow.veiled==(Tryz.f3.params.toList++(Rows.OpenSpec.upto Rows.scopeResolvesSpec).bare.plain.varTypes Tryz.pinned.checked.prog++Tryz.f3.resultTypes.toList).any (Tryz.pinned.checked.prog.veiledRec ·)))=true:=kr
theorem aou:(Rows.scopeResolvesUptoRow.veiledFits Tryz.pinned.checked.prog Tryz.f3.params.toList (Tryz.f3.params.toList++(Rows.OpenSpec.upto Rows.scopeResolvesSpec).bare.plain.varTypes Tryz.pinned.checked.prog++Tryz.f3.resultTypes.toList))=true:=kr
theorem lR {a b:Bool} (h1:a=true) (h2:b=true):(a&&b)=true:=by rw [h1,h2];rfl
set_option maxRecDepth 100000 in
theorem adr:joinedFacts Tryz.pinned.checked.prog 3 Tryz.f3 (Rows.OpenSpec.upto Rows.scopeResolvesSpec).bare Rows.scopeResolvesUptoRow=true:=by unfold joinedFacts;exact lR (lR (lR (lR (lR (lR (lR (lR (lR (lR (lR (lR (lR (lR (lR (lR (lR (lR (lR (lR (lR (lR (lR (lR (lR (lR (lR (lR (lR (lR (lR (jf0) jf1) jf2) jf3) jf4) jf5) jf6) jf7) jf8) jf9) an9) aoa) aob) aoc) aod) aoe) aof) aog) aoh) aoi) aoj) aok) aol) aom) aon) aoo) aop) aoq) aor) aos) aot) aou
theorem UT:Rows.ScopeResolvesUptoSaid :=
 OpenClaim.holds_of_cond 3 Tryz.f3 rfl rfl rfl rfl rfl rfl rfl ⟨rfl,rfl,rfl,rfl,rfl⟩ rfl rfl rfl rfl rfl kr Tryz.func3 adr
  (of_decide_eq_true kr) (by unfold Func.isWrapper;first|(rw [if_pos (by decide +kernel)];kernel_rfl)|(rw [if_neg (by decide +kernel)];exact⟨rfl,rfl⟩))
  (fun os started H enc _ F=>by rw [OpenClaim.pre_eq_preRow];exact Mc os started H enc F)
theorem plain (f:FuncId) (fn:Func) (hf:Tryz.pinned.checked.prog.funcNamed "modcert/modcertlaw10.ScopeResolves" = some f) (GC:Tryz.pinned.checked.prog.funcs[f]?=some fn) :
  false=Tryz.pinned.checked.prog.looks []∧∀ (j:Nat) t,fn.params[j]?=some t→Tryz.pinned.checked.prog.wantsStandIn t=false:=by
 obtain rfl:f=3:=vH ((show ab.funcNamed "modcert/modcertlaw10.ScopeResolves" = some 3 from kr).symm.trans hf) |>.symm
 obtain rfl:fn=Tryz.f3:=(vH (Tryz.func3.symm.trans GC)).symm;refine⟨kr,fun j t ht=>?_⟩;rw [Tryz.params3] at ht;have h:∀ t∈[25],ab.wantsStandIn t=false:=by intro t ht;simp only [dj,o3,or_false] at ht;subst ht;kernel_rfl
 exact h t (by simpa using Array.mem_of_getElem? ht)
theorem cardUpto:Rows.ScopeResolvesUptoCardSaid :=
 Claim7.holds_tied_plain_at .later [] _ _ _ _ UT (fun _ h=>by cases h) kr (fun _ h=>by cases h) scopeResolvesUpto_row_tie rfl ⟨rfl,rfl⟩ kr rfl plain kr
end Go.Proofs.YtnboooapeopjoaaGreatDoor.lawScopeResolves
end
