import Derived.Test.YtnboooapeopjoaaGreatDoorJ9
open Go.Proofs.Tryz renaming prog→ab
set_option linter.all false
section
namespace Go.Proofs.YtnboooapeopjoaaGreatDoor
open Go.Eng
variable [bk]
set_option maxHeartbeats 4000000
set_option maxRecDepth 100000
abbrev Ui:V:=.agg [num 1,str ⟨#[118]⟩,bl false,bl false,str ⟨#[]⟩,.slice [],num 0,str ⟨#[]⟩,str ⟨#[]⟩,.slice [],.slice [],num 0,str ⟨#[]⟩,str ⟨#[]⟩,.slice [],.slice [],num 2,str ⟨#[]⟩,str ⟨#[]⟩,.slice [],.slice [],num 0,str ⟨#[]⟩,str ⟨#[]⟩,str ⟨#[]⟩,num 1,.slice [],.slice [],.slice [],str ⟨#[]⟩,str ⟨#[]⟩]
abbrev ZK:V:=.agg [num 3,str ⟨#[]⟩,str ⟨#[118]⟩,str ⟨#[]⟩,num 0,.slice [],.slice [],.slice []]
abbrev Uj:V:=.agg [num 1,str ⟨#[119]⟩,bl false,bl false,str ⟨#[]⟩,.slice [],num 0,str ⟨#[]⟩,str ⟨#[]⟩,.slice [],.slice [],num 0,str ⟨#[]⟩,str ⟨#[]⟩,.slice [],.slice [],num 2,str ⟨#[]⟩,str ⟨#[]⟩,.slice [],.slice [],num 10,str ⟨#[]⟩,str ⟨#[118]⟩,str ⟨#[]⟩,num 0,.slice [],.slice [],.slice [.agg [num 0,str ⟨#[]⟩,str ⟨#[]⟩,str ⟨#[]⟩,num 2,.slice [],.slice [],.slice []],.agg [num 16,str ⟨#[]⟩,str ⟨#[43]⟩,str ⟨#[]⟩,num 0,.slice [],.slice [],.slice [ZK,ZK]]],str ⟨#[]⟩,str ⟨#[]⟩]
abbrev Uk:V:=.agg [num 1,str ⟨#[120]⟩,bl false,bl false,str ⟨#[]⟩,.slice [],num 0,str ⟨#[]⟩,str ⟨#[]⟩,.slice [],.slice [],num 0,str ⟨#[]⟩,str ⟨#[]⟩,.slice [],.slice [],num 2,str ⟨#[]⟩,str ⟨#[]⟩,.slice [],.slice [],num 4,str ⟨#[109,47,118,49]⟩,str ⟨#[118]⟩,str ⟨#[]⟩,num 0,.slice [],.slice [],.slice [],str ⟨#[]⟩,str ⟨#[]⟩]
abbrev aiZ:V:=.slice [.agg [str ⟨#[65]⟩,num 0,num 0,str ⟨#[]⟩,str ⟨#[]⟩,.slice [],.slice []]]
abbrev Ul:V:=.slice [.agg [num 9,str ⟨#[]⟩,str ⟨#[65]⟩,.slice [],.slice []]]
abbrev Um:V:=.agg [num 0,str ⟨#[80]⟩,bl false,bl false,str ⟨#[]⟩,aiZ,num 5,str ⟨#[]⟩,str ⟨#[]⟩,Ul,.slice [],num 5,str ⟨#[]⟩,str ⟨#[]⟩,Ul,.slice [],num 5,str ⟨#[]⟩,str ⟨#[]⟩,Ul,.slice [],num 0,str ⟨#[]⟩,str ⟨#[]⟩,str ⟨#[]⟩,num 0,.slice [],.slice [],.slice [],str ⟨#[]⟩,str ⟨#[]⟩]
abbrev Un:V:=.agg [num 1,str ⟨#[121]⟩,bl false,bl false,str ⟨#[]⟩,.slice [],num 0,str ⟨#[]⟩,str ⟨#[]⟩,.slice [],.slice [],num 0,str ⟨#[]⟩,str ⟨#[]⟩,.slice [],.slice [],num 10,str ⟨#[97,47,118,49]⟩,str ⟨#[78]⟩,.slice [],.slice [],num 4,str ⟨#[97,47,118,49]⟩,str ⟨#[102]⟩,str ⟨#[]⟩,num 0,.slice [],.slice [],.slice [],str ⟨#[]⟩,str ⟨#[]⟩]
abbrev JJ:V:=.agg [str ⟨#[109,47,118,49]⟩,.slice [.agg [str ⟨#[97,47,118,49]⟩,str ⟨#[115]⟩]],.slice [Ui,Uj,Uk,Um,Un]]
abbrev Uo:V:=.agg [str ⟨#[]⟩,.slice [],.slice [Ui]]
abbrev Up:V:=.agg [str ⟨#[]⟩,.slice [],.slice [Uj]]
abbrev Uq:V:=.agg [str ⟨#[]⟩,.slice [],.slice [Uk]]
abbrev Ur:V:=.agg [str ⟨#[]⟩,.slice [],.slice [Um]]
abbrev Us:V:=.agg [str ⟨#[]⟩,.slice [],.slice [Un]]
theorem paM (hG:bk.g=some 1):cx ab 79 [str ⟨#[109,47,118,49]⟩] (bl true):=by obtain⟨_,rfl,h⟩:=lX hG ⟨#[109,47,118,49]⟩ (by decide);exact h
theorem paA (hG:bk.g=some 1):cx ab 79 [str ⟨#[97,47,118,49]⟩] (bl true):=by obtain⟨_,rfl,h⟩:=lX hG ⟨#[97,47,118,49]⟩ (by decide);exact h
theorem anS (hG:bk.g=some 1):cx ab 71 [JJ,Ui] (bl true):=cU (bL (paM hG) (bL (paA hG) bD)) (cg hG) 3000 kr
theorem anT (hG:bk.g=some 1):cx ab 71 [JJ,Uj] (bl true):=cU (bL (paM hG) (bL (paA hG) bD)) (cg hG) 3000 kr
theorem anU (hG:bk.g=some 1):cx ab 71 [JJ,Uk] (bl true):=cU (bL (paM hG) (bL (paA hG) bD)) (cg hG) 3000 kr
theorem anV (hG:bk.g=some 1):cx ab 71 [JJ,Um] (bl true):=cU (bL (paM hG) (bL (paA hG) bD)) (cg hG) 3000 kr
theorem anW (hG:bk.g=some 1):cx ab 71 [JJ,Un] (bl true):=cU (bL (paM hG) (bL (paA hG) bD)) (cg hG) 3000 kr
theorem anX (hG:bk.g=some 1):cx ab 74 [Uo,Uo] (bl true):=cU bD (cg hG) 3000 kr
theorem anY (hG:bk.g=some 1):cx ab 74 [Up,Up] (bl true):=cU bD (cg hG) 3000 kr
theorem anZ (hG:bk.g=some 1):cx ab 74 [Uq,Uq] (bl true):=cU bD (cg hG) 3000 kr
theorem an0 (hG:bk.g=some 1):cx ab 74 [Ur,Ur] (bl true):=cU bD (cg hG) 3000 kr
theorem ai2 (hG:bk.g=some 1):cx ab 74 [Us,Us] (bl true):=cU bD (cg hG) 3000 kr
theorem fh {nat:qt} {mW:FuncId→List V→Option V} {r8:lT} (zO:qw ab mW) (N7:kp ab r8) (tK:mV ab nat) (n:Nat) {f:FuncId} {vs:List V} {mem:List bm} {outs:List (V×List bm)} (h:Rr mem.length (Vb ab tt (ev ab tt DJ nat mW r8 n) f vs mem)=some outs):eo ab f vs mem fun r m=>(r,m)∈outs :=
 eo.Rr (fun _ hl=>wk zO N7 tK n hl) h
end Go.Proofs.YtnboooapeopjoaaGreatDoor
end
