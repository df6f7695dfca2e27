import Derived.Test.YtnboooapeopjoaaGreatDoorJ10
open Go.Proofs.Tryz renaming prog→af
set_option linter.all false
section
namespace Go.Proofs.YtnboooapeopjoaaGreatDoor
open Go.Eng
variable [bg]
set_option maxHeartbeats 4000000
set_option maxRecDepth 100000
abbrev PS:V:=.agg [num 1,str ⟨#[118]⟩,bl false,bl false,str ⟨#[]⟩,.slice [],num 0,str ⟨#[]⟩,str ⟨#[]⟩,.slice [],.slice [],num 0,str ⟨#[]⟩,str ⟨#[]⟩,.slice [],.slice [],num 2,str ⟨#[]⟩,str ⟨#[]⟩,.slice [],.slice [],num 0,str ⟨#[]⟩,str ⟨#[]⟩,str ⟨#[]⟩,num 1,.slice [],.slice [],.slice [],str ⟨#[]⟩,str ⟨#[]⟩]
abbrev W2:V:=.agg [num 3,str ⟨#[]⟩,str ⟨#[118]⟩,str ⟨#[]⟩,num 0,.slice [],.slice [],.slice []]
abbrev PT:V:=.agg [num 1,str ⟨#[119]⟩,bl false,bl false,str ⟨#[]⟩,.slice [],num 0,str ⟨#[]⟩,str ⟨#[]⟩,.slice [],.slice [],num 0,str ⟨#[]⟩,str ⟨#[]⟩,.slice [],.slice [],num 2,str ⟨#[]⟩,str ⟨#[]⟩,.slice [],.slice [],num 10,str ⟨#[]⟩,str ⟨#[118]⟩,str ⟨#[]⟩,num 0,.slice [],.slice [],.slice [.agg [num 0,str ⟨#[]⟩,str ⟨#[]⟩,str ⟨#[]⟩,num 2,.slice [],.slice [],.slice []],.agg [num 16,str ⟨#[]⟩,str ⟨#[43]⟩,str ⟨#[]⟩,num 0,.slice [],.slice [],.slice [W2,W2]]],str ⟨#[]⟩,str ⟨#[]⟩]
abbrev PU:V:=.agg [num 1,str ⟨#[120]⟩,bl false,bl false,str ⟨#[]⟩,.slice [],num 0,str ⟨#[]⟩,str ⟨#[]⟩,.slice [],.slice [],num 0,str ⟨#[]⟩,str ⟨#[]⟩,.slice [],.slice [],num 2,str ⟨#[]⟩,str ⟨#[]⟩,.slice [],.slice [],num 4,str ⟨#[109,47,118,49]⟩,str ⟨#[118]⟩,str ⟨#[]⟩,num 0,.slice [],.slice [],.slice [],str ⟨#[]⟩,str ⟨#[]⟩]
abbrev adn:V:=.slice [.agg [str ⟨#[65]⟩,num 0,num 0,str ⟨#[]⟩,str ⟨#[]⟩,.slice [],.slice []]]
abbrev PV:V:=.slice [.agg [num 9,str ⟨#[]⟩,str ⟨#[65]⟩,.slice [],.slice []]]
abbrev PW:V:=.agg [num 0,str ⟨#[80]⟩,bl false,bl false,str ⟨#[]⟩,adn,num 5,str ⟨#[]⟩,str ⟨#[]⟩,PV,.slice [],num 5,str ⟨#[]⟩,str ⟨#[]⟩,PV,.slice [],num 5,str ⟨#[]⟩,str ⟨#[]⟩,PV,.slice [],num 0,str ⟨#[]⟩,str ⟨#[]⟩,str ⟨#[]⟩,num 0,.slice [],.slice [],.slice [],str ⟨#[]⟩,str ⟨#[]⟩]
abbrev PX:V:=.agg [num 1,str ⟨#[121]⟩,bl false,bl false,str ⟨#[]⟩,.slice [],num 0,str ⟨#[]⟩,str ⟨#[]⟩,.slice [],.slice [],num 0,str ⟨#[]⟩,str ⟨#[]⟩,.slice [],.slice [],num 10,str ⟨#[97,47,118,49]⟩,str ⟨#[78]⟩,.slice [],.slice [],num 4,str ⟨#[97,47,118,49]⟩,str ⟨#[102]⟩,str ⟨#[]⟩,num 0,.slice [],.slice [],.slice [],str ⟨#[]⟩,str ⟨#[]⟩]
abbrev Gu:V:=.agg [str ⟨#[109,47,118,49]⟩,.slice [.agg [str ⟨#[97,47,118,49]⟩,str ⟨#[115]⟩]],.slice [PS,PT,PU,PW,PX]]
abbrev PY:V:=.agg [str ⟨#[]⟩,.slice [],.slice [PS]]
abbrev PZ:V:=.agg [str ⟨#[]⟩,.slice [],.slice [PT]]
abbrev P0:V:=.agg [str ⟨#[]⟩,.slice [],.slice [PU]]
abbrev P1:V:=.agg [str ⟨#[]⟩,.slice [],.slice [PW]]
abbrev P2:V:=.agg [str ⟨#[]⟩,.slice [],.slice [PX]]
theorem paM (hG:bg.g=some 1):bR af 79 [str ⟨#[109,47,118,49]⟩] (bl true):=by obtain⟨_,rfl,h⟩:=lJ hG ⟨#[109,47,118,49]⟩ (by decide);exact h
theorem paA (hG:bg.g=some 1):bR af 79 [str ⟨#[97,47,118,49]⟩] (bl true):=by obtain⟨_,rfl,h⟩:=lJ hG ⟨#[97,47,118,49]⟩ (by decide);exact h
theorem aiV (hG:bg.g=some 1):bR af 71 [Gu,PS] (bl true):=dg (bM (paM hG) (bM (paA hG) bH)) (cw hG) 3000 (by kernel_rfl)
theorem aiW (hG:bg.g=some 1):bR af 71 [Gu,PT] (bl true):=dg (bM (paM hG) (bM (paA hG) bH)) (cw hG) 3000 (by kernel_rfl)
theorem aiX (hG:bg.g=some 1):bR af 71 [Gu,PU] (bl true):=dg (bM (paM hG) (bM (paA hG) bH)) (cw hG) 3000 (by kernel_rfl)
theorem aiY (hG:bg.g=some 1):bR af 71 [Gu,PW] (bl true):=dg (bM (paM hG) (bM (paA hG) bH)) (cw hG) 3000 (by kernel_rfl)
theorem aiZ (hG:bg.g=some 1):bR af 71 [Gu,PX] (bl true):=dg (bM (paM hG) (bM (paA hG) bH)) (cw hG) 3000 (by kernel_rfl)
theorem ai0 (hG:bg.g=some 1):bR af 74 [PY,PY] (bl true):=dg bH (cw hG) 3000 (by kernel_rfl)
theorem ai1 (hG:bg.g=some 1):bR af 74 [PZ,PZ] (bl true):=dg bH (cw hG) 3000 (by kernel_rfl)
theorem ai2 (hG:bg.g=some 1):bR af 74 [P0,P0] (bl true):=dg bH (cw hG) 3000 (by kernel_rfl)
theorem ai3 (hG:bg.g=some 1):bR af 74 [P1,P1] (bl true):=dg bH (cw hG) 3000 (by kernel_rfl)
theorem adq (hG:bg.g=some 1):bR af 74 [P2,P2] (bl true):=dg bH (cw hG) 3000 (by kernel_rfl)
theorem fu {nat:pR} {mM:FuncId→List V→Option V} {rf:lG} (yI:pU af mM) (Mv:ki af rf) (cO:mL af nat) (n:Nat) {f:FuncId} {vs:List V} {mem:List bm} {outs:List (V×List bm)} (h:PI mem.length (S8 af tt (ev af tt CN nat mM rf n) f vs mem)=some outs):eB af f vs mem fun r m=>(r,m)∈outs :=
 eB.PI (fun _ hl=>vj yI Mv cO n hl) h
end Go.Proofs.YtnboooapeopjoaaGreatDoor
end
