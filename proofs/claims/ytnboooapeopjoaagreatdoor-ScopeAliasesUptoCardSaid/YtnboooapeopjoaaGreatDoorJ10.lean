import Derived.Test.YtnboooapeopjoaaGreatDoorJ9
open Go.Proofs.Tryz renaming prog→ab
set_option linter.all false
section
namespace Go.Proofs.YtnboooapeopjoaaGreatDoor
open Go.Eng
variable [a6]
set_option maxHeartbeats 4000000
set_option maxRecDepth 100000
abbrev PU:V:=.agg [num 1,str ⟨#[118]⟩,bl false,bl false,str ⟨#[]⟩,.slice [],num 0,str ⟨#[]⟩,str ⟨#[]⟩,.slice [],.slice [],num 0,str ⟨#[]⟩,str ⟨#[]⟩,.slice [],.slice [],num 2,str ⟨#[]⟩,str ⟨#[]⟩,.slice [],.slice [],num 0,str ⟨#[]⟩,str ⟨#[]⟩,str ⟨#[]⟩,num 1,.slice [],.slice [],.slice [],str ⟨#[]⟩,str ⟨#[]⟩]
abbrev UT:V:=.agg [num 3,str ⟨#[]⟩,str ⟨#[118]⟩,str ⟨#[]⟩,num 0,.slice [],.slice [],.slice []]
abbrev PV:V:=.agg [num 1,str ⟨#[119]⟩,bl false,bl false,str ⟨#[]⟩,.slice [],num 0,str ⟨#[]⟩,str ⟨#[]⟩,.slice [],.slice [],num 0,str ⟨#[]⟩,str ⟨#[]⟩,.slice [],.slice [],num 2,str ⟨#[]⟩,str ⟨#[]⟩,.slice [],.slice [],num 10,str ⟨#[]⟩,str ⟨#[118]⟩,str ⟨#[]⟩,num 0,.slice [],.slice [],.slice [.agg [num 0,str ⟨#[]⟩,str ⟨#[]⟩,str ⟨#[]⟩,num 2,.slice [],.slice [],.slice []],.agg [num 16,str ⟨#[]⟩,str ⟨#[43]⟩,str ⟨#[]⟩,num 0,.slice [],.slice [],.slice [UT,UT]]],str ⟨#[]⟩,str ⟨#[]⟩]
abbrev PW:V:=.agg [num 1,str ⟨#[120]⟩,bl false,bl false,str ⟨#[]⟩,.slice [],num 0,str ⟨#[]⟩,str ⟨#[]⟩,.slice [],.slice [],num 0,str ⟨#[]⟩,str ⟨#[]⟩,.slice [],.slice [],num 2,str ⟨#[]⟩,str ⟨#[]⟩,.slice [],.slice [],num 4,str ⟨#[109,47,118,49]⟩,str ⟨#[118]⟩,str ⟨#[]⟩,num 0,.slice [],.slice [],.slice [],str ⟨#[]⟩,str ⟨#[]⟩]
abbrev adZ:V:=.slice [.agg [str ⟨#[65]⟩,num 0,num 0,str ⟨#[]⟩,str ⟨#[]⟩,.slice [],.slice []]]
abbrev PX:V:=.slice [.agg [num 9,str ⟨#[]⟩,str ⟨#[65]⟩,.slice [],.slice []]]
abbrev PY:V:=.agg [num 0,str ⟨#[80]⟩,bl false,bl false,str ⟨#[]⟩,adZ,num 5,str ⟨#[]⟩,str ⟨#[]⟩,PX,.slice [],num 5,str ⟨#[]⟩,str ⟨#[]⟩,PX,.slice [],num 5,str ⟨#[]⟩,str ⟨#[]⟩,PX,.slice [],num 0,str ⟨#[]⟩,str ⟨#[]⟩,str ⟨#[]⟩,num 0,.slice [],.slice [],.slice [],str ⟨#[]⟩,str ⟨#[]⟩]
abbrev PZ:V:=.agg [num 1,str ⟨#[121]⟩,bl false,bl false,str ⟨#[]⟩,.slice [],num 0,str ⟨#[]⟩,str ⟨#[]⟩,.slice [],.slice [],num 0,str ⟨#[]⟩,str ⟨#[]⟩,.slice [],.slice [],num 10,str ⟨#[97,47,118,49]⟩,str ⟨#[78]⟩,.slice [],.slice [],num 4,str ⟨#[97,47,118,49]⟩,str ⟨#[102]⟩,str ⟨#[]⟩,num 0,.slice [],.slice [],.slice [],str ⟨#[]⟩,str ⟨#[]⟩]
abbrev F8:V:=.agg [str ⟨#[109,47,118,49]⟩,.slice [.agg [str ⟨#[97,47,118,49]⟩,str ⟨#[115]⟩]],.slice [PU,PV,PW,PY,PZ]]
abbrev P0:V:=.agg [str ⟨#[]⟩,.slice [],.slice [PU]]
abbrev P1:V:=.agg [str ⟨#[]⟩,.slice [],.slice [PV]]
abbrev P2:V:=.agg [str ⟨#[]⟩,.slice [],.slice [PW]]
abbrev P3:V:=.agg [str ⟨#[]⟩,.slice [],.slice [PY]]
abbrev P4:V:=.agg [str ⟨#[]⟩,.slice [],.slice [PZ]]
theorem paM (hG:a6.g=some 1):bG ab 79 [str ⟨#[109,47,118,49]⟩] (bl true):=by obtain⟨_,rfl,h⟩:=kP hG ⟨#[109,47,118,49]⟩ (by decide);exact h
theorem paA (hG:a6.g=some 1):bG ab 79 [str ⟨#[97,47,118,49]⟩] (bl true):=by obtain⟨_,rfl,h⟩:=kP hG ⟨#[97,47,118,49]⟩ (by decide);exact h
theorem aif (hG:a6.g=some 1):bG ab 71 [F8,PU] (bl true):=cJ (bA (paM hG) (bA (paA hG) bo)) (b7 hG) 3000 (by kernel_rfl)
theorem aih (hG:a6.g=some 1):bG ab 71 [F8,PV] (bl true):=cJ (bA (paM hG) (bA (paA hG) bo)) (b7 hG) 3000 (by kernel_rfl)
theorem aii (hG:a6.g=some 1):bG ab 71 [F8,PW] (bl true):=cJ (bA (paM hG) (bA (paA hG) bo)) (b7 hG) 3000 (by kernel_rfl)
theorem aij (hG:a6.g=some 1):bG ab 71 [F8,PY] (bl true):=cJ (bA (paM hG) (bA (paA hG) bo)) (b7 hG) 3000 (by kernel_rfl)
theorem aik (hG:a6.g=some 1):bG ab 71 [F8,PZ] (bl true):=cJ (bA (paM hG) (bA (paA hG) bo)) (b7 hG) 3000 (by kernel_rfl)
theorem ail (hG:a6.g=some 1):bG ab 74 [P0,P0] (bl true):=cJ bo (b7 hG) 3000 (by kernel_rfl)
theorem aim (hG:a6.g=some 1):bG ab 74 [P1,P1] (bl true):=cJ bo (b7 hG) 3000 (by kernel_rfl)
theorem ain (hG:a6.g=some 1):bG ab 74 [P2,P2] (bl true):=cJ bo (b7 hG) 3000 (by kernel_rfl)
theorem aio (hG:a6.g=some 1):bG ab 74 [P3,P3] (bl true):=cJ bo (b7 hG) 3000 (by kernel_rfl)
theorem ad2 (hG:a6.g=some 1):bG ab 74 [P4,P4] (bl true):=cJ bo (b7 hG) 3000 (by kernel_rfl)
theorem eT {nat:oJ} {lQ:FuncId→List V→Option V} {qa:kM} (xn:oM ab lQ) (Kc:jE ab qa) (cq:lP ab nat) (n:Nat) {f:FuncId} {vs:List V} {mem:List ba} {outs:List (V×List ba)} (h:Nu mem.length (QL ab tt (ev ab tt Ba nat lQ qa n) f vs mem)=some outs):dR ab f vs mem fun r m=>(r,m)∈outs :=
 dR.Nu (fun _ hl=>tZ xn Kc cq n hl) h
end Go.Proofs.YtnboooapeopjoaaGreatDoor
end
