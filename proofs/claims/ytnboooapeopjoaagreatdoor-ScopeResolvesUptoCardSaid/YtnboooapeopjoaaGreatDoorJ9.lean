import Derived.Test.YtnboooapeopjoaaGreatDoorJ8
open Go.Proofs.Tryz renaming prog→ab
open List renaming all_eq_true→aX
open Nat renaming le_of_ble_eq_true→jf
set_option linter.all false
section
namespace Go.Proofs.YtnboooapeopjoaaGreatDoor
open Go.Eng
variable [bk]
set_option maxHeartbeats 4000000
set_option maxRecDepth 100000
abbrev fE:V:=.slice [.agg [num 5,str ⟨#[109,111,100,117,108,101]⟩,num 0],.agg [num 1,str ⟨#[109]⟩,num 7],.agg [num 6,str ⟨#[47]⟩,num 8],.agg [num 1,str ⟨#[118,49]⟩,num 9],.agg [num 5,str ⟨#[105,109,112,111,114,116]⟩,num 12],.agg [num 1,str ⟨#[97]⟩,num 19],.agg [num 6,str ⟨#[47]⟩,num 20],.agg [num 1,str ⟨#[118,49]⟩,num 21],.agg [num 5,str ⟨#[97,115]⟩,num 24],.agg [num 1,str ⟨#[115]⟩,num 27],.agg [num 5,str ⟨#[108,101,116]⟩,num 29],.agg [num 1,str ⟨#[118]⟩,num 33],.agg [num 6,str ⟨#[58]⟩,num 34],.agg [num 5,str ⟨#[105,110,116]⟩,num 36],.agg [num 6,str ⟨#[61]⟩,num 40],.agg [num 3,str ⟨#[49]⟩,num 42],.agg [num 5,str ⟨#[108,101,116]⟩,num 44],.agg [num 1,str ⟨#[119]⟩,num 48],.agg [num 6,str ⟨#[58]⟩,num 49],.agg [num 5,str ⟨#[105,110,116]⟩,num 51],.agg [num 6,str ⟨#[61]⟩,num 55],.agg [num 5,str ⟨#[108,101,116]⟩,num 57],.agg [num 1,str ⟨#[118]⟩,num 61],.agg [num 6,str ⟨#[61]⟩,num 63],.agg [num 3,str ⟨#[50]⟩,num 65],.agg [num 5,str ⟨#[105,110]⟩,num 67],.agg [num 1,str ⟨#[118]⟩,num 70],.agg [num 6,str ⟨#[43]⟩,num 72],.agg [num 1,str ⟨#[118]⟩,num 74],.agg [num 5,str ⟨#[108,101,116]⟩,num 76],.agg [num 1,str ⟨#[120]⟩,num 80],.agg [num 6,str ⟨#[58]⟩,num 81],.agg [num 5,str ⟨#[105,110,116]⟩,num 83],.agg [num 6,str ⟨#[61]⟩,num 87],.agg [num 1,str ⟨#[118]⟩,num 89],.agg [num 5,str ⟨#[116,121,112,101]⟩,num 91],.agg [num 2,str ⟨#[80]⟩,num 96],.agg [num 6,str ⟨#[91]⟩,num 97],.agg [num 6,str ⟨#[43]⟩,num 98],.agg [num 2,str ⟨#[65]⟩,num 99],.agg [num 6,str ⟨#[93]⟩,num 100],.agg [num 6,str ⟨#[61]⟩,num 102],.agg [num 5,str ⟨#[108,105,115,116]⟩,num 104],.agg [num 6,str ⟨#[91]⟩,num 108],.agg [num 2,str ⟨#[65]⟩,num 109],.agg [num 6,str ⟨#[93]⟩,num 110],.agg [num 5,str ⟨#[108,101,116]⟩,num 112],.agg [num 1,str ⟨#[121]⟩,num 116],.agg [num 6,str ⟨#[58]⟩,num 117],.agg [num 1,str ⟨#[115]⟩,num 119],.agg [num 6,str ⟨#[58,58]⟩,num 120],.agg [num 2,str ⟨#[78]⟩,num 122],.agg [num 6,str ⟨#[61]⟩,num 124],.agg [num 1,str ⟨#[115]⟩,num 126],.agg [num 6,str ⟨#[58,58]⟩,num 127],.agg [num 1,str ⟨#[102]⟩,num 129],.agg [num 0,str ⟨#[]⟩,num 130]]
abbrev Ub:V:=.agg [num 2,str ⟨#[]⟩,str ⟨#[]⟩,.slice [],.slice []]
abbrev ZF:V:=.agg [num 1,str ⟨#[118]⟩,bl false,bl false,str ⟨#[]⟩,.slice [],num 0,str ⟨#[]⟩,str ⟨#[]⟩,.slice [],.slice [],num 0,str ⟨#[]⟩,str ⟨#[]⟩,.slice [],.slice [],num 2,str ⟨#[]⟩,str ⟨#[]⟩,.slice [],.slice [],num 0,str ⟨#[]⟩,str ⟨#[]⟩,str ⟨#[]⟩,num 1,.slice [],.slice [],.slice [],str ⟨#[]⟩,str ⟨#[]⟩]
abbrev Uc:V:=.agg [num 0,str ⟨#[]⟩,str ⟨#[]⟩,str ⟨#[]⟩,num 2,.slice [],.slice [],.slice []]
abbrev Ud:V:=.agg [num 3,str ⟨#[]⟩,str ⟨#[118]⟩,str ⟨#[]⟩,num 0,.slice [],.slice [],.slice []]
abbrev Ue:V:=.agg [num 16,str ⟨#[]⟩,str ⟨#[43]⟩,str ⟨#[]⟩,num 0,.slice [],.slice [],.slice [Ud,Ud]]
abbrev ZG:V:=.agg [num 1,str ⟨#[119]⟩,bl false,bl false,str ⟨#[]⟩,.slice [],num 0,str ⟨#[]⟩,str ⟨#[]⟩,.slice [],.slice [],num 0,str ⟨#[]⟩,str ⟨#[]⟩,.slice [],.slice [],num 2,str ⟨#[]⟩,str ⟨#[]⟩,.slice [],.slice [],num 10,str ⟨#[]⟩,str ⟨#[118]⟩,str ⟨#[]⟩,num 0,.slice [],.slice [],.slice [Uc,Ue],str ⟨#[]⟩,str ⟨#[]⟩]
abbrev ZH:V:=.agg [num 1,str ⟨#[120]⟩,bl false,bl false,str ⟨#[]⟩,.slice [],num 0,str ⟨#[]⟩,str ⟨#[]⟩,.slice [],.slice [],num 0,str ⟨#[]⟩,str ⟨#[]⟩,.slice [],.slice [],num 2,str ⟨#[]⟩,str ⟨#[]⟩,.slice [],.slice [],num 3,str ⟨#[]⟩,str ⟨#[118]⟩,str ⟨#[]⟩,num 0,.slice [],.slice [],.slice [],str ⟨#[]⟩,str ⟨#[]⟩]
abbrev JI:V:=.agg [num 10,str ⟨#[]⟩,str ⟨#[65]⟩,.slice [],.slice []]
abbrev ZI:V:=.agg [num 0,str ⟨#[80]⟩,bl false,bl false,str ⟨#[]⟩,.slice [.agg [str ⟨#[65]⟩,num 0,num 0,str ⟨#[]⟩,str ⟨#[]⟩,.slice [],.slice []]],num 5,str ⟨#[]⟩,str ⟨#[]⟩,.slice [JI],.slice [],num 5,str ⟨#[]⟩,str ⟨#[]⟩,.slice [JI],.slice [],num 5,str ⟨#[]⟩,str ⟨#[]⟩,.slice [JI],.slice [],num 0,str ⟨#[]⟩,str ⟨#[]⟩,str ⟨#[]⟩,num 0,.slice [],.slice [],.slice [],str ⟨#[]⟩,str ⟨#[]⟩]
abbrev Uf:V:=.ec [ZI,.agg [fE,num 46,num 0,num 0]]
abbrev Ug:V:=.agg [num 1,str ⟨#[121]⟩,bl false,bl false,str ⟨#[]⟩,.slice [],num 0,str ⟨#[]⟩,str ⟨#[]⟩,.slice [],.slice [],num 0,str ⟨#[]⟩,str ⟨#[]⟩,.slice [],.slice [],num 10,str ⟨#[115]⟩,str ⟨#[78]⟩,.slice [],.slice [],num 4,str ⟨#[115]⟩,str ⟨#[102]⟩,str ⟨#[]⟩,num 0,.slice [],.slice [],.slice [],str ⟨#[]⟩,str ⟨#[]⟩]
abbrev vu:V:=.agg [str ⟨#[109,47,118,49]⟩,.slice [.agg [str ⟨#[97,47,118,49]⟩,str ⟨#[115]⟩]],.slice [ZF,ZG,ZH,ZI,Ug]]
theorem aiD (hG:bk.g=some 1):cx ab 15 [str ⟨#[109,47,118,49]⟩] (bl true):=cU bD (cg hG) 3000 kr
theorem anJ (hG:bk.g=some 1):cx ab 63 [.agg [fE,num 1,num 0,num 0]] (.ec [str ⟨#[109,47,118,49]⟩,.agg [fE,num 4,num 0,num 0]]):=cU (bL (aiD hG) bD) (cg hG) 3000 kr
theorem aiE (hG:bk.g=some 1):cx ab 15 [str ⟨#[97,47,118,49]⟩] (bl true):=cU bD (cg hG) 3000 kr
theorem anK (hG:bk.g=some 1):cx ab 63 [.agg [fE,num 5,num 0,num 0]] (.ec [str ⟨#[97,47,118,49]⟩,.agg [fE,num 8,num 0,num 0]]):=cU (bL (aiE hG) bD) (cg hG) 3000 kr
theorem anL (hG:bk.g=some 1):cx ab 113 [.agg [fE,num 13,num 0,num 0]] (.ec [Ub,.agg [fE,num 14,num 0,num 0]]):=cU bD (cg hG) 3000 kr
theorem anM (hG:bk.g=some 1):cx ab 114 [.agg [fE,num 15,num 0,num 0]] (.ec [.agg [num 0,str ⟨#[]⟩,str ⟨#[]⟩,str ⟨#[]⟩,num 1,.slice [],.slice [],.slice []],.agg [fE,num 16,num 0,num 0]]):=cU bD (cg hG) 3000 kr
theorem anN (hG:bk.g=some 1):cx ab 69 [.agg [fE,num 10,num 0,num 0]] (.ec [ZF,.agg [fE,num 16,num 0,num 0]]):=cU (bL (anL hG) (bL (anM hG) bD)) (cg hG) 3000 kr
theorem anO (hG:bk.g=some 1):cx ab 113 [.agg [fE,num 19,num 0,num 0]] (.ec [Ub,.agg [fE,num 20,num 0,num 0]]):=cU bD (cg hG) 3000 kr
theorem anP (hG:bk.g=some 1):cx ab 114 [.agg [fE,num 24,num 0,num 0]] (.ec [Uc,.agg [fE,num 25,num 0,num 0]]):=cU bD (cg hG) 3000 kr
theorem anQ (hG:bk.g=some 1):cx ab 114 [.agg [fE,num 26,num 0,num 0]] (.ec [Ue,.agg [fE,num 29,num 0,num 0]]):=cU bD (cg hG) 3000 kr
theorem aiF (hG:bk.g=some 1):cx ab 114 [.agg [fE,num 21,num 0,num 0]] (.ec [.agg [num 10,str ⟨#[]⟩,str ⟨#[118]⟩,str ⟨#[]⟩,num 0,.slice [],.slice [],.slice [Uc,Ue]],.agg [fE,num 29,num 0,num 0]]):=cU (bL (anP hG) (bL (anQ hG) bD)) (cg hG) 3000 kr
theorem aiG (hG:bk.g=some 1):cx ab 69 [.agg [fE,num 16,num 0,num 0]] (.ec [ZG,.agg [fE,num 29,num 0,num 0]]):=cU (bL (anO hG) (bL (aiF hG) bD)) (cg hG) 3000 kr
theorem aiH (hG:bk.g=some 1):cx ab 113 [.agg [fE,num 32,num 0,num 0]] (.ec [Ub,.agg [fE,num 33,num 0,num 0]]):=cU bD (cg hG) 3000 kr
theorem aiI (hG:bk.g=some 1):cx ab 114 [.agg [fE,num 34,num 0,num 0]] (.ec [Ud,.agg [fE,num 35,num 0,num 0]]):=cU bD (cg hG) 3000 kr
theorem aiJ (hG:bk.g=some 1):cx ab 69 [.agg [fE,num 29,num 0,num 0]] (.ec [ZH,.agg [fE,num 35,num 0,num 0]]):=cU (bL (aiH hG) (bL (aiI hG) bD)) (cg hG) 3000 kr
theorem aiK (hG:bk.g=some 1):cx ab 113 [.agg [fE,num 44,num 0,num 0]] (.ec [JI,.agg [fE,num 45,num 0,num 0]]):=cU bD (cg hG) 3000 kr
theorem aiL (hG:bk.g=some 1):cx ab 113 [.agg [fE,num 42,num 0,num 0]] (.ec [.agg [num 5,str ⟨#[]⟩,str ⟨#[]⟩,.slice [JI],.slice []],.agg [fE,num 46,num 0,num 0]]):=cU (bL (aiK hG) bD) (cg hG) 3000 kr
theorem aiM (hG:bk.g=some 1):cx ab 111 [.agg [num 0,str ⟨#[]⟩,bl false,bl false,str ⟨#[]⟩,.slice [],num 0,str ⟨#[]⟩,str ⟨#[]⟩,.slice [],.slice [],num 0,str ⟨#[]⟩,str ⟨#[]⟩,.slice [],.slice [],num 0,str ⟨#[]⟩,str ⟨#[]⟩,.slice [],.slice [],num 0,str ⟨#[]⟩,str ⟨#[]⟩,str ⟨#[]⟩,num 0,.slice [],.slice [],.slice [],str ⟨#[]⟩,str ⟨#[]⟩],.agg [fE,num 36,num 0,num 0]] Uf:=cU (bL (aiL hG) bD) (cg hG) 3000 kr
theorem aiN (hG:bk.g=some 1):cx ab 69 [.agg [fE,num 35,num 0,num 0]] Uf:=cU (bL (aiM hG) bD) (cg hG) 3000 kr
theorem aiO (hG:bk.g=some 1):cx ab 113 [.agg [fE,num 49,num 0,num 0]] (.ec [.agg [num 10,str ⟨#[115]⟩,str ⟨#[78]⟩,.slice [],.slice []],.agg [fE,num 52,num 0,num 0]]):=cU bD (cg hG) 3000 kr
theorem aiP (hG:bk.g=some 1):cx ab 114 [.agg [fE,num 53,num 0,num 0]] (.ec [.agg [num 4,str ⟨#[115]⟩,str ⟨#[102]⟩,str ⟨#[]⟩,num 0,.slice [],.slice [],.slice []],.agg [fE,num 56,num 0,num 0]]):=cU bD (cg hG) 3000 kr
theorem aiQ (hG:bk.g=some 1):cx ab 69 [.agg [fE,num 46,num 0,num 0]] (.ec [Ug,.agg [fE,num 56,num 0,num 0]]):=cU (bL (aiO hG) (bL (aiP hG) bD)) (cg hG) 3000 kr
theorem aiR (hG:bk.g=some 1):cx ab 90 [vu,num 0] (num 0):=cU bD (cg hG) 3000 kr
theorem aiS (hG:bk.g=some 1):cx ab 90 [vu,num 1] (num 0):=cU bD (cg hG) 3000 kr
theorem aiT (hG:bk.g=some 1):cx ab 90 [vu,num 2] (num 0):=cU bD (cg hG) 3000 kr
theorem aiU (hG:bk.g=some 1):cx ab 90 [vu,num 3] (num 0):=cU bD (cg hG) 3000 kr
theorem aiV (hG:bk.g=some 1):cx ab 90 [vu,num 4] (num 0):=cU bD (cg hG) 3000 kr
theorem aiW (hG:bk.g=some 1):cx ab 37 [vu] (.ec [num 0,num 0]):=cU (bL (aiD hG) (bL (aiE hG) (bL (aiR hG) (bL (aiS hG) (bL (aiT hG) (bL (aiU hG) (bL (aiV hG) bD))))))) (cg hG) 3000 kr
theorem aiX (hG:bk.g=some 1):cx ab 26 [str ⟨#[109,111,100,117,108,101,32,109,47,118,49,32,105,109,112,111,114,116,32,97,47,118,49,32,97,115,32,115,32,108,101,116,32,118,58,32,105,110,116,32,61,32,49,32,108,101,116,32,119,58,32,105,110,116,32,61,32,108,101,116,32,118,32,61,32,50,32,105,110,32,118,32,43,32,118,32,108,101,116,32,120,58,32,105,110,116,32,61,32,118,32,116,121,112,101,32,80,91,43,65,93,32,61,32,108,105,115,116,91,65,93,32,108,101,116,32,121,58,32,115,58,58,78,32,61,32,115,58,58,102]⟩] (.ec [vu,num 0,num 0]):=cU (bL (anI hG) (bL (anJ hG) (bL (anK hG) (bL (anN hG) (bL (aiG hG) (bL (aiJ hG) (bL (aiN hG) (bL (aiQ hG) (bL (aiW hG) bD))))))))) (cg hG) 3000 kr
def Uh:Md:=⟨⟨#[109,47,118,49]⟩,[⟨⟨#[97,47,118,49]⟩,⟨#[115]⟩⟩],[⟨1,⟨#[118]⟩,false,false,⟨#[]⟩,[],(.mk 0 ⟨#[]⟩ ⟨#[]⟩ [] []),(.mk 0 ⟨#[]⟩ ⟨#[]⟩ [] []),(.mk 2 ⟨#[]⟩ ⟨#[]⟩ [] []),(.mk 0 ⟨#[]⟩ ⟨#[]⟩ ⟨#[]⟩ 1 [] [] []),⟨#[]⟩,⟨#[]⟩⟩,
 ⟨1,⟨#[119]⟩,false,false,⟨#[]⟩,[],(.mk 0 ⟨#[]⟩ ⟨#[]⟩ [] []),(.mk 0 ⟨#[]⟩ ⟨#[]⟩ [] []),(.mk 2 ⟨#[]⟩ ⟨#[]⟩ [] []),(.mk 10 ⟨#[]⟩ ⟨#[118]⟩ ⟨#[]⟩ 0 [] [] [(.mk 0 ⟨#[]⟩ ⟨#[]⟩ ⟨#[]⟩ 2 [] [] []),(.mk 16 ⟨#[]⟩ ⟨#[43]⟩ ⟨#[]⟩ 0 [] [] [(.mk 3 ⟨#[]⟩ ⟨#[118]⟩ ⟨#[]⟩ 0 [] [] []),(.mk 3 ⟨#[]⟩ ⟨#[118]⟩ ⟨#[]⟩ 0 [] [] [])])]),⟨#[]⟩,⟨#[]⟩⟩,
 ⟨1,⟨#[120]⟩,false,false,⟨#[]⟩,[],(.mk 0 ⟨#[]⟩ ⟨#[]⟩ [] []),(.mk 0 ⟨#[]⟩ ⟨#[]⟩ [] []),(.mk 2 ⟨#[]⟩ ⟨#[]⟩ [] []),(.mk 3 ⟨#[]⟩ ⟨#[118]⟩ ⟨#[]⟩ 0 [] [] []),⟨#[]⟩,⟨#[]⟩⟩,
 ⟨0,⟨#[80]⟩,false,false,⟨#[]⟩,[⟨⟨#[65]⟩,0,(.mk 0 ⟨#[]⟩ ⟨#[]⟩ [] [])⟩],(.mk 5 ⟨#[]⟩ ⟨#[]⟩ [(.mk 10 ⟨#[]⟩ ⟨#[65]⟩ [] [])] []),(.mk 5 ⟨#[]⟩ ⟨#[]⟩ [(.mk 10 ⟨#[]⟩ ⟨#[65]⟩ [] [])] []),(.mk 5 ⟨#[]⟩ ⟨#[]⟩ [(.mk 10 ⟨#[]⟩ ⟨#[65]⟩ [] [])] []),(.mk 0 ⟨#[]⟩ ⟨#[]⟩ ⟨#[]⟩ 0 [] [] []),⟨#[]⟩,⟨#[]⟩⟩,
 ⟨1,⟨#[121]⟩,false,false,⟨#[]⟩,[],(.mk 0 ⟨#[]⟩ ⟨#[]⟩ [] []),(.mk 0 ⟨#[]⟩ ⟨#[]⟩ [] []),(.mk 10 ⟨#[115]⟩ ⟨#[78]⟩ [] []),(.mk 4 ⟨#[115]⟩ ⟨#[102]⟩ ⟨#[]⟩ 0 [] [] []),⟨#[]⟩,⟨#[]⟩⟩]⟩
def mdR:Md:=⟨⟨#[109,47,118,49]⟩,[⟨⟨#[97,47,118,49]⟩,⟨#[115]⟩⟩],[⟨1,⟨#[118]⟩,false,false,⟨#[]⟩,[],(.mk 0 ⟨#[]⟩ ⟨#[]⟩ [] []),(.mk 0 ⟨#[]⟩ ⟨#[]⟩ [] []),(.mk 2 ⟨#[]⟩ ⟨#[]⟩ [] []),(.mk 0 ⟨#[]⟩ ⟨#[]⟩ ⟨#[]⟩ 1 [] [] []),⟨#[]⟩,⟨#[]⟩⟩,
 ⟨1,⟨#[119]⟩,false,false,⟨#[]⟩,[],(.mk 0 ⟨#[]⟩ ⟨#[]⟩ [] []),(.mk 0 ⟨#[]⟩ ⟨#[]⟩ [] []),(.mk 2 ⟨#[]⟩ ⟨#[]⟩ [] []),(.mk 10 ⟨#[]⟩ ⟨#[118]⟩ ⟨#[]⟩ 0 [] [] [(.mk 0 ⟨#[]⟩ ⟨#[]⟩ ⟨#[]⟩ 2 [] [] []),(.mk 16 ⟨#[]⟩ ⟨#[43]⟩ ⟨#[]⟩ 0 [] [] [(.mk 3 ⟨#[]⟩ ⟨#[118]⟩ ⟨#[]⟩ 0 [] [] []),(.mk 3 ⟨#[]⟩ ⟨#[118]⟩ ⟨#[]⟩ 0 [] [] [])])]),⟨#[]⟩,⟨#[]⟩⟩,
 ⟨1,⟨#[120]⟩,false,false,⟨#[]⟩,[],(.mk 0 ⟨#[]⟩ ⟨#[]⟩ [] []),(.mk 0 ⟨#[]⟩ ⟨#[]⟩ [] []),(.mk 2 ⟨#[]⟩ ⟨#[]⟩ [] []),(.mk 4 ⟨#[109,47,118,49]⟩ ⟨#[118]⟩ ⟨#[]⟩ 0 [] [] []),⟨#[]⟩,⟨#[]⟩⟩,
 ⟨0,⟨#[80]⟩,false,false,⟨#[]⟩,[⟨⟨#[65]⟩,0,(.mk 0 ⟨#[]⟩ ⟨#[]⟩ [] [])⟩],(.mk 5 ⟨#[]⟩ ⟨#[]⟩ [(.mk 9 ⟨#[]⟩ ⟨#[65]⟩ [] [])] []),(.mk 5 ⟨#[]⟩ ⟨#[]⟩ [(.mk 9 ⟨#[]⟩ ⟨#[65]⟩ [] [])] []),(.mk 5 ⟨#[]⟩ ⟨#[]⟩ [(.mk 9 ⟨#[]⟩ ⟨#[65]⟩ [] [])] []),(.mk 0 ⟨#[]⟩ ⟨#[]⟩ ⟨#[]⟩ 0 [] [] []),⟨#[]⟩,⟨#[]⟩⟩,
 ⟨1,⟨#[121]⟩,false,false,⟨#[]⟩,[],(.mk 0 ⟨#[]⟩ ⟨#[]⟩ [] []),(.mk 0 ⟨#[]⟩ ⟨#[]⟩ [] []),(.mk 10 ⟨#[97,47,118,49]⟩ ⟨#[78]⟩ [] []),(.mk 4 ⟨#[97,47,118,49]⟩ ⟨#[102]⟩ ⟨#[]⟩ 0 [] [] []),⟨#[]⟩,⟨#[]⟩⟩]⟩
theorem hdX:vG Uh=0:=Zg _ kr kr kr kr kr
theorem hdR:vG mdR=0:=Zg _ kr kr kr kr kr
theorem cmX:ov Uh=(0,0):=by unfold ov;rw [if_neg (by rw [hdX];simp)];kernel_rfl
theorem cmR:ov mdR=(0,0):=by unfold ov;rw [if_neg (by rw [hdR];simp)];kernel_rfl
theorem XT:mH Uh=(mdR,0,0):=by unfold mH;rw [cmX];kernel_rfl
theorem wtX:Uh.wt≤1048576:=jf kr
theorem wtR:mdR.wt≤1048576:=jf kr
theorem wdX:∀ d∈Uh.decls,d.wt≤1048576:=fun d hd=>jf (aX.1 (show Uh.decls.all (fun d=>Nat.ble d.wt 1048576)=true from kr) d hd)
theorem ado (hG:bk.g=some 1):cx ab 31 [iM Uh] (.ec [num 0,num 0]):=by obtain⟨_,rfl,this⟩:=oY hG Uh wtX;rwa [cmX] at this
theorem adp (hG:bk.g=some 1):cx ab 31 [iM mdR] (.ec [num 0,num 0]):=by obtain⟨_,rfl,this⟩:=oY hG mdR wtR;rwa [cmR] at this
theorem adq (hG:bk.g=some 1):cx ab 9 [iM Uh] (.ec [iM mdR,num 0,num 0]):=by obtain⟨_,rfl,this⟩:=CH hG Uh (jf kr) (jf kr) wdX (SZ Uh) (by rw [cmX];exact ado hG);rwa [XT] at this
end Go.Proofs.YtnboooapeopjoaaGreatDoor
end
