import Derived.Test.YtnboooapeopjoaaGreatDoorJ9
open Go.Proofs.Tryz renaming prog→af
open List renaming all_eq_true→a7
open Nat renaming le_of_ble_eq_true→jd
set_option linter.all false
section
namespace Go.Proofs.YtnboooapeopjoaaGreatDoor
open Go.Eng
variable [bg]
set_option maxHeartbeats 4000000
set_option maxRecDepth 100000
abbrev fJ:V:=.slice [.agg [num 5,str ⟨#[109,111,100,117,108,101]⟩,num 0],.agg [num 1,str ⟨#[109]⟩,num 7],.agg [num 6,str ⟨#[47]⟩,num 8],.agg [num 1,str ⟨#[118,49]⟩,num 9],.agg [num 5,str ⟨#[105,109,112,111,114,116]⟩,num 12],.agg [num 1,str ⟨#[97]⟩,num 19],.agg [num 6,str ⟨#[47]⟩,num 20],.agg [num 1,str ⟨#[118,49]⟩,num 21],.agg [num 5,str ⟨#[97,115]⟩,num 24],.agg [num 1,str ⟨#[115]⟩,num 27],.agg [num 5,str ⟨#[108,101,116]⟩,num 29],.agg [num 1,str ⟨#[118]⟩,num 33],.agg [num 6,str ⟨#[58]⟩,num 34],.agg [num 5,str ⟨#[105,110,116]⟩,num 36],.agg [num 6,str ⟨#[61]⟩,num 40],.agg [num 3,str ⟨#[49]⟩,num 42],.agg [num 5,str ⟨#[108,101,116]⟩,num 44],.agg [num 1,str ⟨#[119]⟩,num 48],.agg [num 6,str ⟨#[58]⟩,num 49],.agg [num 5,str ⟨#[105,110,116]⟩,num 51],.agg [num 6,str ⟨#[61]⟩,num 55],.agg [num 5,str ⟨#[108,101,116]⟩,num 57],.agg [num 1,str ⟨#[118]⟩,num 61],.agg [num 6,str ⟨#[61]⟩,num 63],.agg [num 3,str ⟨#[50]⟩,num 65],.agg [num 5,str ⟨#[105,110]⟩,num 67],.agg [num 1,str ⟨#[118]⟩,num 70],.agg [num 6,str ⟨#[43]⟩,num 72],.agg [num 1,str ⟨#[118]⟩,num 74],.agg [num 5,str ⟨#[108,101,116]⟩,num 76],.agg [num 1,str ⟨#[120]⟩,num 80],.agg [num 6,str ⟨#[58]⟩,num 81],.agg [num 5,str ⟨#[105,110,116]⟩,num 83],.agg [num 6,str ⟨#[61]⟩,num 87],.agg [num 1,str ⟨#[118]⟩,num 89],.agg [num 5,str ⟨#[116,121,112,101]⟩,num 91],.agg [num 2,str ⟨#[80]⟩,num 96],.agg [num 6,str ⟨#[91]⟩,num 97],.agg [num 6,str ⟨#[43]⟩,num 98],.agg [num 2,str ⟨#[65]⟩,num 99],.agg [num 6,str ⟨#[93]⟩,num 100],.agg [num 6,str ⟨#[61]⟩,num 102],.agg [num 5,str ⟨#[108,105,115,116]⟩,num 104],.agg [num 6,str ⟨#[91]⟩,num 108],.agg [num 2,str ⟨#[65]⟩,num 109],.agg [num 6,str ⟨#[93]⟩,num 110],.agg [num 5,str ⟨#[108,101,116]⟩,num 112],.agg [num 1,str ⟨#[121]⟩,num 116],.agg [num 6,str ⟨#[58]⟩,num 117],.agg [num 1,str ⟨#[115]⟩,num 119],.agg [num 6,str ⟨#[58,58]⟩,num 120],.agg [num 2,str ⟨#[78]⟩,num 122],.agg [num 6,str ⟨#[61]⟩,num 124],.agg [num 1,str ⟨#[115]⟩,num 126],.agg [num 6,str ⟨#[58,58]⟩,num 127],.agg [num 1,str ⟨#[102]⟩,num 129],.agg [num 0,str ⟨#[]⟩,num 130]]
abbrev PJ:V:=.agg [num 2,str ⟨#[]⟩,str ⟨#[]⟩,.slice [],.slice []]
abbrev WW:V:=.agg [num 1,str ⟨#[118]⟩,bl false,bl false,str ⟨#[]⟩,.slice [],num 0,str ⟨#[]⟩,str ⟨#[]⟩,.slice [],.slice [],num 0,str ⟨#[]⟩,str ⟨#[]⟩,.slice [],.slice [],num 2,str ⟨#[]⟩,str ⟨#[]⟩,.slice [],.slice [],num 0,str ⟨#[]⟩,str ⟨#[]⟩,str ⟨#[]⟩,num 1,.slice [],.slice [],.slice [],str ⟨#[]⟩,str ⟨#[]⟩]
abbrev PK:V:=.agg [num 0,str ⟨#[]⟩,str ⟨#[]⟩,str ⟨#[]⟩,num 2,.slice [],.slice [],.slice []]
abbrev PL:V:=.agg [num 3,str ⟨#[]⟩,str ⟨#[118]⟩,str ⟨#[]⟩,num 0,.slice [],.slice [],.slice []]
abbrev PM:V:=.agg [num 16,str ⟨#[]⟩,str ⟨#[43]⟩,str ⟨#[]⟩,num 0,.slice [],.slice [],.slice [PL,PL]]
abbrev WX:V:=.agg [num 1,str ⟨#[119]⟩,bl false,bl false,str ⟨#[]⟩,.slice [],num 0,str ⟨#[]⟩,str ⟨#[]⟩,.slice [],.slice [],num 0,str ⟨#[]⟩,str ⟨#[]⟩,.slice [],.slice [],num 2,str ⟨#[]⟩,str ⟨#[]⟩,.slice [],.slice [],num 10,str ⟨#[]⟩,str ⟨#[118]⟩,str ⟨#[]⟩,num 0,.slice [],.slice [],.slice [PK,PM],str ⟨#[]⟩,str ⟨#[]⟩]
abbrev WY:V:=.agg [num 1,str ⟨#[120]⟩,bl false,bl false,str ⟨#[]⟩,.slice [],num 0,str ⟨#[]⟩,str ⟨#[]⟩,.slice [],.slice [],num 0,str ⟨#[]⟩,str ⟨#[]⟩,.slice [],.slice [],num 2,str ⟨#[]⟩,str ⟨#[]⟩,.slice [],.slice [],num 3,str ⟨#[]⟩,str ⟨#[118]⟩,str ⟨#[]⟩,num 0,.slice [],.slice [],.slice [],str ⟨#[]⟩,str ⟨#[]⟩]
abbrev Gt:V:=.agg [num 10,str ⟨#[]⟩,str ⟨#[65]⟩,.slice [],.slice []]
abbrev WZ:V:=.agg [num 0,str ⟨#[80]⟩,bl false,bl false,str ⟨#[]⟩,.slice [.agg [str ⟨#[65]⟩,num 0,num 0,str ⟨#[]⟩,str ⟨#[]⟩,.slice [],.slice []]],num 5,str ⟨#[]⟩,str ⟨#[]⟩,.slice [Gt],.slice [],num 5,str ⟨#[]⟩,str ⟨#[]⟩,.slice [Gt],.slice [],num 5,str ⟨#[]⟩,str ⟨#[]⟩,.slice [Gt],.slice [],num 0,str ⟨#[]⟩,str ⟨#[]⟩,str ⟨#[]⟩,num 0,.slice [],.slice [],.slice [],str ⟨#[]⟩,str ⟨#[]⟩]
abbrev PN:V:=.eV [WZ,.agg [fJ,num 46,num 0,num 0]]
abbrev PO:V:=.agg [num 1,str ⟨#[121]⟩,bl false,bl false,str ⟨#[]⟩,.slice [],num 0,str ⟨#[]⟩,str ⟨#[]⟩,.slice [],.slice [],num 0,str ⟨#[]⟩,str ⟨#[]⟩,.slice [],.slice [],num 10,str ⟨#[115]⟩,str ⟨#[78]⟩,.slice [],.slice [],num 4,str ⟨#[115]⟩,str ⟨#[102]⟩,str ⟨#[]⟩,num 0,.slice [],.slice [],.slice [],str ⟨#[]⟩,str ⟨#[]⟩]
abbrev uo:V:=.agg [str ⟨#[109,47,118,49]⟩,.slice [.agg [str ⟨#[97,47,118,49]⟩,str ⟨#[115]⟩]],.slice [WW,WX,WY,WZ,PO]]
theorem acZ (hG:bg.g=some 1):bR af 15 [str ⟨#[109,47,118,49]⟩] (bl true):=dg bH (cw hG) 3000 (by kernel_rfl)
theorem aiL (hG:bg.g=some 1):bR af 63 [.agg [fJ,num 1,num 0,num 0]] (.eV [str ⟨#[109,47,118,49]⟩,.agg [fJ,num 4,num 0,num 0]]):=dg (bM (acZ hG) bH) (cw hG) 3000 (by kernel_rfl)
theorem ac0 (hG:bg.g=some 1):bR af 15 [str ⟨#[97,47,118,49]⟩] (bl true):=dg bH (cw hG) 3000 (by kernel_rfl)
theorem aiM (hG:bg.g=some 1):bR af 63 [.agg [fJ,num 5,num 0,num 0]] (.eV [str ⟨#[97,47,118,49]⟩,.agg [fJ,num 8,num 0,num 0]]):=dg (bM (ac0 hG) bH) (cw hG) 3000 (by kernel_rfl)
theorem aiN (hG:bg.g=some 1):bR af 113 [.agg [fJ,num 13,num 0,num 0]] (.eV [PJ,.agg [fJ,num 14,num 0,num 0]]):=dg bH (cw hG) 3000 (by kernel_rfl)
theorem aiO (hG:bg.g=some 1):bR af 114 [.agg [fJ,num 15,num 0,num 0]] (.eV [.agg [num 0,str ⟨#[]⟩,str ⟨#[]⟩,str ⟨#[]⟩,num 1,.slice [],.slice [],.slice []],.agg [fJ,num 16,num 0,num 0]]):=dg bH (cw hG) 3000 (by kernel_rfl)
theorem aiP (hG:bg.g=some 1):bR af 69 [.agg [fJ,num 10,num 0,num 0]] (.eV [WW,.agg [fJ,num 16,num 0,num 0]]):=dg (bM (aiN hG) (bM (aiO hG) bH)) (cw hG) 3000 (by kernel_rfl)
theorem aiQ (hG:bg.g=some 1):bR af 113 [.agg [fJ,num 19,num 0,num 0]] (.eV [PJ,.agg [fJ,num 20,num 0,num 0]]):=dg bH (cw hG) 3000 (by kernel_rfl)
theorem aiR (hG:bg.g=some 1):bR af 114 [.agg [fJ,num 24,num 0,num 0]] (.eV [PK,.agg [fJ,num 25,num 0,num 0]]):=dg bH (cw hG) 3000 (by kernel_rfl)
theorem aiS (hG:bg.g=some 1):bR af 114 [.agg [fJ,num 26,num 0,num 0]] (.eV [PM,.agg [fJ,num 29,num 0,num 0]]):=dg bH (cw hG) 3000 (by kernel_rfl)
theorem ac1 (hG:bg.g=some 1):bR af 114 [.agg [fJ,num 21,num 0,num 0]] (.eV [.agg [num 10,str ⟨#[]⟩,str ⟨#[118]⟩,str ⟨#[]⟩,num 0,.slice [],.slice [],.slice [PK,PM]],.agg [fJ,num 29,num 0,num 0]]):=dg (bM (aiR hG) (bM (aiS hG) bH)) (cw hG) 3000 (by kernel_rfl)
theorem ac2 (hG:bg.g=some 1):bR af 69 [.agg [fJ,num 16,num 0,num 0]] (.eV [WX,.agg [fJ,num 29,num 0,num 0]]):=dg (bM (aiQ hG) (bM (ac1 hG) bH)) (cw hG) 3000 (by kernel_rfl)
theorem ac3 (hG:bg.g=some 1):bR af 113 [.agg [fJ,num 32,num 0,num 0]] (.eV [PJ,.agg [fJ,num 33,num 0,num 0]]):=dg bH (cw hG) 3000 (by kernel_rfl)
theorem ac4 (hG:bg.g=some 1):bR af 114 [.agg [fJ,num 34,num 0,num 0]] (.eV [PL,.agg [fJ,num 35,num 0,num 0]]):=dg bH (cw hG) 3000 (by kernel_rfl)
theorem ac5 (hG:bg.g=some 1):bR af 69 [.agg [fJ,num 29,num 0,num 0]] (.eV [WY,.agg [fJ,num 35,num 0,num 0]]):=dg (bM (ac3 hG) (bM (ac4 hG) bH)) (cw hG) 3000 (by kernel_rfl)
theorem ac6 (hG:bg.g=some 1):bR af 113 [.agg [fJ,num 44,num 0,num 0]] (.eV [Gt,.agg [fJ,num 45,num 0,num 0]]):=dg bH (cw hG) 3000 (by kernel_rfl)
theorem ac7 (hG:bg.g=some 1):bR af 113 [.agg [fJ,num 42,num 0,num 0]] (.eV [.agg [num 5,str ⟨#[]⟩,str ⟨#[]⟩,.slice [Gt],.slice []],.agg [fJ,num 46,num 0,num 0]]):=dg (bM (ac6 hG) bH) (cw hG) 3000 (by kernel_rfl)
theorem ac8 (hG:bg.g=some 1):bR af 111 [.agg [num 0,str ⟨#[]⟩,bl false,bl false,str ⟨#[]⟩,.slice [],num 0,str ⟨#[]⟩,str ⟨#[]⟩,.slice [],.slice [],num 0,str ⟨#[]⟩,str ⟨#[]⟩,.slice [],.slice [],num 0,str ⟨#[]⟩,str ⟨#[]⟩,.slice [],.slice [],num 0,str ⟨#[]⟩,str ⟨#[]⟩,str ⟨#[]⟩,num 0,.slice [],.slice [],.slice [],str ⟨#[]⟩,str ⟨#[]⟩],.agg [fJ,num 36,num 0,num 0]] PN:=dg (bM (ac7 hG) bH) (cw hG) 3000 (by kernel_rfl)
theorem ac9 (hG:bg.g=some 1):bR af 69 [.agg [fJ,num 35,num 0,num 0]] PN:=dg (bM (ac8 hG) bH) (cw hG) 3000 (by kernel_rfl)
theorem ada (hG:bg.g=some 1):bR af 113 [.agg [fJ,num 49,num 0,num 0]] (.eV [.agg [num 10,str ⟨#[115]⟩,str ⟨#[78]⟩,.slice [],.slice []],.agg [fJ,num 52,num 0,num 0]]):=dg bH (cw hG) 3000 (by kernel_rfl)
theorem adb (hG:bg.g=some 1):bR af 114 [.agg [fJ,num 53,num 0,num 0]] (.eV [.agg [num 4,str ⟨#[115]⟩,str ⟨#[102]⟩,str ⟨#[]⟩,num 0,.slice [],.slice [],.slice []],.agg [fJ,num 56,num 0,num 0]]):=dg bH (cw hG) 3000 (by kernel_rfl)
theorem ade (hG:bg.g=some 1):bR af 69 [.agg [fJ,num 46,num 0,num 0]] (.eV [PO,.agg [fJ,num 56,num 0,num 0]]):=dg (bM (ada hG) (bM (adb hG) bH)) (cw hG) 3000 (by kernel_rfl)
theorem adf (hG:bg.g=some 1):bR af 90 [uo,num 0] (num 0):=dg bH (cw hG) 3000 (by kernel_rfl)
theorem adg (hG:bg.g=some 1):bR af 90 [uo,num 1] (num 0):=dg bH (cw hG) 3000 (by kernel_rfl)
theorem adh (hG:bg.g=some 1):bR af 90 [uo,num 2] (num 0):=dg bH (cw hG) 3000 (by kernel_rfl)
theorem adi (hG:bg.g=some 1):bR af 90 [uo,num 3] (num 0):=dg bH (cw hG) 3000 (by kernel_rfl)
theorem adj (hG:bg.g=some 1):bR af 90 [uo,num 4] (num 0):=dg bH (cw hG) 3000 (by kernel_rfl)
theorem adk (hG:bg.g=some 1):bR af 37 [uo] (.eV [num 0,num 0]):=dg (bM (acZ hG) (bM (ac0 hG) (bM (adf hG) (bM (adg hG) (bM (adh hG) (bM (adi hG) (bM (adj hG) bH))))))) (cw hG) 3000 (by kernel_rfl)
theorem adl (hG:bg.g=some 1):bR af 26 [str ⟨#[109,111,100,117,108,101,32,109,47,118,49,32,105,109,112,111,114,116,32,97,47,118,49,32,97,115,32,115,32,108,101,116,32,118,58,32,105,110,116,32,61,32,49,32,108,101,116,32,119,58,32,105,110,116,32,61,32,108,101,116,32,118,32,61,32,50,32,105,110,32,118,32,43,32,118,32,108,101,116,32,120,58,32,105,110,116,32,61,32,118,32,116,121,112,101,32,80,91,43,65,93,32,61,32,108,105,115,116,91,65,93,32,108,101,116,32,121,58,32,115,58,58,78,32,61,32,115,58,58,102]⟩] (.eV [uo,num 0,num 0]):=dg (bM (aiT hG) (bM (aiL hG) (bM (aiM hG) (bM (aiP hG) (bM (ac2 hG) (bM (ac5 hG) (bM (ac9 hG) (bM (ade hG) (bM (adk hG) bH))))))))) (cw hG) 3000 (by kernel_rfl)
def PQ:Md:=⟨⟨#[109,47,118,49]⟩,[⟨⟨#[97,47,118,49]⟩,⟨#[115]⟩⟩],[⟨1,⟨#[118]⟩,false,false,⟨#[]⟩,[],(.mk 0 ⟨#[]⟩ ⟨#[]⟩ [] []),(.mk 0 ⟨#[]⟩ ⟨#[]⟩ [] []),(.mk 2 ⟨#[]⟩ ⟨#[]⟩ [] []),(.mk 0 ⟨#[]⟩ ⟨#[]⟩ ⟨#[]⟩ 1 [] [] []),⟨#[]⟩,⟨#[]⟩⟩,
 ⟨1,⟨#[119]⟩,false,false,⟨#[]⟩,[],(.mk 0 ⟨#[]⟩ ⟨#[]⟩ [] []),(.mk 0 ⟨#[]⟩ ⟨#[]⟩ [] []),(.mk 2 ⟨#[]⟩ ⟨#[]⟩ [] []),(.mk 10 ⟨#[]⟩ ⟨#[118]⟩ ⟨#[]⟩ 0 [] [] [(.mk 0 ⟨#[]⟩ ⟨#[]⟩ ⟨#[]⟩ 2 [] [] []),(.mk 16 ⟨#[]⟩ ⟨#[43]⟩ ⟨#[]⟩ 0 [] [] [(.mk 3 ⟨#[]⟩ ⟨#[118]⟩ ⟨#[]⟩ 0 [] [] []),(.mk 3 ⟨#[]⟩ ⟨#[118]⟩ ⟨#[]⟩ 0 [] [] [])])]),⟨#[]⟩,⟨#[]⟩⟩,
 ⟨1,⟨#[120]⟩,false,false,⟨#[]⟩,[],(.mk 0 ⟨#[]⟩ ⟨#[]⟩ [] []),(.mk 0 ⟨#[]⟩ ⟨#[]⟩ [] []),(.mk 2 ⟨#[]⟩ ⟨#[]⟩ [] []),(.mk 3 ⟨#[]⟩ ⟨#[118]⟩ ⟨#[]⟩ 0 [] [] []),⟨#[]⟩,⟨#[]⟩⟩,
 ⟨0,⟨#[80]⟩,false,false,⟨#[]⟩,[⟨⟨#[65]⟩,0,(.mk 0 ⟨#[]⟩ ⟨#[]⟩ [] [])⟩],(.mk 5 ⟨#[]⟩ ⟨#[]⟩ [(.mk 10 ⟨#[]⟩ ⟨#[65]⟩ [] [])] []),(.mk 5 ⟨#[]⟩ ⟨#[]⟩ [(.mk 10 ⟨#[]⟩ ⟨#[65]⟩ [] [])] []),(.mk 5 ⟨#[]⟩ ⟨#[]⟩ [(.mk 10 ⟨#[]⟩ ⟨#[65]⟩ [] [])] []),(.mk 0 ⟨#[]⟩ ⟨#[]⟩ ⟨#[]⟩ 0 [] [] []),⟨#[]⟩,⟨#[]⟩⟩,
 ⟨1,⟨#[121]⟩,false,false,⟨#[]⟩,[],(.mk 0 ⟨#[]⟩ ⟨#[]⟩ [] []),(.mk 0 ⟨#[]⟩ ⟨#[]⟩ [] []),(.mk 10 ⟨#[115]⟩ ⟨#[78]⟩ [] []),(.mk 4 ⟨#[115]⟩ ⟨#[102]⟩ ⟨#[]⟩ 0 [] [] []),⟨#[]⟩,⟨#[]⟩⟩]⟩
def Y6:Md:=⟨⟨#[109,47,118,49]⟩,[⟨⟨#[97,47,118,49]⟩,⟨#[115]⟩⟩],[⟨1,⟨#[118]⟩,false,false,⟨#[]⟩,[],(.mk 0 ⟨#[]⟩ ⟨#[]⟩ [] []),(.mk 0 ⟨#[]⟩ ⟨#[]⟩ [] []),(.mk 2 ⟨#[]⟩ ⟨#[]⟩ [] []),(.mk 0 ⟨#[]⟩ ⟨#[]⟩ ⟨#[]⟩ 1 [] [] []),⟨#[]⟩,⟨#[]⟩⟩,
 ⟨1,⟨#[119]⟩,false,false,⟨#[]⟩,[],(.mk 0 ⟨#[]⟩ ⟨#[]⟩ [] []),(.mk 0 ⟨#[]⟩ ⟨#[]⟩ [] []),(.mk 2 ⟨#[]⟩ ⟨#[]⟩ [] []),(.mk 10 ⟨#[]⟩ ⟨#[118]⟩ ⟨#[]⟩ 0 [] [] [(.mk 0 ⟨#[]⟩ ⟨#[]⟩ ⟨#[]⟩ 2 [] [] []),(.mk 16 ⟨#[]⟩ ⟨#[43]⟩ ⟨#[]⟩ 0 [] [] [(.mk 3 ⟨#[]⟩ ⟨#[118]⟩ ⟨#[]⟩ 0 [] [] []),(.mk 3 ⟨#[]⟩ ⟨#[118]⟩ ⟨#[]⟩ 0 [] [] [])])]),⟨#[]⟩,⟨#[]⟩⟩,
 ⟨1,⟨#[120]⟩,false,false,⟨#[]⟩,[],(.mk 0 ⟨#[]⟩ ⟨#[]⟩ [] []),(.mk 0 ⟨#[]⟩ ⟨#[]⟩ [] []),(.mk 2 ⟨#[]⟩ ⟨#[]⟩ [] []),(.mk 4 ⟨#[109,47,118,49]⟩ ⟨#[118]⟩ ⟨#[]⟩ 0 [] [] []),⟨#[]⟩,⟨#[]⟩⟩,
 ⟨0,⟨#[80]⟩,false,false,⟨#[]⟩,[⟨⟨#[65]⟩,0,(.mk 0 ⟨#[]⟩ ⟨#[]⟩ [] [])⟩],(.mk 5 ⟨#[]⟩ ⟨#[]⟩ [(.mk 9 ⟨#[]⟩ ⟨#[65]⟩ [] [])] []),(.mk 5 ⟨#[]⟩ ⟨#[]⟩ [(.mk 9 ⟨#[]⟩ ⟨#[65]⟩ [] [])] []),(.mk 5 ⟨#[]⟩ ⟨#[]⟩ [(.mk 9 ⟨#[]⟩ ⟨#[65]⟩ [] [])] []),(.mk 0 ⟨#[]⟩ ⟨#[]⟩ ⟨#[]⟩ 0 [] [] []),⟨#[]⟩,⟨#[]⟩⟩,
 ⟨1,⟨#[121]⟩,false,false,⟨#[]⟩,[],(.mk 0 ⟨#[]⟩ ⟨#[]⟩ [] []),(.mk 0 ⟨#[]⟩ ⟨#[]⟩ [] []),(.mk 10 ⟨#[97,47,118,49]⟩ ⟨#[78]⟩ [] []),(.mk 4 ⟨#[97,47,118,49]⟩ ⟨#[102]⟩ ⟨#[]⟩ 0 [] [] []),⟨#[]⟩,⟨#[]⟩⟩]⟩
theorem hdX:xk PQ=0:=W0 _ (by kernel_rfl) (by kernel_rfl) (by kernel_rfl) (by kernel_rfl) (by kernel_rfl)
theorem hdR:xk Y6=0:=W0 _ (by kernel_rfl) (by kernel_rfl) (by kernel_rfl) (by kernel_rfl) (by kernel_rfl)
theorem cmX:rU PQ=(0,0):=by unfold rU;rw [if_neg (by rw [hdX]; simp)];kernel_rfl
theorem cmR:rU Y6=(0,0):=by unfold rU;rw [if_neg (by rw [hdR]; simp)];kernel_rfl
theorem Ut:km PQ=(Y6,0,0):=by unfold km;rw [cmX];kernel_rfl
theorem wtX:PQ.wt≤1048576:=jd (by kernel_rfl)
theorem wtR:Y6.wt≤1048576:=jd (by kernel_rfl)
theorem wdX:∀ d∈PQ.decls,d.wt≤1048576:=fun d hd=>jd (a7.1 (show PQ.decls.all (fun d=>Nat.ble d.wt 1048576)=true from by kernel_rfl) d hd)
theorem Y7 (hG:bg.g=some 1):bR af 31 [kn PQ] (.eV [num 0,num 0]):=by obtain⟨_,rfl,this⟩:=oq hG PQ wtX;rwa [cmX] at this
theorem Y8 (hG:bg.g=some 1):bR af 31 [kn Y6] (.eV [num 0,num 0]):=by obtain⟨_,rfl,this⟩:=oq hG Y6 wtR;rwa [cmR] at this
theorem Y9 (hG:bg.g=some 1):bR af 9 [kn PQ] (.eV [kn Y6,num 0,num 0]):=by obtain⟨_,rfl,this⟩:=Ay hG PQ (jd (by kernel_rfl)) (jd (by kernel_rfl)) wdX (PR PQ) (by rw [cmX]; exact Y7 hG);rwa [Ut] at this
end Go.Proofs.YtnboooapeopjoaaGreatDoor
end
