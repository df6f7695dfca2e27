import Derived.Test.YtnboooapeopjoaaGreatDoorJ8
open Go.Proofs.Tryz renaming prog→ab
open List renaming all_eq_true→aY
open Nat renaming le_of_ble_eq_true→kg
set_option linter.all false
section
namespace Go.Proofs.YtnboooapeopjoaaGreatDoor
open Go.Eng
variable [a6]
set_option maxHeartbeats 4000000
set_option maxRecDepth 100000
abbrev fa:V:=.slice [.agg [num 5,str ⟨#[109,111,100,117,108,101]⟩,num 0],.agg [num 1,str ⟨#[109]⟩,num 7],.agg [num 6,str ⟨#[47]⟩,num 8],.agg [num 1,str ⟨#[118,49]⟩,num 9],.agg [num 5,str ⟨#[105,109,112,111,114,116]⟩,num 12],.agg [num 1,str ⟨#[97]⟩,num 19],.agg [num 6,str ⟨#[47]⟩,num 20],.agg [num 1,str ⟨#[118,49]⟩,num 21],.agg [num 5,str ⟨#[97,115]⟩,num 24],.agg [num 1,str ⟨#[115]⟩,num 27],.agg [num 5,str ⟨#[108,101,116]⟩,num 29],.agg [num 1,str ⟨#[118]⟩,num 33],.agg [num 6,str ⟨#[58]⟩,num 34],.agg [num 5,str ⟨#[105,110,116]⟩,num 36],.agg [num 6,str ⟨#[61]⟩,num 40],.agg [num 3,str ⟨#[49]⟩,num 42],.agg [num 5,str ⟨#[108,101,116]⟩,num 44],.agg [num 1,str ⟨#[119]⟩,num 48],.agg [num 6,str ⟨#[58]⟩,num 49],.agg [num 5,str ⟨#[105,110,116]⟩,num 51],.agg [num 6,str ⟨#[61]⟩,num 55],.agg [num 5,str ⟨#[108,101,116]⟩,num 57],.agg [num 1,str ⟨#[118]⟩,num 61],.agg [num 6,str ⟨#[61]⟩,num 63],.agg [num 3,str ⟨#[50]⟩,num 65],.agg [num 5,str ⟨#[105,110]⟩,num 67],.agg [num 1,str ⟨#[118]⟩,num 70],.agg [num 6,str ⟨#[43]⟩,num 72],.agg [num 1,str ⟨#[118]⟩,num 74],.agg [num 5,str ⟨#[108,101,116]⟩,num 76],.agg [num 1,str ⟨#[120]⟩,num 80],.agg [num 6,str ⟨#[58]⟩,num 81],.agg [num 5,str ⟨#[105,110,116]⟩,num 83],.agg [num 6,str ⟨#[61]⟩,num 87],.agg [num 1,str ⟨#[118]⟩,num 89],.agg [num 5,str ⟨#[116,121,112,101]⟩,num 91],.agg [num 2,str ⟨#[80]⟩,num 96],.agg [num 6,str ⟨#[91]⟩,num 97],.agg [num 6,str ⟨#[43]⟩,num 98],.agg [num 2,str ⟨#[65]⟩,num 99],.agg [num 6,str ⟨#[93]⟩,num 100],.agg [num 6,str ⟨#[61]⟩,num 102],.agg [num 5,str ⟨#[108,105,115,116]⟩,num 104],.agg [num 6,str ⟨#[91]⟩,num 108],.agg [num 2,str ⟨#[65]⟩,num 109],.agg [num 6,str ⟨#[93]⟩,num 110],.agg [num 5,str ⟨#[108,101,116]⟩,num 112],.agg [num 1,str ⟨#[121]⟩,num 116],.agg [num 6,str ⟨#[58]⟩,num 117],.agg [num 1,str ⟨#[115]⟩,num 119],.agg [num 6,str ⟨#[58,58]⟩,num 120],.agg [num 2,str ⟨#[78]⟩,num 122],.agg [num 6,str ⟨#[61]⟩,num 124],.agg [num 1,str ⟨#[115]⟩,num 126],.agg [num 6,str ⟨#[58,58]⟩,num 127],.agg [num 1,str ⟨#[102]⟩,num 129],.agg [num 0,str ⟨#[]⟩,num 130]]
abbrev PM:V:=.agg [num 2,str ⟨#[]⟩,str ⟨#[]⟩,.slice [],.slice []]
abbrev UO:V:=.agg [num 1,str ⟨#[118]⟩,bl false,bl false,str ⟨#[]⟩,.slice [],num 0,str ⟨#[]⟩,str ⟨#[]⟩,.slice [],.slice [],num 0,str ⟨#[]⟩,str ⟨#[]⟩,.slice [],.slice [],num 2,str ⟨#[]⟩,str ⟨#[]⟩,.slice [],.slice [],num 0,str ⟨#[]⟩,str ⟨#[]⟩,str ⟨#[]⟩,num 1,.slice [],.slice [],.slice [],str ⟨#[]⟩,str ⟨#[]⟩]
abbrev PN:V:=.agg [num 0,str ⟨#[]⟩,str ⟨#[]⟩,str ⟨#[]⟩,num 2,.slice [],.slice [],.slice []]
abbrev PO:V:=.agg [num 3,str ⟨#[]⟩,str ⟨#[118]⟩,str ⟨#[]⟩,num 0,.slice [],.slice [],.slice []]
abbrev PQ:V:=.agg [num 16,str ⟨#[]⟩,str ⟨#[43]⟩,str ⟨#[]⟩,num 0,.slice [],.slice [],.slice [PO,PO]]
abbrev UP:V:=.agg [num 1,str ⟨#[119]⟩,bl false,bl false,str ⟨#[]⟩,.slice [],num 0,str ⟨#[]⟩,str ⟨#[]⟩,.slice [],.slice [],num 0,str ⟨#[]⟩,str ⟨#[]⟩,.slice [],.slice [],num 2,str ⟨#[]⟩,str ⟨#[]⟩,.slice [],.slice [],num 10,str ⟨#[]⟩,str ⟨#[118]⟩,str ⟨#[]⟩,num 0,.slice [],.slice [],.slice [PN,PQ],str ⟨#[]⟩,str ⟨#[]⟩]
abbrev UQ:V:=.agg [num 1,str ⟨#[120]⟩,bl false,bl false,str ⟨#[]⟩,.slice [],num 0,str ⟨#[]⟩,str ⟨#[]⟩,.slice [],.slice [],num 0,str ⟨#[]⟩,str ⟨#[]⟩,.slice [],.slice [],num 2,str ⟨#[]⟩,str ⟨#[]⟩,.slice [],.slice [],num 3,str ⟨#[]⟩,str ⟨#[118]⟩,str ⟨#[]⟩,num 0,.slice [],.slice [],.slice [],str ⟨#[]⟩,str ⟨#[]⟩]
abbrev F7:V:=.agg [num 10,str ⟨#[]⟩,str ⟨#[65]⟩,.slice [],.slice []]
abbrev UR:V:=.agg [num 0,str ⟨#[80]⟩,bl false,bl false,str ⟨#[]⟩,.slice [.agg [str ⟨#[65]⟩,num 0,num 0,str ⟨#[]⟩,str ⟨#[]⟩,.slice [],.slice []]],num 5,str ⟨#[]⟩,str ⟨#[]⟩,.slice [F7],.slice [],num 5,str ⟨#[]⟩,str ⟨#[]⟩,.slice [F7],.slice [],num 5,str ⟨#[]⟩,str ⟨#[]⟩,.slice [F7],.slice [],num 0,str ⟨#[]⟩,str ⟨#[]⟩,str ⟨#[]⟩,num 0,.slice [],.slice [],.slice [],str ⟨#[]⟩,str ⟨#[]⟩]
abbrev PR:V:=.eC [UR,.agg [fa,num 46,num 0,num 0]]
abbrev PS:V:=.agg [num 1,str ⟨#[121]⟩,bl false,bl false,str ⟨#[]⟩,.slice [],num 0,str ⟨#[]⟩,str ⟨#[]⟩,.slice [],.slice [],num 0,str ⟨#[]⟩,str ⟨#[]⟩,.slice [],.slice [],num 10,str ⟨#[115]⟩,str ⟨#[78]⟩,.slice [],.slice [],num 4,str ⟨#[115]⟩,str ⟨#[102]⟩,str ⟨#[]⟩,num 0,.slice [],.slice [],.slice [],str ⟨#[]⟩,str ⟨#[]⟩]
abbrev ti:V:=.agg [str ⟨#[109,47,118,49]⟩,.slice [.agg [str ⟨#[97,47,118,49]⟩,str ⟨#[115]⟩]],.slice [UO,UP,UQ,UR,PS]]
theorem adD (hG:a6.g=some 1):bG ab 15 [str ⟨#[109,47,118,49]⟩] (bl true):=cJ bo (b7 hG) 3000 (by kernel_rfl)
theorem ah6 (hG:a6.g=some 1):bG ab 63 [.agg [fa,num 1,num 0,num 0]] (.eC [str ⟨#[109,47,118,49]⟩,.agg [fa,num 4,num 0,num 0]]):=cJ (bA (adD hG) bo) (b7 hG) 3000 (by kernel_rfl)
theorem adE (hG:a6.g=some 1):bG ab 15 [str ⟨#[97,47,118,49]⟩] (bl true):=cJ bo (b7 hG) 3000 (by kernel_rfl)
theorem ah7 (hG:a6.g=some 1):bG ab 63 [.agg [fa,num 5,num 0,num 0]] (.eC [str ⟨#[97,47,118,49]⟩,.agg [fa,num 8,num 0,num 0]]):=cJ (bA (adE hG) bo) (b7 hG) 3000 (by kernel_rfl)
theorem ah8 (hG:a6.g=some 1):bG ab 113 [.agg [fa,num 13,num 0,num 0]] (.eC [PM,.agg [fa,num 14,num 0,num 0]]):=cJ bo (b7 hG) 3000 (by kernel_rfl)
theorem ah9 (hG:a6.g=some 1):bG ab 114 [.agg [fa,num 15,num 0,num 0]] (.eC [.agg [num 0,str ⟨#[]⟩,str ⟨#[]⟩,str ⟨#[]⟩,num 1,.slice [],.slice [],.slice []],.agg [fa,num 16,num 0,num 0]]):=cJ bo (b7 hG) 3000 (by kernel_rfl)
theorem aia (hG:a6.g=some 1):bG ab 69 [.agg [fa,num 10,num 0,num 0]] (.eC [UO,.agg [fa,num 16,num 0,num 0]]):=cJ (bA (ah8 hG) (bA (ah9 hG) bo)) (b7 hG) 3000 (by kernel_rfl)
theorem aib (hG:a6.g=some 1):bG ab 113 [.agg [fa,num 19,num 0,num 0]] (.eC [PM,.agg [fa,num 20,num 0,num 0]]):=cJ bo (b7 hG) 3000 (by kernel_rfl)
theorem aic (hG:a6.g=some 1):bG ab 114 [.agg [fa,num 24,num 0,num 0]] (.eC [PN,.agg [fa,num 25,num 0,num 0]]):=cJ bo (b7 hG) 3000 (by kernel_rfl)
theorem aid (hG:a6.g=some 1):bG ab 114 [.agg [fa,num 26,num 0,num 0]] (.eC [PQ,.agg [fa,num 29,num 0,num 0]]):=cJ bo (b7 hG) 3000 (by kernel_rfl)
theorem adF (hG:a6.g=some 1):bG ab 114 [.agg [fa,num 21,num 0,num 0]] (.eC [.agg [num 10,str ⟨#[]⟩,str ⟨#[118]⟩,str ⟨#[]⟩,num 0,.slice [],.slice [],.slice [PN,PQ]],.agg [fa,num 29,num 0,num 0]]):=cJ (bA (aic hG) (bA (aid hG) bo)) (b7 hG) 3000 (by kernel_rfl)
theorem adG (hG:a6.g=some 1):bG ab 69 [.agg [fa,num 16,num 0,num 0]] (.eC [UP,.agg [fa,num 29,num 0,num 0]]):=cJ (bA (aib hG) (bA (adF hG) bo)) (b7 hG) 3000 (by kernel_rfl)
theorem adH (hG:a6.g=some 1):bG ab 113 [.agg [fa,num 32,num 0,num 0]] (.eC [PM,.agg [fa,num 33,num 0,num 0]]):=cJ bo (b7 hG) 3000 (by kernel_rfl)
theorem adI (hG:a6.g=some 1):bG ab 114 [.agg [fa,num 34,num 0,num 0]] (.eC [PO,.agg [fa,num 35,num 0,num 0]]):=cJ bo (b7 hG) 3000 (by kernel_rfl)
theorem adJ (hG:a6.g=some 1):bG ab 69 [.agg [fa,num 29,num 0,num 0]] (.eC [UQ,.agg [fa,num 35,num 0,num 0]]):=cJ (bA (adH hG) (bA (adI hG) bo)) (b7 hG) 3000 (by kernel_rfl)
theorem adK (hG:a6.g=some 1):bG ab 113 [.agg [fa,num 44,num 0,num 0]] (.eC [F7,.agg [fa,num 45,num 0,num 0]]):=cJ bo (b7 hG) 3000 (by kernel_rfl)
theorem adL (hG:a6.g=some 1):bG ab 113 [.agg [fa,num 42,num 0,num 0]] (.eC [.agg [num 5,str ⟨#[]⟩,str ⟨#[]⟩,.slice [F7],.slice []],.agg [fa,num 46,num 0,num 0]]):=cJ (bA (adK hG) bo) (b7 hG) 3000 (by kernel_rfl)
theorem adM (hG:a6.g=some 1):bG ab 111 [.agg [num 0,str ⟨#[]⟩,bl false,bl false,str ⟨#[]⟩,.slice [],num 0,str ⟨#[]⟩,str ⟨#[]⟩,.slice [],.slice [],num 0,str ⟨#[]⟩,str ⟨#[]⟩,.slice [],.slice [],num 0,str ⟨#[]⟩,str ⟨#[]⟩,.slice [],.slice [],num 0,str ⟨#[]⟩,str ⟨#[]⟩,str ⟨#[]⟩,num 0,.slice [],.slice [],.slice [],str ⟨#[]⟩,str ⟨#[]⟩],.agg [fa,num 36,num 0,num 0]] PR:=cJ (bA (adL hG) bo) (b7 hG) 3000 (by kernel_rfl)
theorem adN (hG:a6.g=some 1):bG ab 69 [.agg [fa,num 35,num 0,num 0]] PR:=cJ (bA (adM hG) bo) (b7 hG) 3000 (by kernel_rfl)
theorem adO (hG:a6.g=some 1):bG ab 113 [.agg [fa,num 49,num 0,num 0]] (.eC [.agg [num 10,str ⟨#[115]⟩,str ⟨#[78]⟩,.slice [],.slice []],.agg [fa,num 52,num 0,num 0]]):=cJ bo (b7 hG) 3000 (by kernel_rfl)
theorem adP (hG:a6.g=some 1):bG ab 114 [.agg [fa,num 53,num 0,num 0]] (.eC [.agg [num 4,str ⟨#[115]⟩,str ⟨#[102]⟩,str ⟨#[]⟩,num 0,.slice [],.slice [],.slice []],.agg [fa,num 56,num 0,num 0]]):=cJ bo (b7 hG) 3000 (by kernel_rfl)
theorem adQ (hG:a6.g=some 1):bG ab 69 [.agg [fa,num 46,num 0,num 0]] (.eC [PS,.agg [fa,num 56,num 0,num 0]]):=cJ (bA (adO hG) (bA (adP hG) bo)) (b7 hG) 3000 (by kernel_rfl)
theorem adR (hG:a6.g=some 1):bG ab 90 [ti,num 0] (num 0):=cJ bo (b7 hG) 3000 (by kernel_rfl)
theorem adS (hG:a6.g=some 1):bG ab 90 [ti,num 1] (num 0):=cJ bo (b7 hG) 3000 (by kernel_rfl)
theorem adT (hG:a6.g=some 1):bG ab 90 [ti,num 2] (num 0):=cJ bo (b7 hG) 3000 (by kernel_rfl)
theorem adU (hG:a6.g=some 1):bG ab 90 [ti,num 3] (num 0):=cJ bo (b7 hG) 3000 (by kernel_rfl)
theorem adV (hG:a6.g=some 1):bG ab 90 [ti,num 4] (num 0):=cJ bo (b7 hG) 3000 (by kernel_rfl)
theorem adW (hG:a6.g=some 1):bG ab 37 [ti] (.eC [num 0,num 0]):=cJ (bA (adD hG) (bA (adE hG) (bA (adR hG) (bA (adS hG) (bA (adT hG) (bA (adU hG) (bA (adV hG) bo))))))) (b7 hG) 3000 (by kernel_rfl)
theorem adX (hG:a6.g=some 1):bG ab 26 [str ⟨#[109,111,100,117,108,101,32,109,47,118,49,32,105,109,112,111,114,116,32,97,47,118,49,32,97,115,32,115,32,108,101,116,32,118,58,32,105,110,116,32,61,32,49,32,108,101,116,32,119,58,32,105,110,116,32,61,32,108,101,116,32,118,32,61,32,50,32,105,110,32,118,32,43,32,118,32,108,101,116,32,120,58,32,105,110,116,32,61,32,118,32,116,121,112,101,32,80,91,43,65,93,32,61,32,108,105,115,116,91,65,93,32,108,101,116,32,121,58,32,115,58,58,78,32,61,32,115,58,58,102]⟩] (.eC [ti,num 0,num 0]):=cJ (bA (ah5 hG) (bA (ah6 hG) (bA (ah7 hG) (bA (aia hG) (bA (adG hG) (bA (adJ hG) (bA (adN hG) (bA (adQ hG) (bA (adW hG) bo))))))))) (b7 hG) 3000 (by kernel_rfl)
def PT:Md:=⟨⟨#[109,47,118,49]⟩,[⟨⟨#[97,47,118,49]⟩,⟨#[115]⟩⟩],[⟨1,⟨#[118]⟩,false,false,⟨#[]⟩,[],(.mk 0 ⟨#[]⟩ ⟨#[]⟩ [] []),(.mk 0 ⟨#[]⟩ ⟨#[]⟩ [] []),(.mk 2 ⟨#[]⟩ ⟨#[]⟩ [] []),(.mk 0 ⟨#[]⟩ ⟨#[]⟩ ⟨#[]⟩ 1 [] [] []),⟨#[]⟩,⟨#[]⟩⟩,
 ⟨1,⟨#[119]⟩,false,false,⟨#[]⟩,[],(.mk 0 ⟨#[]⟩ ⟨#[]⟩ [] []),(.mk 0 ⟨#[]⟩ ⟨#[]⟩ [] []),(.mk 2 ⟨#[]⟩ ⟨#[]⟩ [] []),(.mk 10 ⟨#[]⟩ ⟨#[118]⟩ ⟨#[]⟩ 0 [] [] [(.mk 0 ⟨#[]⟩ ⟨#[]⟩ ⟨#[]⟩ 2 [] [] []),(.mk 16 ⟨#[]⟩ ⟨#[43]⟩ ⟨#[]⟩ 0 [] [] [(.mk 3 ⟨#[]⟩ ⟨#[118]⟩ ⟨#[]⟩ 0 [] [] []),(.mk 3 ⟨#[]⟩ ⟨#[118]⟩ ⟨#[]⟩ 0 [] [] [])])]),⟨#[]⟩,⟨#[]⟩⟩,
 ⟨1,⟨#[120]⟩,false,false,⟨#[]⟩,[],(.mk 0 ⟨#[]⟩ ⟨#[]⟩ [] []),(.mk 0 ⟨#[]⟩ ⟨#[]⟩ [] []),(.mk 2 ⟨#[]⟩ ⟨#[]⟩ [] []),(.mk 3 ⟨#[]⟩ ⟨#[118]⟩ ⟨#[]⟩ 0 [] [] []),⟨#[]⟩,⟨#[]⟩⟩,
 ⟨0,⟨#[80]⟩,false,false,⟨#[]⟩,[⟨⟨#[65]⟩,0,(.mk 0 ⟨#[]⟩ ⟨#[]⟩ [] [])⟩],(.mk 5 ⟨#[]⟩ ⟨#[]⟩ [(.mk 10 ⟨#[]⟩ ⟨#[65]⟩ [] [])] []),(.mk 5 ⟨#[]⟩ ⟨#[]⟩ [(.mk 10 ⟨#[]⟩ ⟨#[65]⟩ [] [])] []),(.mk 5 ⟨#[]⟩ ⟨#[]⟩ [(.mk 10 ⟨#[]⟩ ⟨#[65]⟩ [] [])] []),(.mk 0 ⟨#[]⟩ ⟨#[]⟩ ⟨#[]⟩ 0 [] [] []),⟨#[]⟩,⟨#[]⟩⟩,
 ⟨1,⟨#[121]⟩,false,false,⟨#[]⟩,[],(.mk 0 ⟨#[]⟩ ⟨#[]⟩ [] []),(.mk 0 ⟨#[]⟩ ⟨#[]⟩ [] []),(.mk 10 ⟨#[115]⟩ ⟨#[78]⟩ [] []),(.mk 4 ⟨#[115]⟩ ⟨#[102]⟩ ⟨#[]⟩ 0 [] [] []),⟨#[]⟩,⟨#[]⟩⟩]⟩
def Ys:Md:=⟨⟨#[109,47,118,49]⟩,[⟨⟨#[97,47,118,49]⟩,⟨#[115]⟩⟩],[⟨1,⟨#[118]⟩,false,false,⟨#[]⟩,[],(.mk 0 ⟨#[]⟩ ⟨#[]⟩ [] []),(.mk 0 ⟨#[]⟩ ⟨#[]⟩ [] []),(.mk 2 ⟨#[]⟩ ⟨#[]⟩ [] []),(.mk 0 ⟨#[]⟩ ⟨#[]⟩ ⟨#[]⟩ 1 [] [] []),⟨#[]⟩,⟨#[]⟩⟩,
 ⟨1,⟨#[119]⟩,false,false,⟨#[]⟩,[],(.mk 0 ⟨#[]⟩ ⟨#[]⟩ [] []),(.mk 0 ⟨#[]⟩ ⟨#[]⟩ [] []),(.mk 2 ⟨#[]⟩ ⟨#[]⟩ [] []),(.mk 10 ⟨#[]⟩ ⟨#[118]⟩ ⟨#[]⟩ 0 [] [] [(.mk 0 ⟨#[]⟩ ⟨#[]⟩ ⟨#[]⟩ 2 [] [] []),(.mk 16 ⟨#[]⟩ ⟨#[43]⟩ ⟨#[]⟩ 0 [] [] [(.mk 3 ⟨#[]⟩ ⟨#[118]⟩ ⟨#[]⟩ 0 [] [] []),(.mk 3 ⟨#[]⟩ ⟨#[118]⟩ ⟨#[]⟩ 0 [] [] [])])]),⟨#[]⟩,⟨#[]⟩⟩,
 ⟨1,⟨#[120]⟩,false,false,⟨#[]⟩,[],(.mk 0 ⟨#[]⟩ ⟨#[]⟩ [] []),(.mk 0 ⟨#[]⟩ ⟨#[]⟩ [] []),(.mk 2 ⟨#[]⟩ ⟨#[]⟩ [] []),(.mk 4 ⟨#[109,47,118,49]⟩ ⟨#[118]⟩ ⟨#[]⟩ 0 [] [] []),⟨#[]⟩,⟨#[]⟩⟩,
 ⟨0,⟨#[80]⟩,false,false,⟨#[]⟩,[⟨⟨#[65]⟩,0,(.mk 0 ⟨#[]⟩ ⟨#[]⟩ [] [])⟩],(.mk 5 ⟨#[]⟩ ⟨#[]⟩ [(.mk 9 ⟨#[]⟩ ⟨#[65]⟩ [] [])] []),(.mk 5 ⟨#[]⟩ ⟨#[]⟩ [(.mk 9 ⟨#[]⟩ ⟨#[65]⟩ [] [])] []),(.mk 5 ⟨#[]⟩ ⟨#[]⟩ [(.mk 9 ⟨#[]⟩ ⟨#[65]⟩ [] [])] []),(.mk 0 ⟨#[]⟩ ⟨#[]⟩ ⟨#[]⟩ 0 [] [] []),⟨#[]⟩,⟨#[]⟩⟩,
 ⟨1,⟨#[121]⟩,false,false,⟨#[]⟩,[],(.mk 0 ⟨#[]⟩ ⟨#[]⟩ [] []),(.mk 0 ⟨#[]⟩ ⟨#[]⟩ [] []),(.mk 10 ⟨#[97,47,118,49]⟩ ⟨#[78]⟩ [] []),(.mk 4 ⟨#[97,47,118,49]⟩ ⟨#[102]⟩ ⟨#[]⟩ 0 [] [] []),⟨#[]⟩,⟨#[]⟩⟩]⟩
theorem hdX:vP PT=0:=UJ _ (by kernel_rfl) (by kernel_rfl) (by kernel_rfl) (by kernel_rfl) (by kernel_rfl)
theorem hdR:vP Ys=0:=UJ _ (by kernel_rfl) (by kernel_rfl) (by kernel_rfl) (by kernel_rfl) (by kernel_rfl)
theorem cmX:qb PT=(0,0):=by unfold qb;rw [if_neg (by rw [hdX]; simp)];kernel_rfl
theorem cmR:qb Ys=(0,0):=by unfold qb;rw [if_neg (by rw [hdR]; simp)];kernel_rfl
theorem Tj:iG PT=(Ys,0,0):=by unfold iG;rw [cmX];kernel_rfl
theorem wtX:PT.wt≤1048576:=kg (by kernel_rfl)
theorem wtR:Ys.wt≤1048576:=kg (by kernel_rfl)
theorem wdX:∀ d∈PT.decls,d.wt≤1048576:=fun d hd=>kg (aY.1 (show PT.decls.all (fun d=>Nat.ble d.wt 1048576)=true from by kernel_rfl) d hd)
theorem Yt (hG:a6.g=some 1):bG ab 31 [gN PT] (.eC [num 0,num 0]):=by obtain⟨_,rfl,this⟩:=nC hG PT wtX;rwa [cmX] at this
theorem Yu (hG:a6.g=some 1):bG ab 31 [gN Ys] (.eC [num 0,num 0]):=by obtain⟨_,rfl,this⟩:=nC hG Ys wtR;rwa [cmR] at this
theorem Yv (hG:a6.g=some 1):bG ab 9 [gN PT] (.eC [gN Ys,num 0,num 0]):=by obtain⟨_,rfl,this⟩:=Al hG PT (kg (by kernel_rfl)) (kg (by kernel_rfl)) wdX (UI PT) (by rw [cmX]; exact Yt hG);rwa [Tj] at this
end Go.Proofs.YtnboooapeopjoaaGreatDoor
end
