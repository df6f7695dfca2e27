/-
  AWAKE: the example of the chapter, computed call by call (written by program out of a log).
  AWAKE: the example's module is right, and what it is resolved to.
-/
import Derived.Test.YtnboooapeopjoaaGreatDoorJ7
set_option linter.all false
section
namespace Go.Proofs.YtnboooapeopjoaaGreatDoor
open Go.Eng
variable [aA]
set_option maxHeartbeats 4000000
set_option maxRecDepth 100000
abbrev cZ : V := .slice [.agg [num 5, str ⟨#[109,111,100,117,108,101]⟩, num 0], .agg [num 1, str ⟨#[109]⟩, num 7], .agg [num 6, str ⟨#[47]⟩, num 8], .agg [num 1, str ⟨#[118,49]⟩, num 9], .agg [num 5, str ⟨#[105,109,112,111,114,116]⟩, num 12], .agg [num 1, str ⟨#[97]⟩, num 19], .agg [num 6, str ⟨#[47]⟩, num 20], .agg [num 1, str ⟨#[118,49]⟩, num 21], .agg [num 5, str ⟨#[97,115]⟩, num 24], .agg [num 1, str ⟨#[115]⟩, num 27], .agg [num 5, str ⟨#[108,101,116]⟩, num 29], .agg [num 1, str ⟨#[118]⟩, num 33], .agg [num 6, str ⟨#[58]⟩, num 34], .agg [num 5, str ⟨#[105,110,116]⟩, num 36], .agg [num 6, str ⟨#[61]⟩, num 40], .agg [num 3, str ⟨#[49]⟩, num 42], .agg [num 5, str ⟨#[108,101,116]⟩, num 44], .agg [num 1, str ⟨#[119]⟩, num 48], .agg [num 6, str ⟨#[58]⟩, num 49], .agg [num 5, str ⟨#[105,110,116]⟩, num 51], .agg [num 6, str ⟨#[61]⟩, num 55], .agg [num 5, str ⟨#[108,101,116]⟩, num 57], .agg [num 1, str ⟨#[118]⟩, num 61], .agg [num 6, str ⟨#[61]⟩, num 63], .agg [num 3, str ⟨#[50]⟩, num 65], .agg [num 5, str ⟨#[105,110]⟩, num 67], .agg [num 1, str ⟨#[118]⟩, num 70], .agg [num 6, str ⟨#[43]⟩, num 72], .agg [num 1, str ⟨#[118]⟩, num 74], .agg [num 5, str ⟨#[108,101,116]⟩, num 76], .agg [num 1, str ⟨#[120]⟩, num 80], .agg [num 6, str ⟨#[58]⟩, num 81], .agg [num 5, str ⟨#[105,110,116]⟩, num 83], .agg [num 6, str ⟨#[61]⟩, num 87], .agg [num 1, str ⟨#[118]⟩, num 89], .agg [num 5, str ⟨#[116,121,112,101]⟩, num 91], .agg [num 2, str ⟨#[80]⟩, num 96], .agg [num 6, str ⟨#[91]⟩, num 97], .agg [num 6, str ⟨#[43]⟩, num 98], .agg [num 2, str ⟨#[65]⟩, num 99], .agg [num 6, str ⟨#[93]⟩, num 100], .agg [num 6, str ⟨#[61]⟩, num 102], .agg [num 5, str ⟨#[108,105,115,116]⟩, num 104], .agg [num 6, str ⟨#[91]⟩, num 108], .agg [num 2, str ⟨#[65]⟩, num 109], .agg [num 6, str ⟨#[93]⟩, num 110], .agg [num 5, str ⟨#[108,101,116]⟩, num 112], .agg [num 1, str ⟨#[121]⟩, num 116], .agg [num 6, str ⟨#[58]⟩, num 117], .agg [num 1, str ⟨#[115]⟩, num 119], .agg [num 6, str ⟨#[58,58]⟩, num 120], .agg [num 2, str ⟨#[78]⟩, num 122], .agg [num 6, str ⟨#[61]⟩, num 124], .agg [num 1, str ⟨#[115]⟩, num 126], .agg [num 6, str ⟨#[58,58]⟩, num 127], .agg [num 1, str ⟨#[102]⟩, num 129], .agg [num 0, str ⟨#[]⟩, num 130]]
abbrev Ku : V := .agg [num 2, str ⟨#[]⟩, str ⟨#[]⟩, .slice [], .slice []]
abbrev OM : V := .agg [num 1, str ⟨#[118]⟩, bl false, bl false, str ⟨#[]⟩, .slice [], num 0, str ⟨#[]⟩, str ⟨#[]⟩, .slice [], .slice [], num 0, str ⟨#[]⟩, str ⟨#[]⟩, .slice [], .slice [], num 2, str ⟨#[]⟩, str ⟨#[]⟩, .slice [], .slice [], num 0, str ⟨#[]⟩, str ⟨#[]⟩, str ⟨#[]⟩, num 1, .slice [], .slice [], .slice [], str ⟨#[]⟩, str ⟨#[]⟩]
abbrev Kv : V := .agg [num 0, str ⟨#[]⟩, str ⟨#[]⟩, str ⟨#[]⟩, num 2, .slice [], .slice [], .slice []]
abbrev Kw : V := .agg [num 3, str ⟨#[]⟩, str ⟨#[118]⟩, str ⟨#[]⟩, num 0, .slice [], .slice [], .slice []]
abbrev Kx : V := .agg [num 16, str ⟨#[]⟩, str ⟨#[43]⟩, str ⟨#[]⟩, num 0, .slice [], .slice [], .slice [Kw, Kw]]
abbrev ON : V := .agg [num 1, str ⟨#[119]⟩, bl false, bl false, str ⟨#[]⟩, .slice [], num 0, str ⟨#[]⟩, str ⟨#[]⟩, .slice [], .slice [], num 0, str ⟨#[]⟩, str ⟨#[]⟩, .slice [], .slice [], num 2, str ⟨#[]⟩, str ⟨#[]⟩, .slice [], .slice [], num 10, str ⟨#[]⟩, str ⟨#[118]⟩, str ⟨#[]⟩, num 0, .slice [], .slice [], .slice [Kv, Kx], str ⟨#[]⟩, str ⟨#[]⟩]
abbrev OO : V := .agg [num 1, str ⟨#[120]⟩, bl false, bl false, str ⟨#[]⟩, .slice [], num 0, str ⟨#[]⟩, str ⟨#[]⟩, .slice [], .slice [], num 0, str ⟨#[]⟩, str ⟨#[]⟩, .slice [], .slice [], num 2, str ⟨#[]⟩, str ⟨#[]⟩, .slice [], .slice [], num 3, str ⟨#[]⟩, str ⟨#[118]⟩, str ⟨#[]⟩, num 0, .slice [], .slice [], .slice [], str ⟨#[]⟩, str ⟨#[]⟩]
abbrev BQ : V := .agg [num 10, str ⟨#[]⟩, str ⟨#[65]⟩, .slice [], .slice []]
abbrev OP : V := .agg [num 0, str ⟨#[80]⟩, bl false, bl false, str ⟨#[]⟩, .slice [.agg [str ⟨#[65]⟩, num 0, num 0, str ⟨#[]⟩, str ⟨#[]⟩, .slice [], .slice []]], num 5, str ⟨#[]⟩, str ⟨#[]⟩, .slice [BQ], .slice [], num 5, str ⟨#[]⟩, str ⟨#[]⟩, .slice [BQ], .slice [], num 5, str ⟨#[]⟩, str ⟨#[]⟩, .slice [BQ], .slice [], num 0, str ⟨#[]⟩, str ⟨#[]⟩, str ⟨#[]⟩, num 0, .slice [], .slice [], .slice [], str ⟨#[]⟩, str ⟨#[]⟩]
abbrev Kz : V := .cC [OP, .agg [cZ, num 46, num 0, num 0]]
abbrev KA : V := .agg [num 1, str ⟨#[121]⟩, bl false, bl false, str ⟨#[]⟩, .slice [], num 0, str ⟨#[]⟩, str ⟨#[]⟩, .slice [], .slice [], num 0, str ⟨#[]⟩, str ⟨#[]⟩, .slice [], .slice [], num 10, str ⟨#[115]⟩, str ⟨#[78]⟩, .slice [], .slice [], num 4, str ⟨#[115]⟩, str ⟨#[102]⟩, str ⟨#[]⟩, num 0, .slice [], .slice [], .slice [], str ⟨#[]⟩, str ⟨#[]⟩]
abbrev pP : V := .agg [str ⟨#[109,47,118,49]⟩, .slice [.agg [str ⟨#[97,47,118,49]⟩, str ⟨#[115]⟩]], .slice [OM, ON, OO, OP, KA]]
theorem W1 (hG : aA.g = some 1) : aT Tryz.prog 15 [str ⟨#[109,47,118,49]⟩] (bl true) := bB aH (aW hG) 3000 (by kernel_rfl)
theorem abB (hG : aA.g = some 1) : aT Tryz.prog 63 [.agg [cZ, num 1, num 0, num 0]] (.cC [str ⟨#[109,47,118,49]⟩, .agg [cZ, num 4, num 0, num 0]]) := bB (aM (W1 hG) aH) (aW hG) 3000 (by kernel_rfl)
theorem W2 (hG : aA.g = some 1) : aT Tryz.prog 15 [str ⟨#[97,47,118,49]⟩] (bl true) := bB aH (aW hG) 3000 (by kernel_rfl)
theorem abC (hG : aA.g = some 1) : aT Tryz.prog 63 [.agg [cZ, num 5, num 0, num 0]] (.cC [str ⟨#[97,47,118,49]⟩, .agg [cZ, num 8, num 0, num 0]]) := bB (aM (W2 hG) aH) (aW hG) 3000 (by kernel_rfl)
theorem abD (hG : aA.g = some 1) : aT Tryz.prog 113 [.agg [cZ, num 13, num 0, num 0]] (.cC [Ku, .agg [cZ, num 14, num 0, num 0]]) := bB aH (aW hG) 3000 (by kernel_rfl)
theorem abE (hG : aA.g = some 1) : aT Tryz.prog 114 [.agg [cZ, num 15, num 0, num 0]] (.cC [.agg [num 0, str ⟨#[]⟩, str ⟨#[]⟩, str ⟨#[]⟩, num 1, .slice [], .slice [], .slice []], .agg [cZ, num 16, num 0, num 0]]) := bB aH (aW hG) 3000 (by kernel_rfl)
theorem abF (hG : aA.g = some 1) : aT Tryz.prog 69 [.agg [cZ, num 10, num 0, num 0]] (.cC [OM, .agg [cZ, num 16, num 0, num 0]]) := bB (aM (abD hG) (aM (abE hG) aH)) (aW hG) 3000 (by kernel_rfl)
theorem abG (hG : aA.g = some 1) : aT Tryz.prog 113 [.agg [cZ, num 19, num 0, num 0]] (.cC [Ku, .agg [cZ, num 20, num 0, num 0]]) := bB aH (aW hG) 3000 (by kernel_rfl)
theorem abH (hG : aA.g = some 1) : aT Tryz.prog 114 [.agg [cZ, num 24, num 0, num 0]] (.cC [Kv, .agg [cZ, num 25, num 0, num 0]]) := bB aH (aW hG) 3000 (by kernel_rfl)
theorem abI (hG : aA.g = some 1) : aT Tryz.prog 114 [.agg [cZ, num 26, num 0, num 0]] (.cC [Kx, .agg [cZ, num 29, num 0, num 0]]) := bB aH (aW hG) 3000 (by kernel_rfl)
theorem W3 (hG : aA.g = some 1) : aT Tryz.prog 114 [.agg [cZ, num 21, num 0, num 0]] (.cC [.agg [num 10, str ⟨#[]⟩, str ⟨#[118]⟩, str ⟨#[]⟩, num 0, .slice [], .slice [], .slice [Kv, Kx]], .agg [cZ, num 29, num 0, num 0]]) := bB (aM (abH hG) (aM (abI hG) aH)) (aW hG) 3000 (by kernel_rfl)
theorem W4 (hG : aA.g = some 1) : aT Tryz.prog 69 [.agg [cZ, num 16, num 0, num 0]] (.cC [ON, .agg [cZ, num 29, num 0, num 0]]) := bB (aM (abG hG) (aM (W3 hG) aH)) (aW hG) 3000 (by kernel_rfl)
theorem W5 (hG : aA.g = some 1) : aT Tryz.prog 113 [.agg [cZ, num 32, num 0, num 0]] (.cC [Ku, .agg [cZ, num 33, num 0, num 0]]) := bB aH (aW hG) 3000 (by kernel_rfl)
theorem W6 (hG : aA.g = some 1) : aT Tryz.prog 114 [.agg [cZ, num 34, num 0, num 0]] (.cC [Kw, .agg [cZ, num 35, num 0, num 0]]) := bB aH (aW hG) 3000 (by kernel_rfl)
theorem W7 (hG : aA.g = some 1) : aT Tryz.prog 69 [.agg [cZ, num 29, num 0, num 0]] (.cC [OO, .agg [cZ, num 35, num 0, num 0]]) := bB (aM (W5 hG) (aM (W6 hG) aH)) (aW hG) 3000 (by kernel_rfl)
theorem W8 (hG : aA.g = some 1) : aT Tryz.prog 113 [.agg [cZ, num 44, num 0, num 0]] (.cC [BQ, .agg [cZ, num 45, num 0, num 0]]) := bB aH (aW hG) 3000 (by kernel_rfl)
theorem W9 (hG : aA.g = some 1) : aT Tryz.prog 113 [.agg [cZ, num 42, num 0, num 0]] (.cC [.agg [num 5, str ⟨#[]⟩, str ⟨#[]⟩, .slice [BQ], .slice []], .agg [cZ, num 46, num 0, num 0]]) := bB (aM (W8 hG) aH) (aW hG) 3000 (by kernel_rfl)
theorem Xa (hG : aA.g = some 1) : aT Tryz.prog 111 [.agg [num 0, str ⟨#[]⟩, bl false, bl false, str ⟨#[]⟩, .slice [], num 0, str ⟨#[]⟩, str ⟨#[]⟩, .slice [], .slice [], num 0, str ⟨#[]⟩, str ⟨#[]⟩, .slice [], .slice [], num 0, str ⟨#[]⟩, str ⟨#[]⟩, .slice [], .slice [], num 0, str ⟨#[]⟩, str ⟨#[]⟩, str ⟨#[]⟩, num 0, .slice [], .slice [], .slice [], str ⟨#[]⟩, str ⟨#[]⟩], .agg [cZ, num 36, num 0, num 0]] Kz := bB (aM (W9 hG) aH) (aW hG) 3000 (by kernel_rfl)
theorem Xb (hG : aA.g = some 1) : aT Tryz.prog 69 [.agg [cZ, num 35, num 0, num 0]] Kz := bB (aM (Xa hG) aH) (aW hG) 3000 (by kernel_rfl)
theorem Xc (hG : aA.g = some 1) : aT Tryz.prog 113 [.agg [cZ, num 49, num 0, num 0]] (.cC [.agg [num 10, str ⟨#[115]⟩, str ⟨#[78]⟩, .slice [], .slice []], .agg [cZ, num 52, num 0, num 0]]) := bB aH (aW hG) 3000 (by kernel_rfl)
theorem Xd (hG : aA.g = some 1) : aT Tryz.prog 114 [.agg [cZ, num 53, num 0, num 0]] (.cC [.agg [num 4, str ⟨#[115]⟩, str ⟨#[102]⟩, str ⟨#[]⟩, num 0, .slice [], .slice [], .slice []], .agg [cZ, num 56, num 0, num 0]]) := bB aH (aW hG) 3000 (by kernel_rfl)
theorem Xe (hG : aA.g = some 1) : aT Tryz.prog 69 [.agg [cZ, num 46, num 0, num 0]] (.cC [KA, .agg [cZ, num 56, num 0, num 0]]) := bB (aM (Xc hG) (aM (Xd hG) aH)) (aW hG) 3000 (by kernel_rfl)
theorem Xf (hG : aA.g = some 1) : aT Tryz.prog 90 [pP, num 0] (num 0) := bB aH (aW hG) 3000 (by kernel_rfl)
theorem Xg (hG : aA.g = some 1) : aT Tryz.prog 90 [pP, num 1] (num 0) := bB aH (aW hG) 3000 (by kernel_rfl)
theorem Xh (hG : aA.g = some 1) : aT Tryz.prog 90 [pP, num 2] (num 0) := bB aH (aW hG) 3000 (by kernel_rfl)
theorem Xi (hG : aA.g = some 1) : aT Tryz.prog 90 [pP, num 3] (num 0) := bB aH (aW hG) 3000 (by kernel_rfl)
theorem Xj (hG : aA.g = some 1) : aT Tryz.prog 90 [pP, num 4] (num 0) := bB aH (aW hG) 3000 (by kernel_rfl)
theorem Xk (hG : aA.g = some 1) : aT Tryz.prog 37 [pP] (.cC [num 0, num 0]) := bB (aM (W1 hG) (aM (W2 hG) (aM (Xf hG) (aM (Xg hG) (aM (Xh hG) (aM (Xi hG) (aM (Xj hG) aH))))))) (aW hG) 3000 (by kernel_rfl)
theorem Xl (hG : aA.g = some 1) : aT Tryz.prog 26 [str ⟨#[109,111,100,117,108,101,32,109,47,118,49,32,105,109,112,111,114,116,32,97,47,118,49,32,97,115,32,115,32,108,101,116,32,118,58,32,105,110,116,32,61,32,49,32,108,101,116,32,119,58,32,105,110,116,32,61,32,108,101,116,32,118,32,61,32,50,32,105,110,32,118,32,43,32,118,32,108,101,116,32,120,58,32,105,110,116,32,61,32,118,32,116,121,112,101,32,80,91,43,65,93,32,61,32,108,105,115,116,91,65,93,32,108,101,116,32,121,58,32,115,58,58,78,32,61,32,115,58,58,102]⟩] (.cC [pP, num 0, num 0]) := bB (aM (abA hG) (aM (abB hG) (aM (abC hG) (aM (abF hG) (aM (W4 hG) (aM (W7 hG) (aM (Xb hG) (aM (Xe hG) (aM (Xk hG) aH))))))))) (aW hG) 3000 (by kernel_rfl)
def KB : Md := ⟨⟨#[109,47,118,49]⟩, [⟨⟨#[97,47,118,49]⟩, ⟨#[115]⟩⟩], [⟨1, ⟨#[118]⟩, false, false, ⟨#[]⟩, [], (.mk 0 ⟨#[]⟩ ⟨#[]⟩ [] []), (.mk 0 ⟨#[]⟩ ⟨#[]⟩ [] []), (.mk 2 ⟨#[]⟩ ⟨#[]⟩ [] []), (.mk 0 ⟨#[]⟩ ⟨#[]⟩ ⟨#[]⟩ 1 [] [] []), ⟨#[]⟩, ⟨#[]⟩⟩,
 ⟨1, ⟨#[119]⟩, false, false, ⟨#[]⟩, [], (.mk 0 ⟨#[]⟩ ⟨#[]⟩ [] []), (.mk 0 ⟨#[]⟩ ⟨#[]⟩ [] []), (.mk 2 ⟨#[]⟩ ⟨#[]⟩ [] []), (.mk 10 ⟨#[]⟩ ⟨#[118]⟩ ⟨#[]⟩ 0 [] [] [(.mk 0 ⟨#[]⟩ ⟨#[]⟩ ⟨#[]⟩ 2 [] [] []), (.mk 16 ⟨#[]⟩ ⟨#[43]⟩ ⟨#[]⟩ 0 [] [] [(.mk 3 ⟨#[]⟩ ⟨#[118]⟩ ⟨#[]⟩ 0 [] [] []), (.mk 3 ⟨#[]⟩ ⟨#[118]⟩ ⟨#[]⟩ 0 [] [] [])])]), ⟨#[]⟩, ⟨#[]⟩⟩,
 ⟨1, ⟨#[120]⟩, false, false, ⟨#[]⟩, [], (.mk 0 ⟨#[]⟩ ⟨#[]⟩ [] []), (.mk 0 ⟨#[]⟩ ⟨#[]⟩ [] []), (.mk 2 ⟨#[]⟩ ⟨#[]⟩ [] []), (.mk 3 ⟨#[]⟩ ⟨#[118]⟩ ⟨#[]⟩ 0 [] [] []), ⟨#[]⟩, ⟨#[]⟩⟩,
 ⟨0, ⟨#[80]⟩, false, false, ⟨#[]⟩, [⟨⟨#[65]⟩, 0, (.mk 0 ⟨#[]⟩ ⟨#[]⟩ [] [])⟩], (.mk 5 ⟨#[]⟩ ⟨#[]⟩ [(.mk 10 ⟨#[]⟩ ⟨#[65]⟩ [] [])] []), (.mk 5 ⟨#[]⟩ ⟨#[]⟩ [(.mk 10 ⟨#[]⟩ ⟨#[65]⟩ [] [])] []), (.mk 5 ⟨#[]⟩ ⟨#[]⟩ [(.mk 10 ⟨#[]⟩ ⟨#[65]⟩ [] [])] []), (.mk 0 ⟨#[]⟩ ⟨#[]⟩ ⟨#[]⟩ 0 [] [] []), ⟨#[]⟩, ⟨#[]⟩⟩,
 ⟨1, ⟨#[121]⟩, false, false, ⟨#[]⟩, [], (.mk 0 ⟨#[]⟩ ⟨#[]⟩ [] []), (.mk 0 ⟨#[]⟩ ⟨#[]⟩ [] []), (.mk 10 ⟨#[115]⟩ ⟨#[78]⟩ [] []), (.mk 4 ⟨#[115]⟩ ⟨#[102]⟩ ⟨#[]⟩ 0 [] [] []), ⟨#[]⟩, ⟨#[]⟩⟩]⟩
def RW : Md := ⟨⟨#[109,47,118,49]⟩, [⟨⟨#[97,47,118,49]⟩, ⟨#[115]⟩⟩], [⟨1, ⟨#[118]⟩, false, false, ⟨#[]⟩, [], (.mk 0 ⟨#[]⟩ ⟨#[]⟩ [] []), (.mk 0 ⟨#[]⟩ ⟨#[]⟩ [] []), (.mk 2 ⟨#[]⟩ ⟨#[]⟩ [] []), (.mk 0 ⟨#[]⟩ ⟨#[]⟩ ⟨#[]⟩ 1 [] [] []), ⟨#[]⟩, ⟨#[]⟩⟩,
 ⟨1, ⟨#[119]⟩, false, false, ⟨#[]⟩, [], (.mk 0 ⟨#[]⟩ ⟨#[]⟩ [] []), (.mk 0 ⟨#[]⟩ ⟨#[]⟩ [] []), (.mk 2 ⟨#[]⟩ ⟨#[]⟩ [] []), (.mk 10 ⟨#[]⟩ ⟨#[118]⟩ ⟨#[]⟩ 0 [] [] [(.mk 0 ⟨#[]⟩ ⟨#[]⟩ ⟨#[]⟩ 2 [] [] []), (.mk 16 ⟨#[]⟩ ⟨#[43]⟩ ⟨#[]⟩ 0 [] [] [(.mk 3 ⟨#[]⟩ ⟨#[118]⟩ ⟨#[]⟩ 0 [] [] []), (.mk 3 ⟨#[]⟩ ⟨#[118]⟩ ⟨#[]⟩ 0 [] [] [])])]), ⟨#[]⟩, ⟨#[]⟩⟩,
 ⟨1, ⟨#[120]⟩, false, false, ⟨#[]⟩, [], (.mk 0 ⟨#[]⟩ ⟨#[]⟩ [] []), (.mk 0 ⟨#[]⟩ ⟨#[]⟩ [] []), (.mk 2 ⟨#[]⟩ ⟨#[]⟩ [] []), (.mk 4 ⟨#[109,47,118,49]⟩ ⟨#[118]⟩ ⟨#[]⟩ 0 [] [] []), ⟨#[]⟩, ⟨#[]⟩⟩,
 ⟨0, ⟨#[80]⟩, false, false, ⟨#[]⟩, [⟨⟨#[65]⟩, 0, (.mk 0 ⟨#[]⟩ ⟨#[]⟩ [] [])⟩], (.mk 5 ⟨#[]⟩ ⟨#[]⟩ [(.mk 9 ⟨#[]⟩ ⟨#[65]⟩ [] [])] []), (.mk 5 ⟨#[]⟩ ⟨#[]⟩ [(.mk 9 ⟨#[]⟩ ⟨#[65]⟩ [] [])] []), (.mk 5 ⟨#[]⟩ ⟨#[]⟩ [(.mk 9 ⟨#[]⟩ ⟨#[65]⟩ [] [])] []), (.mk 0 ⟨#[]⟩ ⟨#[]⟩ ⟨#[]⟩ 0 [] [] []), ⟨#[]⟩, ⟨#[]⟩⟩,
 ⟨1, ⟨#[121]⟩, false, false, ⟨#[]⟩, [], (.mk 0 ⟨#[]⟩ ⟨#[]⟩ [] []), (.mk 0 ⟨#[]⟩ ⟨#[]⟩ [] []), (.mk 10 ⟨#[97,47,118,49]⟩ ⟨#[78]⟩ [] []), (.mk 4 ⟨#[97,47,118,49]⟩ ⟨#[102]⟩ ⟨#[]⟩ 0 [] [] []), ⟨#[]⟩, ⟨#[]⟩⟩]⟩
theorem hdX : vZ KB = 0 := Kf _ (by kernel_rfl) (by kernel_rfl) (by kernel_rfl) (by kernel_rfl) (by kernel_rfl)
theorem hdR : vZ RW = 0 := Kf _ (by kernel_rfl) (by kernel_rfl) (by kernel_rfl) (by kernel_rfl) (by kernel_rfl)
theorem cmX : oG KB = (0, 0) := by
 unfold oG
 rw [if_neg (by rw [hdX]; simp)]
 kernel_rfl
theorem cmR : oG RW = (0, 0) := by
 unfold oG
 rw [if_neg (by rw [hdR]; simp)]
 kernel_rfl
theorem NI : mP KB = (RW, 0, 0) := by
 unfold mP
 rw [cmX]
 kernel_rfl
theorem wtX : KB.wt ≤ 1048576 := Nat.le_of_ble_eq_true (by kernel_rfl)
theorem wtR : RW.wt ≤ 1048576 := Nat.le_of_ble_eq_true (by kernel_rfl)
theorem wdX : ∀ d ∈ KB.decls, d.wt ≤ 1048576 := fun d hd => Nat.le_of_ble_eq_true (List.all_eq_true.1 (show KB.decls.all (fun d => Nat.ble d.wt 1048576) = true from by kernel_rfl) d hd)
theorem RX (hG : aA.g = some 1) : aT Tryz.prog 31 [cM KB] (.cC [num 0, num 0]) := by
 obtain ⟨_, rfl, this⟩ := kr hG KB wtX
 rwa [cmX] at this
theorem RY (hG : aA.g = some 1) : aT Tryz.prog 31 [cM RW] (.cC [num 0, num 0]) := by
 obtain ⟨_, rfl, this⟩ := kr hG RW wtR
 rwa [cmR] at this
theorem RZ (hG : aA.g = some 1) : aT Tryz.prog 9 [cM KB] (.cC [cM RW, num 0, num 0]) := by
 obtain ⟨_, rfl, this⟩ := vU hG KB (Nat.le_of_ble_eq_true (by kernel_rfl)) (Nat.le_of_ble_eq_true (by kernel_rfl)) wdX (OI KB) (by rw [cmX]; exact RX hG)
 rwa [NI] at this
end Go.Proofs.YtnboooapeopjoaaGreatDoor
end
