/-
  AWAKE: the example of the chapter, computed call by call (written by program out of a log).
  THE EVALUATOR's word on a call at a store, purified.
-/
import Derived.Test.YtnboooapeopjoaaGreatDoorJ8
set_option linter.all false
section
namespace Go.Proofs.YtnboooapeopjoaaGreatDoor
open Go.Eng
variable [aA]
set_option maxHeartbeats 4000000
set_option maxRecDepth 100000
abbrev KC : V := .agg [num 1, str ⟨#[118]⟩, bl false, bl false, str ⟨#[]⟩, .slice [], num 0, str ⟨#[]⟩, str ⟨#[]⟩, .slice [], .slice [], num 0, str ⟨#[]⟩, str ⟨#[]⟩, .slice [], .slice [], num 2, str ⟨#[]⟩, str ⟨#[]⟩, .slice [], .slice [], num 0, str ⟨#[]⟩, str ⟨#[]⟩, str ⟨#[]⟩, num 1, .slice [], .slice [], .slice [], str ⟨#[]⟩, str ⟨#[]⟩]
abbrev OS : V := .agg [num 3, str ⟨#[]⟩, str ⟨#[118]⟩, str ⟨#[]⟩, num 0, .slice [], .slice [], .slice []]
abbrev KD : V := .agg [num 1, str ⟨#[119]⟩, bl false, bl false, str ⟨#[]⟩, .slice [], num 0, str ⟨#[]⟩, str ⟨#[]⟩, .slice [], .slice [], num 0, str ⟨#[]⟩, str ⟨#[]⟩, .slice [], .slice [], num 2, str ⟨#[]⟩, str ⟨#[]⟩, .slice [], .slice [], num 10, str ⟨#[]⟩, str ⟨#[118]⟩, str ⟨#[]⟩, num 0, .slice [], .slice [], .slice [.agg [num 0, str ⟨#[]⟩, str ⟨#[]⟩, str ⟨#[]⟩, num 2, .slice [], .slice [], .slice []], .agg [num 16, str ⟨#[]⟩, str ⟨#[43]⟩, str ⟨#[]⟩, num 0, .slice [], .slice [], .slice [OS, OS]]], str ⟨#[]⟩, str ⟨#[]⟩]
abbrev KE : V := .agg [num 1, str ⟨#[120]⟩, bl false, bl false, str ⟨#[]⟩, .slice [], num 0, str ⟨#[]⟩, str ⟨#[]⟩, .slice [], .slice [], num 0, str ⟨#[]⟩, str ⟨#[]⟩, .slice [], .slice [], num 2, str ⟨#[]⟩, str ⟨#[]⟩, .slice [], .slice [], num 4, str ⟨#[109,47,118,49]⟩, str ⟨#[118]⟩, str ⟨#[]⟩, num 0, .slice [], .slice [], .slice [], str ⟨#[]⟩, str ⟨#[]⟩]
abbrev Xo : V := .slice [.agg [str ⟨#[65]⟩, num 0, num 0, str ⟨#[]⟩, str ⟨#[]⟩, .slice [], .slice []]]
abbrev KF : V := .slice [.agg [num 9, str ⟨#[]⟩, str ⟨#[65]⟩, .slice [], .slice []]]
abbrev KG : V := .agg [num 0, str ⟨#[80]⟩, bl false, bl false, str ⟨#[]⟩, Xo, num 5, str ⟨#[]⟩, str ⟨#[]⟩, KF, .slice [], num 5, str ⟨#[]⟩, str ⟨#[]⟩, KF, .slice [], num 5, str ⟨#[]⟩, str ⟨#[]⟩, KF, .slice [], num 0, str ⟨#[]⟩, str ⟨#[]⟩, str ⟨#[]⟩, num 0, .slice [], .slice [], .slice [], str ⟨#[]⟩, str ⟨#[]⟩]
abbrev KH : V := .agg [num 1, str ⟨#[121]⟩, bl false, bl false, str ⟨#[]⟩, .slice [], num 0, str ⟨#[]⟩, str ⟨#[]⟩, .slice [], .slice [], num 0, str ⟨#[]⟩, str ⟨#[]⟩, .slice [], .slice [], num 10, str ⟨#[97,47,118,49]⟩, str ⟨#[78]⟩, .slice [], .slice [], num 4, str ⟨#[97,47,118,49]⟩, str ⟨#[102]⟩, str ⟨#[]⟩, num 0, .slice [], .slice [], .slice [], str ⟨#[]⟩, str ⟨#[]⟩]
abbrev BR : V := .agg [str ⟨#[109,47,118,49]⟩, .slice [.agg [str ⟨#[97,47,118,49]⟩, str ⟨#[115]⟩]], .slice [KC, KD, KE, KG, KH]]
abbrev KI : V := .agg [str ⟨#[]⟩, .slice [], .slice [KC]]
abbrev KJ : V := .agg [str ⟨#[]⟩, .slice [], .slice [KD]]
abbrev KK : V := .agg [str ⟨#[]⟩, .slice [], .slice [KE]]
abbrev KL : V := .agg [str ⟨#[]⟩, .slice [], .slice [KG]]
abbrev KM : V := .agg [str ⟨#[]⟩, .slice [], .slice [KH]]
theorem Xp (hG : aA.g = some 1) : aT Tryz.prog 79 [str ⟨#[109,47,118,49]⟩] (bl true) := by
 obtain ⟨_, rfl, h⟩ := ir hG ⟨#[109,47,118,49]⟩ (by decide)
 exact h
theorem Xq (hG : aA.g = some 1) : aT Tryz.prog 79 [str ⟨#[97,47,118,49]⟩] (bl true) := by
 obtain ⟨_, rfl, h⟩ := ir hG ⟨#[97,47,118,49]⟩ (by decide)
 exact h
theorem abK (hG : aA.g = some 1) : aT Tryz.prog 71 [BR, KC] (bl true) := bB (aM (Xp hG) (aM (Xq hG) aH)) (aW hG) 3000 (by kernel_rfl)
theorem abL (hG : aA.g = some 1) : aT Tryz.prog 71 [BR, KD] (bl true) := bB (aM (Xp hG) (aM (Xq hG) aH)) (aW hG) 3000 (by kernel_rfl)
theorem abM (hG : aA.g = some 1) : aT Tryz.prog 71 [BR, KE] (bl true) := bB (aM (Xp hG) (aM (Xq hG) aH)) (aW hG) 3000 (by kernel_rfl)
theorem abN (hG : aA.g = some 1) : aT Tryz.prog 71 [BR, KG] (bl true) := bB (aM (Xp hG) (aM (Xq hG) aH)) (aW hG) 3000 (by kernel_rfl)
theorem abO (hG : aA.g = some 1) : aT Tryz.prog 71 [BR, KH] (bl true) := bB (aM (Xp hG) (aM (Xq hG) aH)) (aW hG) 3000 (by kernel_rfl)
theorem abP (hG : aA.g = some 1) : aT Tryz.prog 74 [KI, KI] (bl true) := bB aH (aW hG) 3000 (by kernel_rfl)
theorem abQ (hG : aA.g = some 1) : aT Tryz.prog 74 [KJ, KJ] (bl true) := bB aH (aW hG) 3000 (by kernel_rfl)
theorem abR (hG : aA.g = some 1) : aT Tryz.prog 74 [KK, KK] (bl true) := bB aH (aW hG) 3000 (by kernel_rfl)
theorem abS (hG : aA.g = some 1) : aT Tryz.prog 74 [KL, KL] (bl true) := bB aH (aW hG) 3000 (by kernel_rfl)
theorem Xr (hG : aA.g = some 1) : aT Tryz.prog 74 [KM, KM] (bl true) := bB aH (aW hG) 3000 (by kernel_rfl)
end Go.Proofs.YtnboooapeopjoaaGreatDoor
end

section
namespace Go.Proofs.YtnboooapeopjoaaGreatDoor
open Go.Eng
variable [aA]
theorem cP {nat : lH} {jd : FuncId → List V → Option V} {mS : ij} (tg : lK Tryz.prog jd) (FA : fS Tryz.prog mS) (bh : jc Tryz.prog nat) (n : Nat) {f : FuncId} {vs : List V} {mem : List aC} {outs : List (V × List aC)} (h : II mem.length (Lu Tryz.prog tt (ev Tryz.prog tt wU nat jd mS n) f vs mem) = some outs) : cj Tryz.prog f vs mem fun r m => (r, m) ∈ outs :=
 cj.II (fun _ hl => qu tg FA bh n hl) h
end Go.Proofs.YtnboooapeopjoaaGreatDoor
end
