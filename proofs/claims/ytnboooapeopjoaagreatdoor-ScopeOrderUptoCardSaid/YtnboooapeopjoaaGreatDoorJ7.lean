/-
  AWAKE: the example is cut into tokens (written by program: mkawl.py).
-/
import Derived.Test.YtnboooapeopjoaaGreatDoorJ6
set_option linter.all false
section
namespace Go.Proofs.YtnboooapeopjoaaGreatDoor
open Go.Eng
variable [aA]
set_option maxHeartbeats 4000000
set_option maxRecDepth 100000
def G8 : ByteArray := ⟨#[109,111,100,117,108,101,32,109,47,118,49,32,105,109,112,111,114,116,32,97,47,118,49,32,97,115,32,115,32,108,101,116,32,118,58,32,105,110,116,32,61,32,49,32,108,101,116,32,119,58,32,105,110,116,32,61,32,108,101,116,32,118,32,61,32,50,32,105,110,32,118,32,43,32,118,32,108,101,116,32,120,58,32,105,110,116,32,61,32,118,32,116,121,112,101,32,80,91,43,65,93,32,61,32,108,105,115,116,91,65,93,32,108,101,116,32,121,58,32,115,58,58,78,32,61,32,115,58,58,102]⟩
def B9 (k : Nat) : Nat := ([0,7,8,9,12,19,20,21,24,27,29,33,34,36,40,42,44,48,49,51,55,57,61,63,65,67,70,72,74,76,80,81,83,87,89,91,96,97,98,99,100,102,104,108,109,110,112,116,117,119,120,122,124,126,127,129,130] : List Nat).getD k 0
def LG (k : Nat) : Nat := ([6,1,1,2,6,1,1,2,2,1,3,1,1,3,1,1,3,1,1,3,1,3,1,1,1,2,1,1,1,3,1,1,3,1,1,4,1,1,1,1,1,1,4,1,1,1,3,1,1,1,2,1,1,1,2,1] : List Nat).getD k 0
def lxK (k : Nat) : Int := ([5,1,6,1,5,1,6,1,5,1,5,1,6,5,6,3,5,1,6,5,6,5,1,6,3,5,1,6,1,5,1,6,5,6,1,5,2,6,6,2,6,6,5,6,2,6,5,1,6,1,6,2,6,1,6,1] : List Int).getD k 0
def lxX (k : Nat) : ByteArray := ([⟨#[109,111,100,117,108,101]⟩, ⟨#[109]⟩, ⟨#[47]⟩, ⟨#[118,49]⟩, ⟨#[105,109,112,111,114,116]⟩, ⟨#[97]⟩, ⟨#[47]⟩, ⟨#[118,49]⟩, ⟨#[97,115]⟩, ⟨#[115]⟩, ⟨#[108,101,116]⟩, ⟨#[118]⟩, ⟨#[58]⟩, ⟨#[105,110,116]⟩, ⟨#[61]⟩, ⟨#[49]⟩, ⟨#[108,101,116]⟩, ⟨#[119]⟩, ⟨#[58]⟩, ⟨#[105,110,116]⟩, ⟨#[61]⟩, ⟨#[108,101,116]⟩, ⟨#[118]⟩, ⟨#[61]⟩, ⟨#[50]⟩, ⟨#[105,110]⟩, ⟨#[118]⟩, ⟨#[43]⟩, ⟨#[118]⟩, ⟨#[108,101,116]⟩, ⟨#[120]⟩, ⟨#[58]⟩, ⟨#[105,110,116]⟩, ⟨#[61]⟩, ⟨#[118]⟩, ⟨#[116,121,112,101]⟩, ⟨#[80]⟩, ⟨#[91]⟩, ⟨#[43]⟩, ⟨#[65]⟩, ⟨#[93]⟩, ⟨#[61]⟩, ⟨#[108,105,115,116]⟩, ⟨#[91]⟩, ⟨#[65]⟩, ⟨#[93]⟩, ⟨#[108,101,116]⟩, ⟨#[121]⟩, ⟨#[58]⟩, ⟨#[115]⟩, ⟨#[58,58]⟩, ⟨#[78]⟩, ⟨#[61]⟩, ⟨#[115]⟩, ⟨#[58,58]⟩, ⟨#[102]⟩] : List ByteArray).getD k ⟨#[]⟩
def Yr (k : Nat) : Nat := B9 (k + 1) - B9 k - LG k
def iL (k : Nat) : Prop := B9 k < G8.size ∧ B9 k + LG k ≤ 1048576 ∧ aT Tryz.prog 156 [str (G8.extract (B9 k) G8.size)] (.cC [.agg [num (lxK k), str (lxX k), num 0], num (LG k), num 0])
def iM (k : Nat) : Prop := ∃ d : Nat, B9 (k + 1) = B9 k + LG k + d ∧ d ≤ 65536 ∧ aT Tryz.prog 155 [str G8, num ((B9 k + LG k : Nat) : Int)] (num d)
theorem iV (hG : aA.g = some 1) (k : Nat) (h : decide (B9 k < G8.size ∧ B9 k + LG k ≤ 1048576) = true) (h2 : sS Tryz.prog tt (ev Tryz.prog tt wU Mq (sZ []) X3 3000) 156 [str (G8.extract (B9 k) G8.size)] = some (.cC [.agg [num (lxK k), str (lxX k), num 0], num (LG k), num 0])) : iL k := ⟨(of_decide_eq_true h).1, (of_decide_eq_true h).2, bB aH (aW hG) 3000 h2⟩
theorem iW (hG : aA.g = some 1) (k : Nat) (h : decide (B9 (k + 1) = B9 k + LG k + Yr k ∧ Yr k ≤ 65536) = true) (h2 : sS Tryz.prog tt (ev Tryz.prog tt wU Mq (sZ []) X3 3000) 155 [str G8, num ((B9 k + LG k : Nat) : Int)] = some (num (Yr k))) : iM k := ⟨Yr k, (of_decide_eq_true h).1, (of_decide_eq_true h).2, bB aH (aW hG) 3000 h2⟩
theorem abd (hG : aA.g = some 1) : iL 0 := iV hG 0 (by kernel_rfl) (by kernel_rfl)
theorem abe (hG : aA.g = some 1) : iM 0 := iW hG 0 (by kernel_rfl) (by kernel_rfl)
theorem abf (hG : aA.g = some 1) : iL 1 := iV hG 1 (by kernel_rfl) (by kernel_rfl)
theorem abg (hG : aA.g = some 1) : iM 1 := iW hG 1 (by kernel_rfl) (by kernel_rfl)
theorem abh (hG : aA.g = some 1) : iL 2 := iV hG 2 (by kernel_rfl) (by kernel_rfl)
theorem abi (hG : aA.g = some 1) : iM 2 := iW hG 2 (by kernel_rfl) (by kernel_rfl)
theorem abj (hG : aA.g = some 1) : iL 3 := iV hG 3 (by kernel_rfl) (by kernel_rfl)
theorem abk (hG : aA.g = some 1) : iM 3 := iW hG 3 (by kernel_rfl) (by kernel_rfl)
theorem abl (hG : aA.g = some 1) : iL 4 := iV hG 4 (by kernel_rfl) (by kernel_rfl)
theorem abm (hG : aA.g = some 1) : iM 4 := iW hG 4 (by kernel_rfl) (by kernel_rfl)
theorem abn (hG : aA.g = some 1) : iL 5 := iV hG 5 (by kernel_rfl) (by kernel_rfl)
theorem abo (hG : aA.g = some 1) : iM 5 := iW hG 5 (by kernel_rfl) (by kernel_rfl)
theorem abp (hG : aA.g = some 1) : iL 6 := iV hG 6 (by kernel_rfl) (by kernel_rfl)
theorem abq (hG : aA.g = some 1) : iM 6 := iW hG 6 (by kernel_rfl) (by kernel_rfl)
theorem abr (hG : aA.g = some 1) : iL 7 := iV hG 7 (by kernel_rfl) (by kernel_rfl)
theorem abt (hG : aA.g = some 1) : iM 7 := iW hG 7 (by kernel_rfl) (by kernel_rfl)
theorem abu (hG : aA.g = some 1) : iL 8 := iV hG 8 (by kernel_rfl) (by kernel_rfl)
theorem abv (hG : aA.g = some 1) : iM 8 := iW hG 8 (by kernel_rfl) (by kernel_rfl)
theorem abw (hG : aA.g = some 1) : iL 9 := iV hG 9 (by kernel_rfl) (by kernel_rfl)
theorem abx (hG : aA.g = some 1) : iM 9 := iW hG 9 (by kernel_rfl) (by kernel_rfl)
theorem Vp (hG : aA.g = some 1) : iL 10 := iV hG 10 (by kernel_rfl) (by kernel_rfl)
theorem Vq (hG : aA.g = some 1) : iM 10 := iW hG 10 (by kernel_rfl) (by kernel_rfl)
theorem Vr (hG : aA.g = some 1) : iL 11 := iV hG 11 (by kernel_rfl) (by kernel_rfl)
theorem Vs (hG : aA.g = some 1) : iM 11 := iW hG 11 (by kernel_rfl) (by kernel_rfl)
theorem Vt (hG : aA.g = some 1) : iL 12 := iV hG 12 (by kernel_rfl) (by kernel_rfl)
theorem Vu (hG : aA.g = some 1) : iM 12 := iW hG 12 (by kernel_rfl) (by kernel_rfl)
theorem Vv (hG : aA.g = some 1) : iL 13 := iV hG 13 (by kernel_rfl) (by kernel_rfl)
theorem Vw (hG : aA.g = some 1) : iM 13 := iW hG 13 (by kernel_rfl) (by kernel_rfl)
theorem Vx (hG : aA.g = some 1) : iL 14 := iV hG 14 (by kernel_rfl) (by kernel_rfl)
theorem Vy (hG : aA.g = some 1) : iM 14 := iW hG 14 (by kernel_rfl) (by kernel_rfl)
theorem Vz (hG : aA.g = some 1) : iL 15 := iV hG 15 (by kernel_rfl) (by kernel_rfl)
theorem VB (hG : aA.g = some 1) : iM 15 := iW hG 15 (by kernel_rfl) (by kernel_rfl)
theorem VE (hG : aA.g = some 1) : iL 16 := iV hG 16 (by kernel_rfl) (by kernel_rfl)
theorem VH (hG : aA.g = some 1) : iM 16 := iW hG 16 (by kernel_rfl) (by kernel_rfl)
theorem VI (hG : aA.g = some 1) : iL 17 := iV hG 17 (by kernel_rfl) (by kernel_rfl)
theorem VJ (hG : aA.g = some 1) : iM 17 := iW hG 17 (by kernel_rfl) (by kernel_rfl)
theorem VK (hG : aA.g = some 1) : iL 18 := iV hG 18 (by kernel_rfl) (by kernel_rfl)
theorem VL (hG : aA.g = some 1) : iM 18 := iW hG 18 (by kernel_rfl) (by kernel_rfl)
theorem VM (hG : aA.g = some 1) : iL 19 := iV hG 19 (by kernel_rfl) (by kernel_rfl)
theorem VN (hG : aA.g = some 1) : iM 19 := iW hG 19 (by kernel_rfl) (by kernel_rfl)
theorem VO (hG : aA.g = some 1) : iL 20 := iV hG 20 (by kernel_rfl) (by kernel_rfl)
theorem VQ (hG : aA.g = some 1) : iM 20 := iW hG 20 (by kernel_rfl) (by kernel_rfl)
theorem VR (hG : aA.g = some 1) : iL 21 := iV hG 21 (by kernel_rfl) (by kernel_rfl)
theorem VS (hG : aA.g = some 1) : iM 21 := iW hG 21 (by kernel_rfl) (by kernel_rfl)
theorem VT (hG : aA.g = some 1) : iL 22 := iV hG 22 (by kernel_rfl) (by kernel_rfl)
theorem VU (hG : aA.g = some 1) : iM 22 := iW hG 22 (by kernel_rfl) (by kernel_rfl)
theorem VV (hG : aA.g = some 1) : iL 23 := iV hG 23 (by kernel_rfl) (by kernel_rfl)
theorem VW (hG : aA.g = some 1) : iM 23 := iW hG 23 (by kernel_rfl) (by kernel_rfl)
theorem VX (hG : aA.g = some 1) : iL 24 := iV hG 24 (by kernel_rfl) (by kernel_rfl)
theorem VY (hG : aA.g = some 1) : iM 24 := iW hG 24 (by kernel_rfl) (by kernel_rfl)
theorem VZ (hG : aA.g = some 1) : iL 25 := iV hG 25 (by kernel_rfl) (by kernel_rfl)
theorem V0 (hG : aA.g = some 1) : iM 25 := iW hG 25 (by kernel_rfl) (by kernel_rfl)
theorem V1 (hG : aA.g = some 1) : iL 26 := iV hG 26 (by kernel_rfl) (by kernel_rfl)
theorem V2 (hG : aA.g = some 1) : iM 26 := iW hG 26 (by kernel_rfl) (by kernel_rfl)
theorem V3 (hG : aA.g = some 1) : iL 27 := iV hG 27 (by kernel_rfl) (by kernel_rfl)
theorem V4 (hG : aA.g = some 1) : iM 27 := iW hG 27 (by kernel_rfl) (by kernel_rfl)
theorem V5 (hG : aA.g = some 1) : iL 28 := iV hG 28 (by kernel_rfl) (by kernel_rfl)
theorem V6 (hG : aA.g = some 1) : iM 28 := iW hG 28 (by kernel_rfl) (by kernel_rfl)
theorem V7 (hG : aA.g = some 1) : iL 29 := iV hG 29 (by kernel_rfl) (by kernel_rfl)
theorem V8 (hG : aA.g = some 1) : iM 29 := iW hG 29 (by kernel_rfl) (by kernel_rfl)
theorem V9 (hG : aA.g = some 1) : iL 30 := iV hG 30 (by kernel_rfl) (by kernel_rfl)
theorem Wa (hG : aA.g = some 1) : iM 30 := iW hG 30 (by kernel_rfl) (by kernel_rfl)
theorem Wb (hG : aA.g = some 1) : iL 31 := iV hG 31 (by kernel_rfl) (by kernel_rfl)
theorem Wc (hG : aA.g = some 1) : iM 31 := iW hG 31 (by kernel_rfl) (by kernel_rfl)
theorem Wd (hG : aA.g = some 1) : iL 32 := iV hG 32 (by kernel_rfl) (by kernel_rfl)
theorem We (hG : aA.g = some 1) : iM 32 := iW hG 32 (by kernel_rfl) (by kernel_rfl)
theorem Wf (hG : aA.g = some 1) : iL 33 := iV hG 33 (by kernel_rfl) (by kernel_rfl)
theorem Wg (hG : aA.g = some 1) : iM 33 := iW hG 33 (by kernel_rfl) (by kernel_rfl)
theorem Wh (hG : aA.g = some 1) : iL 34 := iV hG 34 (by kernel_rfl) (by kernel_rfl)
theorem Wi (hG : aA.g = some 1) : iM 34 := iW hG 34 (by kernel_rfl) (by kernel_rfl)
theorem Wj (hG : aA.g = some 1) : iL 35 := iV hG 35 (by kernel_rfl) (by kernel_rfl)
theorem Wk (hG : aA.g = some 1) : iM 35 := iW hG 35 (by kernel_rfl) (by kernel_rfl)
theorem Wl (hG : aA.g = some 1) : iL 36 := iV hG 36 (by kernel_rfl) (by kernel_rfl)
theorem Wm (hG : aA.g = some 1) : iM 36 := iW hG 36 (by kernel_rfl) (by kernel_rfl)
theorem Wn (hG : aA.g = some 1) : iL 37 := iV hG 37 (by kernel_rfl) (by kernel_rfl)
theorem Wo (hG : aA.g = some 1) : iM 37 := iW hG 37 (by kernel_rfl) (by kernel_rfl)
theorem Wp (hG : aA.g = some 1) : iL 38 := iV hG 38 (by kernel_rfl) (by kernel_rfl)
theorem Wq (hG : aA.g = some 1) : iM 38 := iW hG 38 (by kernel_rfl) (by kernel_rfl)
theorem Wr (hG : aA.g = some 1) : iL 39 := iV hG 39 (by kernel_rfl) (by kernel_rfl)
theorem Ws (hG : aA.g = some 1) : iM 39 := iW hG 39 (by kernel_rfl) (by kernel_rfl)
theorem Wt (hG : aA.g = some 1) : iL 40 := iV hG 40 (by kernel_rfl) (by kernel_rfl)
theorem Wu (hG : aA.g = some 1) : iM 40 := iW hG 40 (by kernel_rfl) (by kernel_rfl)
theorem Wv (hG : aA.g = some 1) : iL 41 := iV hG 41 (by kernel_rfl) (by kernel_rfl)
theorem Ww (hG : aA.g = some 1) : iM 41 := iW hG 41 (by kernel_rfl) (by kernel_rfl)
theorem Wx (hG : aA.g = some 1) : iL 42 := iV hG 42 (by kernel_rfl) (by kernel_rfl)
theorem Wy (hG : aA.g = some 1) : iM 42 := iW hG 42 (by kernel_rfl) (by kernel_rfl)
theorem Wz (hG : aA.g = some 1) : iL 43 := iV hG 43 (by kernel_rfl) (by kernel_rfl)
theorem WA (hG : aA.g = some 1) : iM 43 := iW hG 43 (by kernel_rfl) (by kernel_rfl)
theorem WB (hG : aA.g = some 1) : iL 44 := iV hG 44 (by kernel_rfl) (by kernel_rfl)
theorem WC (hG : aA.g = some 1) : iM 44 := iW hG 44 (by kernel_rfl) (by kernel_rfl)
theorem WD (hG : aA.g = some 1) : iL 45 := iV hG 45 (by kernel_rfl) (by kernel_rfl)
theorem WE (hG : aA.g = some 1) : iM 45 := iW hG 45 (by kernel_rfl) (by kernel_rfl)
theorem WG (hG : aA.g = some 1) : iL 46 := iV hG 46 (by kernel_rfl) (by kernel_rfl)
theorem WH (hG : aA.g = some 1) : iM 46 := iW hG 46 (by kernel_rfl) (by kernel_rfl)
theorem WI (hG : aA.g = some 1) : iL 47 := iV hG 47 (by kernel_rfl) (by kernel_rfl)
theorem WJ (hG : aA.g = some 1) : iM 47 := iW hG 47 (by kernel_rfl) (by kernel_rfl)
theorem WK (hG : aA.g = some 1) : iL 48 := iV hG 48 (by kernel_rfl) (by kernel_rfl)
theorem WL (hG : aA.g = some 1) : iM 48 := iW hG 48 (by kernel_rfl) (by kernel_rfl)
theorem WM (hG : aA.g = some 1) : iL 49 := iV hG 49 (by kernel_rfl) (by kernel_rfl)
theorem WN (hG : aA.g = some 1) : iM 49 := iW hG 49 (by kernel_rfl) (by kernel_rfl)
theorem WO (hG : aA.g = some 1) : iL 50 := iV hG 50 (by kernel_rfl) (by kernel_rfl)
theorem WQ (hG : aA.g = some 1) : iM 50 := iW hG 50 (by kernel_rfl) (by kernel_rfl)
theorem WR (hG : aA.g = some 1) : iL 51 := iV hG 51 (by kernel_rfl) (by kernel_rfl)
theorem WS (hG : aA.g = some 1) : iM 51 := iW hG 51 (by kernel_rfl) (by kernel_rfl)
theorem WT (hG : aA.g = some 1) : iL 52 := iV hG 52 (by kernel_rfl) (by kernel_rfl)
theorem WU (hG : aA.g = some 1) : iM 52 := iW hG 52 (by kernel_rfl) (by kernel_rfl)
theorem WV (hG : aA.g = some 1) : iL 53 := iV hG 53 (by kernel_rfl) (by kernel_rfl)
theorem WW (hG : aA.g = some 1) : iM 53 := iW hG 53 (by kernel_rfl) (by kernel_rfl)
theorem WX (hG : aA.g = some 1) : iL 54 := iV hG 54 (by kernel_rfl) (by kernel_rfl)
theorem WY (hG : aA.g = some 1) : iM 54 := iW hG 54 (by kernel_rfl) (by kernel_rfl)
theorem WZ (hG : aA.g = some 1) : iL 55 := iV hG 55 (by kernel_rfl) (by kernel_rfl)
theorem W0 (hG : aA.g = some 1) : iM 55 := iW hG 55 (by kernel_rfl) (by kernel_rfl)
theorem aby (hG : aA.g = some 1) : aT Tryz.prog 155 [str G8, num 0] (num (B9 0)) := bB aH (aW hG) 3000 (by kernel_rfl)
theorem OL (hG : aA.g = some 1) : ∀ k < 56, iL k ∧ iM k
 | 0, _ => ⟨abd hG, abe hG⟩
 | 1, _ => ⟨abf hG, abg hG⟩
 | 2, _ => ⟨abh hG, abi hG⟩
 | 3, _ => ⟨abj hG, abk hG⟩
 | 4, _ => ⟨abl hG, abm hG⟩
 | 5, _ => ⟨abn hG, abo hG⟩
 | 6, _ => ⟨abp hG, abq hG⟩
 | 7, _ => ⟨abr hG, abt hG⟩
 | 8, _ => ⟨abu hG, abv hG⟩
 | 9, _ => ⟨abw hG, abx hG⟩
 | 10, _ => ⟨Vp hG, Vq hG⟩
 | 11, _ => ⟨Vr hG, Vs hG⟩
 | 12, _ => ⟨Vt hG, Vu hG⟩
 | 13, _ => ⟨Vv hG, Vw hG⟩
 | 14, _ => ⟨Vx hG, Vy hG⟩
 | 15, _ => ⟨Vz hG, VB hG⟩
 | 16, _ => ⟨VE hG, VH hG⟩
 | 17, _ => ⟨VI hG, VJ hG⟩
 | 18, _ => ⟨VK hG, VL hG⟩
 | 19, _ => ⟨VM hG, VN hG⟩
 | 20, _ => ⟨VO hG, VQ hG⟩
 | 21, _ => ⟨VR hG, VS hG⟩
 | 22, _ => ⟨VT hG, VU hG⟩
 | 23, _ => ⟨VV hG, VW hG⟩
 | 24, _ => ⟨VX hG, VY hG⟩
 | 25, _ => ⟨VZ hG, V0 hG⟩
 | 26, _ => ⟨V1 hG, V2 hG⟩
 | 27, _ => ⟨V3 hG, V4 hG⟩
 | 28, _ => ⟨V5 hG, V6 hG⟩
 | 29, _ => ⟨V7 hG, V8 hG⟩
 | 30, _ => ⟨V9 hG, Wa hG⟩
 | 31, _ => ⟨Wb hG, Wc hG⟩
 | 32, _ => ⟨Wd hG, We hG⟩
 | 33, _ => ⟨Wf hG, Wg hG⟩
 | 34, _ => ⟨Wh hG, Wi hG⟩
 | 35, _ => ⟨Wj hG, Wk hG⟩
 | 36, _ => ⟨Wl hG, Wm hG⟩
 | 37, _ => ⟨Wn hG, Wo hG⟩
 | 38, _ => ⟨Wp hG, Wq hG⟩
 | 39, _ => ⟨Wr hG, Ws hG⟩
 | 40, _ => ⟨Wt hG, Wu hG⟩
 | 41, _ => ⟨Wv hG, Ww hG⟩
 | 42, _ => ⟨Wx hG, Wy hG⟩
 | 43, _ => ⟨Wz hG, WA hG⟩
 | 44, _ => ⟨WB hG, WC hG⟩
 | 45, _ => ⟨WD hG, WE hG⟩
 | 46, _ => ⟨WG hG, WH hG⟩
 | 47, _ => ⟨WI hG, WJ hG⟩
 | 48, _ => ⟨WK hG, WL hG⟩
 | 49, _ => ⟨WM hG, WN hG⟩
 | 50, _ => ⟨WO hG, WQ hG⟩
 | 51, _ => ⟨WR hG, WS hG⟩
 | 52, _ => ⟨WT hG, WU hG⟩
 | 53, _ => ⟨WV hG, WW hG⟩
 | 54, _ => ⟨WX hG, WY hG⟩
 | 55, _ => ⟨WZ hG, W0 hG⟩
 | k + 56, h => absurd h (by omega)
abbrev tkV : V := .slice [.agg [num 5, str ⟨#[109,111,100,117,108,101]⟩, num 0], .agg [num 1, str ⟨#[109]⟩, num 7], .agg [num 6, str ⟨#[47]⟩, num 8], .agg [num 1, str ⟨#[118,49]⟩, num 9], .agg [num 5, str ⟨#[105,109,112,111,114,116]⟩, num 12], .agg [num 1, str ⟨#[97]⟩, num 19], .agg [num 6, str ⟨#[47]⟩, num 20], .agg [num 1, str ⟨#[118,49]⟩, num 21], .agg [num 5, str ⟨#[97,115]⟩, num 24], .agg [num 1, str ⟨#[115]⟩, num 27], .agg [num 5, str ⟨#[108,101,116]⟩, num 29], .agg [num 1, str ⟨#[118]⟩, num 33], .agg [num 6, str ⟨#[58]⟩, num 34], .agg [num 5, str ⟨#[105,110,116]⟩, num 36], .agg [num 6, str ⟨#[61]⟩, num 40], .agg [num 3, str ⟨#[49]⟩, num 42], .agg [num 5, str ⟨#[108,101,116]⟩, num 44], .agg [num 1, str ⟨#[119]⟩, num 48], .agg [num 6, str ⟨#[58]⟩, num 49], .agg [num 5, str ⟨#[105,110,116]⟩, num 51], .agg [num 6, str ⟨#[61]⟩, num 55], .agg [num 5, str ⟨#[108,101,116]⟩, num 57], .agg [num 1, str ⟨#[118]⟩, num 61], .agg [num 6, str ⟨#[61]⟩, num 63], .agg [num 3, str ⟨#[50]⟩, num 65], .agg [num 5, str ⟨#[105,110]⟩, num 67], .agg [num 1, str ⟨#[118]⟩, num 70], .agg [num 6, str ⟨#[43]⟩, num 72], .agg [num 1, str ⟨#[118]⟩, num 74], .agg [num 5, str ⟨#[108,101,116]⟩, num 76], .agg [num 1, str ⟨#[120]⟩, num 80], .agg [num 6, str ⟨#[58]⟩, num 81], .agg [num 5, str ⟨#[105,110,116]⟩, num 83], .agg [num 6, str ⟨#[61]⟩, num 87], .agg [num 1, str ⟨#[118]⟩, num 89], .agg [num 5, str ⟨#[116,121,112,101]⟩, num 91], .agg [num 2, str ⟨#[80]⟩, num 96], .agg [num 6, str ⟨#[91]⟩, num 97], .agg [num 6, str ⟨#[43]⟩, num 98], .agg [num 2, str ⟨#[65]⟩, num 99], .agg [num 6, str ⟨#[93]⟩, num 100], .agg [num 6, str ⟨#[61]⟩, num 102], .agg [num 5, str ⟨#[108,105,115,116]⟩, num 104], .agg [num 6, str ⟨#[91]⟩, num 108], .agg [num 2, str ⟨#[65]⟩, num 109], .agg [num 6, str ⟨#[93]⟩, num 110], .agg [num 5, str ⟨#[108,101,116]⟩, num 112], .agg [num 1, str ⟨#[121]⟩, num 116], .agg [num 6, str ⟨#[58]⟩, num 117], .agg [num 1, str ⟨#[115]⟩, num 119], .agg [num 6, str ⟨#[58,58]⟩, num 120], .agg [num 2, str ⟨#[78]⟩, num 122], .agg [num 6, str ⟨#[61]⟩, num 124], .agg [num 1, str ⟨#[115]⟩, num 126], .agg [num 6, str ⟨#[58,58]⟩, num 127], .agg [num 1, str ⟨#[102]⟩, num 129], .agg [num 0, str ⟨#[]⟩, num 130]]
theorem abz (hG : aA.g = some 1) : aT Tryz.prog 108 [str G8] (.cC [tkV, num 0, num 0]) := by
 obtain ⟨_, rfl, h⟩ := NH G8 (by decide) 56 B9 LG lxK lxX (aby hG) (fun k hk => (OL hG k hk).1) (fun k hk => (OL hG k hk).2) (by decide) (by kernel_rfl)
 exact h
theorem abA (hG : aA.g = some 1) : aT Tryz.prog 62 [str G8] (.agg [tkV, num 0, num 0, num 0]) := bB (aM (abz hG) aH) (aW hG) 3000 (by kernel_rfl)
end Go.Proofs.YtnboooapeopjoaaGreatDoor
end
