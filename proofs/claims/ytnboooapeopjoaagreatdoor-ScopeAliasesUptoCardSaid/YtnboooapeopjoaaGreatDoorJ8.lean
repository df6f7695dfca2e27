import Derived.Test.YtnboooapeopjoaaGreatDoorJ7
open Go.Proofs.Tryz renaming prog→ab
set_option linter.all false
section
namespace Go.Proofs.YtnboooapeopjoaaGreatDoor
open Go.Eng
variable [a6]
set_option maxHeartbeats 4000000
set_option maxRecDepth 100000
def LL:ByteArray:=⟨#[109,111,100,117,108,101,32,109,47,118,49,32,105,109,112,111,114,116,32,97,47,118,49,32,97,115,32,115,32,108,101,116,32,118,58,32,105,110,116,32,61,32,49,32,108,101,116,32,119,58,32,105,110,116,32,61,32,108,101,116,32,118,32,61,32,50,32,105,110,32,118,32,43,32,118,32,108,101,116,32,120,58,32,105,110,116,32,61,32,118,32,116,121,112,101,32,80,91,43,65,93,32,61,32,108,105,115,116,91,65,93,32,108,101,116,32,121,58,32,115,58,58,78,32,61,32,115,58,58,102]⟩
def Gm (k:Nat):Nat:=([0,7,8,9,12,19,20,21,24,27,29,33,34,36,40,42,44,48,49,51,55,57,61,63,65,67,70,72,74,76,80,81,83,87,89,91,96,97,98,99,100,102,104,108,109,110,112,116,117,119,120,122,124,126,127,129,130]:List Nat).getD k 0
def QV (k:Nat):Nat:=([6,1,1,2,6,1,1,2,2,1,3,1,1,3,1,1,3,1,1,3,1,3,1,1,1,2,1,1,1,3,1,1,3,1,1,4,1,1,1,1,1,1,4,1,1,1,3,1,1,1,2,1,1,1,2,1]:List Nat).getD k 0
def lxK (k:Nat):Int:=([5,1,6,1,5,1,6,1,5,1,5,1,6,5,6,3,5,1,6,5,6,5,1,6,3,5,1,6,1,5,1,6,5,6,1,5,2,6,6,2,6,6,5,6,2,6,5,1,6,1,6,2,6,1,6,1]:List Int).getD k 0
def lxX (k:Nat):ByteArray:=([⟨#[109,111,100,117,108,101]⟩,⟨#[109]⟩,⟨#[47]⟩,⟨#[118,49]⟩,⟨#[105,109,112,111,114,116]⟩,⟨#[97]⟩,⟨#[47]⟩,⟨#[118,49]⟩,⟨#[97,115]⟩,⟨#[115]⟩,⟨#[108,101,116]⟩,⟨#[118]⟩,⟨#[58]⟩,⟨#[105,110,116]⟩,⟨#[61]⟩,⟨#[49]⟩,⟨#[108,101,116]⟩,⟨#[119]⟩,⟨#[58]⟩,⟨#[105,110,116]⟩,⟨#[61]⟩,⟨#[108,101,116]⟩,⟨#[118]⟩,⟨#[61]⟩,⟨#[50]⟩,⟨#[105,110]⟩,⟨#[118]⟩,⟨#[43]⟩,⟨#[118]⟩,⟨#[108,101,116]⟩,⟨#[120]⟩,⟨#[58]⟩,⟨#[105,110,116]⟩,⟨#[61]⟩,⟨#[118]⟩,⟨#[116,121,112,101]⟩,⟨#[80]⟩,⟨#[91]⟩,⟨#[43]⟩,⟨#[65]⟩,⟨#[93]⟩,⟨#[61]⟩,⟨#[108,105,115,116]⟩,⟨#[91]⟩,⟨#[65]⟩,⟨#[93]⟩,⟨#[108,101,116]⟩,⟨#[121]⟩,⟨#[58]⟩,⟨#[115]⟩,⟨#[58,58]⟩,⟨#[78]⟩,⟨#[61]⟩,⟨#[115]⟩,⟨#[58,58]⟩,⟨#[102]⟩]:List ByteArray).getD k ⟨#[]⟩
def lxD (k:Nat):Nat:=Gm (k+1)-Gm k-QV k
def lv (k:Nat):Prop:=Gm k<LL.size∧Gm k+QV k≤1048576∧bG ab 156 [str (LL.extract (Gm k) LL.size)] (.eC [.agg [num (lxK k),str (lxX k),num 0],num (QV k),num 0])
def lx (k:Nat):Prop:=∃ d:Nat,Gm (k+1)=Gm k+QV k+d∧d≤65536∧bG ab 155 [str LL,num ((Gm k+QV k:Nat):Int)] (num d)
theorem lG (hG:a6.g=some 1) (k:Nat) (h:decide (Gm k<LL.size∧Gm k+QV k≤1048576)=true) (h2:wP ab tt (ev ab tt Ba RL (wV []) noM 3000) 156 [str (LL.extract (Gm k) LL.size)]=some (.eC [.agg [num (lxK k),str (lxX k),num 0],num (QV k),num 0])):lv k:=⟨(of_decide_eq_true h).1,(of_decide_eq_true h).2,cJ bo (b7 hG) 3000 h2⟩
theorem lH (hG:a6.g=some 1) (k:Nat) (h:decide (Gm (k+1)=Gm k+QV k+lxD k∧lxD k≤65536)=true) (h2:wP ab tt (ev ab tt Ba RL (wV []) noM 3000) 155 [str LL,num ((Gm k+QV k:Nat):Int)]=some (num (lxD k))):lx k:=⟨lxD k,(of_decide_eq_true h).1,(of_decide_eq_true h).2,cJ bo (b7 hG) 3000 h2⟩
theorem ahJ (hG:a6.g=some 1):lv 0:=lG hG 0 (by kernel_rfl) (by kernel_rfl)
theorem ahK (hG:a6.g=some 1):lx 0:=lH hG 0 (by kernel_rfl) (by kernel_rfl)
theorem ahL (hG:a6.g=some 1):lv 1:=lG hG 1 (by kernel_rfl) (by kernel_rfl)
theorem ahM (hG:a6.g=some 1):lx 1:=lH hG 1 (by kernel_rfl) (by kernel_rfl)
theorem ahN (hG:a6.g=some 1):lv 2:=lG hG 2 (by kernel_rfl) (by kernel_rfl)
theorem ahO (hG:a6.g=some 1):lx 2:=lH hG 2 (by kernel_rfl) (by kernel_rfl)
theorem ahP (hG:a6.g=some 1):lv 3:=lG hG 3 (by kernel_rfl) (by kernel_rfl)
theorem ahQ (hG:a6.g=some 1):lx 3:=lH hG 3 (by kernel_rfl) (by kernel_rfl)
theorem ahR (hG:a6.g=some 1):lv 4:=lG hG 4 (by kernel_rfl) (by kernel_rfl)
theorem ahS (hG:a6.g=some 1):lx 4:=lH hG 4 (by kernel_rfl) (by kernel_rfl)
theorem ahT (hG:a6.g=some 1):lv 5:=lG hG 5 (by kernel_rfl) (by kernel_rfl)
theorem ahU (hG:a6.g=some 1):lx 5:=lH hG 5 (by kernel_rfl) (by kernel_rfl)
theorem ahV (hG:a6.g=some 1):lv 6:=lG hG 6 (by kernel_rfl) (by kernel_rfl)
theorem ahW (hG:a6.g=some 1):lx 6:=lH hG 6 (by kernel_rfl) (by kernel_rfl)
theorem ahX (hG:a6.g=some 1):lv 7:=lG hG 7 (by kernel_rfl) (by kernel_rfl)
theorem ahY (hG:a6.g=some 1):lx 7:=lH hG 7 (by kernel_rfl) (by kernel_rfl)
theorem ahZ (hG:a6.g=some 1):lv 8:=lG hG 8 (by kernel_rfl) (by kernel_rfl)
theorem ah0 (hG:a6.g=some 1):lx 8:=lH hG 8 (by kernel_rfl) (by kernel_rfl)
theorem ah1 (hG:a6.g=some 1):lv 9:=lG hG 9 (by kernel_rfl) (by kernel_rfl)
theorem ah2 (hG:a6.g=some 1):lx 9:=lH hG 9 (by kernel_rfl) (by kernel_rfl)
theorem ab4 (hG:a6.g=some 1):lv 10:=lG hG 10 (by kernel_rfl) (by kernel_rfl)
theorem ab5 (hG:a6.g=some 1):lx 10:=lH hG 10 (by kernel_rfl) (by kernel_rfl)
theorem ab6 (hG:a6.g=some 1):lv 11:=lG hG 11 (by kernel_rfl) (by kernel_rfl)
theorem ab7 (hG:a6.g=some 1):lx 11:=lH hG 11 (by kernel_rfl) (by kernel_rfl)
theorem ab8 (hG:a6.g=some 1):lv 12:=lG hG 12 (by kernel_rfl) (by kernel_rfl)
theorem ab9 (hG:a6.g=some 1):lx 12:=lH hG 12 (by kernel_rfl) (by kernel_rfl)
theorem aca (hG:a6.g=some 1):lv 13:=lG hG 13 (by kernel_rfl) (by kernel_rfl)
theorem acb (hG:a6.g=some 1):lx 13:=lH hG 13 (by kernel_rfl) (by kernel_rfl)
theorem acd (hG:a6.g=some 1):lv 14:=lG hG 14 (by kernel_rfl) (by kernel_rfl)
theorem ace (hG:a6.g=some 1):lx 14:=lH hG 14 (by kernel_rfl) (by kernel_rfl)
theorem acf (hG:a6.g=some 1):lv 15:=lG hG 15 (by kernel_rfl) (by kernel_rfl)
theorem acg (hG:a6.g=some 1):lx 15:=lH hG 15 (by kernel_rfl) (by kernel_rfl)
theorem ach (hG:a6.g=some 1):lv 16:=lG hG 16 (by kernel_rfl) (by kernel_rfl)
theorem aci (hG:a6.g=some 1):lx 16:=lH hG 16 (by kernel_rfl) (by kernel_rfl)
theorem acj (hG:a6.g=some 1):lv 17:=lG hG 17 (by kernel_rfl) (by kernel_rfl)
theorem ack (hG:a6.g=some 1):lx 17:=lH hG 17 (by kernel_rfl) (by kernel_rfl)
theorem acm (hG:a6.g=some 1):lv 18:=lG hG 18 (by kernel_rfl) (by kernel_rfl)
theorem acn (hG:a6.g=some 1):lx 18:=lH hG 18 (by kernel_rfl) (by kernel_rfl)
theorem aco (hG:a6.g=some 1):lv 19:=lG hG 19 (by kernel_rfl) (by kernel_rfl)
theorem acp (hG:a6.g=some 1):lx 19:=lH hG 19 (by kernel_rfl) (by kernel_rfl)
theorem acq (hG:a6.g=some 1):lv 20:=lG hG 20 (by kernel_rfl) (by kernel_rfl)
theorem acr (hG:a6.g=some 1):lx 20:=lH hG 20 (by kernel_rfl) (by kernel_rfl)
theorem acs (hG:a6.g=some 1):lv 21:=lG hG 21 (by kernel_rfl) (by kernel_rfl)
theorem acu (hG:a6.g=some 1):lx 21:=lH hG 21 (by kernel_rfl) (by kernel_rfl)
theorem acv (hG:a6.g=some 1):lv 22:=lG hG 22 (by kernel_rfl) (by kernel_rfl)
theorem acw (hG:a6.g=some 1):lx 22:=lH hG 22 (by kernel_rfl) (by kernel_rfl)
theorem acx (hG:a6.g=some 1):lv 23:=lG hG 23 (by kernel_rfl) (by kernel_rfl)
theorem acy (hG:a6.g=some 1):lx 23:=lH hG 23 (by kernel_rfl) (by kernel_rfl)
theorem acz (hG:a6.g=some 1):lv 24:=lG hG 24 (by kernel_rfl) (by kernel_rfl)
theorem acA (hG:a6.g=some 1):lx 24:=lH hG 24 (by kernel_rfl) (by kernel_rfl)
theorem acB (hG:a6.g=some 1):lv 25:=lG hG 25 (by kernel_rfl) (by kernel_rfl)
theorem acC (hG:a6.g=some 1):lx 25:=lH hG 25 (by kernel_rfl) (by kernel_rfl)
theorem acD (hG:a6.g=some 1):lv 26:=lG hG 26 (by kernel_rfl) (by kernel_rfl)
theorem acE (hG:a6.g=some 1):lx 26:=lH hG 26 (by kernel_rfl) (by kernel_rfl)
theorem acF (hG:a6.g=some 1):lv 27:=lG hG 27 (by kernel_rfl) (by kernel_rfl)
theorem acG (hG:a6.g=some 1):lx 27:=lH hG 27 (by kernel_rfl) (by kernel_rfl)
theorem acH (hG:a6.g=some 1):lv 28:=lG hG 28 (by kernel_rfl) (by kernel_rfl)
theorem acI (hG:a6.g=some 1):lx 28:=lH hG 28 (by kernel_rfl) (by kernel_rfl)
theorem acJ (hG:a6.g=some 1):lv 29:=lG hG 29 (by kernel_rfl) (by kernel_rfl)
theorem acK (hG:a6.g=some 1):lx 29:=lH hG 29 (by kernel_rfl) (by kernel_rfl)
theorem acL (hG:a6.g=some 1):lv 30:=lG hG 30 (by kernel_rfl) (by kernel_rfl)
theorem acM (hG:a6.g=some 1):lx 30:=lH hG 30 (by kernel_rfl) (by kernel_rfl)
theorem acN (hG:a6.g=some 1):lv 31:=lG hG 31 (by kernel_rfl) (by kernel_rfl)
theorem acO (hG:a6.g=some 1):lx 31:=lH hG 31 (by kernel_rfl) (by kernel_rfl)
theorem acP (hG:a6.g=some 1):lv 32:=lG hG 32 (by kernel_rfl) (by kernel_rfl)
theorem acQ (hG:a6.g=some 1):lx 32:=lH hG 32 (by kernel_rfl) (by kernel_rfl)
theorem acR (hG:a6.g=some 1):lv 33:=lG hG 33 (by kernel_rfl) (by kernel_rfl)
theorem acS (hG:a6.g=some 1):lx 33:=lH hG 33 (by kernel_rfl) (by kernel_rfl)
theorem acT (hG:a6.g=some 1):lv 34:=lG hG 34 (by kernel_rfl) (by kernel_rfl)
theorem acU (hG:a6.g=some 1):lx 34:=lH hG 34 (by kernel_rfl) (by kernel_rfl)
theorem acV (hG:a6.g=some 1):lv 35:=lG hG 35 (by kernel_rfl) (by kernel_rfl)
theorem acW (hG:a6.g=some 1):lx 35:=lH hG 35 (by kernel_rfl) (by kernel_rfl)
theorem acX (hG:a6.g=some 1):lv 36:=lG hG 36 (by kernel_rfl) (by kernel_rfl)
theorem acY (hG:a6.g=some 1):lx 36:=lH hG 36 (by kernel_rfl) (by kernel_rfl)
theorem acZ (hG:a6.g=some 1):lv 37:=lG hG 37 (by kernel_rfl) (by kernel_rfl)
theorem ac0 (hG:a6.g=some 1):lx 37:=lH hG 37 (by kernel_rfl) (by kernel_rfl)
theorem ac1 (hG:a6.g=some 1):lv 38:=lG hG 38 (by kernel_rfl) (by kernel_rfl)
theorem ac2 (hG:a6.g=some 1):lx 38:=lH hG 38 (by kernel_rfl) (by kernel_rfl)
theorem ac3 (hG:a6.g=some 1):lv 39:=lG hG 39 (by kernel_rfl) (by kernel_rfl)
theorem ac4 (hG:a6.g=some 1):lx 39:=lH hG 39 (by kernel_rfl) (by kernel_rfl)
theorem ac5 (hG:a6.g=some 1):lv 40:=lG hG 40 (by kernel_rfl) (by kernel_rfl)
theorem ac6 (hG:a6.g=some 1):lx 40:=lH hG 40 (by kernel_rfl) (by kernel_rfl)
theorem ac7 (hG:a6.g=some 1):lv 41:=lG hG 41 (by kernel_rfl) (by kernel_rfl)
theorem ac8 (hG:a6.g=some 1):lx 41:=lH hG 41 (by kernel_rfl) (by kernel_rfl)
theorem ac9 (hG:a6.g=some 1):lv 42:=lG hG 42 (by kernel_rfl) (by kernel_rfl)
theorem ada (hG:a6.g=some 1):lx 42:=lH hG 42 (by kernel_rfl) (by kernel_rfl)
theorem adb (hG:a6.g=some 1):lv 43:=lG hG 43 (by kernel_rfl) (by kernel_rfl)
theorem ade (hG:a6.g=some 1):lx 43:=lH hG 43 (by kernel_rfl) (by kernel_rfl)
theorem adf (hG:a6.g=some 1):lv 44:=lG hG 44 (by kernel_rfl) (by kernel_rfl)
theorem adg (hG:a6.g=some 1):lx 44:=lH hG 44 (by kernel_rfl) (by kernel_rfl)
theorem adh (hG:a6.g=some 1):lv 45:=lG hG 45 (by kernel_rfl) (by kernel_rfl)
theorem adi (hG:a6.g=some 1):lx 45:=lH hG 45 (by kernel_rfl) (by kernel_rfl)
theorem adj (hG:a6.g=some 1):lv 46:=lG hG 46 (by kernel_rfl) (by kernel_rfl)
theorem adk (hG:a6.g=some 1):lx 46:=lH hG 46 (by kernel_rfl) (by kernel_rfl)
theorem adl (hG:a6.g=some 1):lv 47:=lG hG 47 (by kernel_rfl) (by kernel_rfl)
theorem adm (hG:a6.g=some 1):lx 47:=lH hG 47 (by kernel_rfl) (by kernel_rfl)
theorem adn (hG:a6.g=some 1):lv 48:=lG hG 48 (by kernel_rfl) (by kernel_rfl)
theorem ado (hG:a6.g=some 1):lx 48:=lH hG 48 (by kernel_rfl) (by kernel_rfl)
theorem adp (hG:a6.g=some 1):lv 49:=lG hG 49 (by kernel_rfl) (by kernel_rfl)
theorem adq (hG:a6.g=some 1):lx 49:=lH hG 49 (by kernel_rfl) (by kernel_rfl)
theorem adr (hG:a6.g=some 1):lv 50:=lG hG 50 (by kernel_rfl) (by kernel_rfl)
theorem ads (hG:a6.g=some 1):lx 50:=lH hG 50 (by kernel_rfl) (by kernel_rfl)
theorem adt (hG:a6.g=some 1):lv 51:=lG hG 51 (by kernel_rfl) (by kernel_rfl)
theorem adu (hG:a6.g=some 1):lx 51:=lH hG 51 (by kernel_rfl) (by kernel_rfl)
theorem adv (hG:a6.g=some 1):lv 52:=lG hG 52 (by kernel_rfl) (by kernel_rfl)
theorem adw (hG:a6.g=some 1):lx 52:=lH hG 52 (by kernel_rfl) (by kernel_rfl)
theorem adx (hG:a6.g=some 1):lv 53:=lG hG 53 (by kernel_rfl) (by kernel_rfl)
theorem ady (hG:a6.g=some 1):lx 53:=lH hG 53 (by kernel_rfl) (by kernel_rfl)
theorem adz (hG:a6.g=some 1):lv 54:=lG hG 54 (by kernel_rfl) (by kernel_rfl)
theorem adA (hG:a6.g=some 1):lx 54:=lH hG 54 (by kernel_rfl) (by kernel_rfl)
theorem adB (hG:a6.g=some 1):lv 55:=lG hG 55 (by kernel_rfl) (by kernel_rfl)
theorem adC (hG:a6.g=some 1):lx 55:=lH hG 55 (by kernel_rfl) (by kernel_rfl)
theorem ah3 (hG:a6.g=some 1):bG ab 155 [str LL,num 0] (num (Gm 0)):=cJ bo (b7 hG) 3000 (by kernel_rfl)
theorem UN (hG:a6.g=some 1):∀ k<56,lv k∧lx k
 | 0,_=>⟨ahJ hG,ahK hG⟩
 | 1,_=>⟨ahL hG,ahM hG⟩
 | 2,_=>⟨ahN hG,ahO hG⟩
 | 3,_=>⟨ahP hG,ahQ hG⟩
 | 4,_=>⟨ahR hG,ahS hG⟩
 | 5,_=>⟨ahT hG,ahU hG⟩
 | 6,_=>⟨ahV hG,ahW hG⟩
 | 7,_=>⟨ahX hG,ahY hG⟩
 | 8,_=>⟨ahZ hG,ah0 hG⟩
 | 9,_=>⟨ah1 hG,ah2 hG⟩
 | 10,_=>⟨ab4 hG,ab5 hG⟩
 | 11,_=>⟨ab6 hG,ab7 hG⟩
 | 12,_=>⟨ab8 hG,ab9 hG⟩
 | 13,_=>⟨aca hG,acb hG⟩
 | 14,_=>⟨acd hG,ace hG⟩
 | 15,_=>⟨acf hG,acg hG⟩
 | 16,_=>⟨ach hG,aci hG⟩
 | 17,_=>⟨acj hG,ack hG⟩
 | 18,_=>⟨acm hG,acn hG⟩
 | 19,_=>⟨aco hG,acp hG⟩
 | 20,_=>⟨acq hG,acr hG⟩
 | 21,_=>⟨acs hG,acu hG⟩
 | 22,_=>⟨acv hG,acw hG⟩
 | 23,_=>⟨acx hG,acy hG⟩
 | 24,_=>⟨acz hG,acA hG⟩
 | 25,_=>⟨acB hG,acC hG⟩
 | 26,_=>⟨acD hG,acE hG⟩
 | 27,_=>⟨acF hG,acG hG⟩
 | 28,_=>⟨acH hG,acI hG⟩
 | 29,_=>⟨acJ hG,acK hG⟩
 | 30,_=>⟨acL hG,acM hG⟩
 | 31,_=>⟨acN hG,acO hG⟩
 | 32,_=>⟨acP hG,acQ hG⟩
 | 33,_=>⟨acR hG,acS hG⟩
 | 34,_=>⟨acT hG,acU hG⟩
 | 35,_=>⟨acV hG,acW hG⟩
 | 36,_=>⟨acX hG,acY hG⟩
 | 37,_=>⟨acZ hG,ac0 hG⟩
 | 38,_=>⟨ac1 hG,ac2 hG⟩
 | 39,_=>⟨ac3 hG,ac4 hG⟩
 | 40,_=>⟨ac5 hG,ac6 hG⟩
 | 41,_=>⟨ac7 hG,ac8 hG⟩
 | 42,_=>⟨ac9 hG,ada hG⟩
 | 43,_=>⟨adb hG,ade hG⟩
 | 44,_=>⟨adf hG,adg hG⟩
 | 45,_=>⟨adh hG,adi hG⟩
 | 46,_=>⟨adj hG,adk hG⟩
 | 47,_=>⟨adl hG,adm hG⟩
 | 48,_=>⟨adn hG,ado hG⟩
 | 49,_=>⟨adp hG,adq hG⟩
 | 50,_=>⟨adr hG,ads hG⟩
 | 51,_=>⟨adt hG,adu hG⟩
 | 52,_=>⟨adv hG,adw hG⟩
 | 53,_=>⟨adx hG,ady hG⟩
 | 54,_=>⟨adz hG,adA hG⟩
 | 55,_=>⟨adB hG,adC hG⟩
 | k+56,h=>absurd h (by omega)
abbrev tkV:V:=.slice [.agg [num 5,str ⟨#[109,111,100,117,108,101]⟩,num 0],.agg [num 1,str ⟨#[109]⟩,num 7],.agg [num 6,str ⟨#[47]⟩,num 8],.agg [num 1,str ⟨#[118,49]⟩,num 9],.agg [num 5,str ⟨#[105,109,112,111,114,116]⟩,num 12],.agg [num 1,str ⟨#[97]⟩,num 19],.agg [num 6,str ⟨#[47]⟩,num 20],.agg [num 1,str ⟨#[118,49]⟩,num 21],.agg [num 5,str ⟨#[97,115]⟩,num 24],.agg [num 1,str ⟨#[115]⟩,num 27],.agg [num 5,str ⟨#[108,101,116]⟩,num 29],.agg [num 1,str ⟨#[118]⟩,num 33],.agg [num 6,str ⟨#[58]⟩,num 34],.agg [num 5,str ⟨#[105,110,116]⟩,num 36],.agg [num 6,str ⟨#[61]⟩,num 40],.agg [num 3,str ⟨#[49]⟩,num 42],.agg [num 5,str ⟨#[108,101,116]⟩,num 44],.agg [num 1,str ⟨#[119]⟩,num 48],.agg [num 6,str ⟨#[58]⟩,num 49],.agg [num 5,str ⟨#[105,110,116]⟩,num 51],.agg [num 6,str ⟨#[61]⟩,num 55],.agg [num 5,str ⟨#[108,101,116]⟩,num 57],.agg [num 1,str ⟨#[118]⟩,num 61],.agg [num 6,str ⟨#[61]⟩,num 63],.agg [num 3,str ⟨#[50]⟩,num 65],.agg [num 5,str ⟨#[105,110]⟩,num 67],.agg [num 1,str ⟨#[118]⟩,num 70],.agg [num 6,str ⟨#[43]⟩,num 72],.agg [num 1,str ⟨#[118]⟩,num 74],.agg [num 5,str ⟨#[108,101,116]⟩,num 76],.agg [num 1,str ⟨#[120]⟩,num 80],.agg [num 6,str ⟨#[58]⟩,num 81],.agg [num 5,str ⟨#[105,110,116]⟩,num 83],.agg [num 6,str ⟨#[61]⟩,num 87],.agg [num 1,str ⟨#[118]⟩,num 89],.agg [num 5,str ⟨#[116,121,112,101]⟩,num 91],.agg [num 2,str ⟨#[80]⟩,num 96],.agg [num 6,str ⟨#[91]⟩,num 97],.agg [num 6,str ⟨#[43]⟩,num 98],.agg [num 2,str ⟨#[65]⟩,num 99],.agg [num 6,str ⟨#[93]⟩,num 100],.agg [num 6,str ⟨#[61]⟩,num 102],.agg [num 5,str ⟨#[108,105,115,116]⟩,num 104],.agg [num 6,str ⟨#[91]⟩,num 108],.agg [num 2,str ⟨#[65]⟩,num 109],.agg [num 6,str ⟨#[93]⟩,num 110],.agg [num 5,str ⟨#[108,101,116]⟩,num 112],.agg [num 1,str ⟨#[121]⟩,num 116],.agg [num 6,str ⟨#[58]⟩,num 117],.agg [num 1,str ⟨#[115]⟩,num 119],.agg [num 6,str ⟨#[58,58]⟩,num 120],.agg [num 2,str ⟨#[78]⟩,num 122],.agg [num 6,str ⟨#[61]⟩,num 124],.agg [num 1,str ⟨#[115]⟩,num 126],.agg [num 6,str ⟨#[58,58]⟩,num 127],.agg [num 1,str ⟨#[102]⟩,num 129],.agg [num 0,str ⟨#[]⟩,num 130]]
theorem ah4 (hG:a6.g=some 1):bG ab 108 [str LL] (.eC [tkV,num 0,num 0]):=by obtain⟨_,rfl,h⟩:=Th LL (by decide) 56 Gm QV lxK lxX (ah3 hG) (fun k hk=>(UN hG k hk).1) (fun k hk=>(UN hG k hk).2) (by decide) (by kernel_rfl);exact h
theorem ah5 (hG:a6.g=some 1):bG ab 62 [str LL] (.agg [tkV,num 0,num 0,num 0]):=cJ (bA (ah4 hG) bo) (b7 hG) 3000 (by kernel_rfl)
end Go.Proofs.YtnboooapeopjoaaGreatDoor
end
