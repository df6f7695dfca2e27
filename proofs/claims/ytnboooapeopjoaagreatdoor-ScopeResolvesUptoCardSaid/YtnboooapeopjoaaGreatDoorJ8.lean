import Derived.Test.YtnboooapeopjoaaGreatDoorJ7
open Go.Proofs.Tryz renaming prog→ab
set_option linter.all false
section
namespace Go.Proofs.YtnboooapeopjoaaGreatDoor
open Go.Eng
variable [bk]
set_option maxHeartbeats 4000000
set_option maxRecDepth 100000
def PM:ByteArray:=⟨#[109,111,100,117,108,101,32,109,47,118,49,32,105,109,112,111,114,116,32,97,47,118,49,32,97,115,32,115,32,108,101,116,32,118,58,32,105,110,116,32,61,32,49,32,108,101,116,32,119,58,32,105,110,116,32,61,32,108,101,116,32,118,32,61,32,50,32,105,110,32,118,32,43,32,118,32,108,101,116,32,120,58,32,105,110,116,32,61,32,118,32,116,121,112,101,32,80,91,43,65,93,32,61,32,108,105,115,116,91,65,93,32,108,101,116,32,121,58,32,115,58,58,78,32,61,32,115,58,58,102]⟩
def JV (k:Nat):Nat:=([0,7,8,9,12,19,20,21,24,27,29,33,34,36,40,42,44,48,49,51,55,57,61,63,65,67,70,72,74,76,80,81,83,87,89,91,96,97,98,99,100,102,104,108,109,110,112,116,117,119,120,122,124,126,127,129,130]:List Nat).getD k 0
def Vj (k:Nat):Nat:=([6,1,1,2,6,1,1,2,2,1,3,1,1,3,1,1,3,1,1,3,1,3,1,1,1,2,1,1,1,3,1,1,3,1,1,4,1,1,1,1,1,1,4,1,1,1,3,1,1,1,2,1,1,1,2,1]:List Nat).getD k 0
def lxK (k:Nat):Int:=([5,1,6,1,5,1,6,1,5,1,5,1,6,5,6,3,5,1,6,5,6,5,1,6,3,5,1,6,1,5,1,6,5,6,1,5,2,6,6,2,6,6,5,6,2,6,5,1,6,1,6,2,6,1,6,1]:List Int).getD k 0
def lxX (k:Nat):ByteArray:=([⟨#[109,111,100,117,108,101]⟩,⟨#[109]⟩,⟨#[47]⟩,⟨#[118,49]⟩,⟨#[105,109,112,111,114,116]⟩,⟨#[97]⟩,⟨#[47]⟩,⟨#[118,49]⟩,⟨#[97,115]⟩,⟨#[115]⟩,⟨#[108,101,116]⟩,⟨#[118]⟩,⟨#[58]⟩,⟨#[105,110,116]⟩,⟨#[61]⟩,⟨#[49]⟩,⟨#[108,101,116]⟩,⟨#[119]⟩,⟨#[58]⟩,⟨#[105,110,116]⟩,⟨#[61]⟩,⟨#[108,101,116]⟩,⟨#[118]⟩,⟨#[61]⟩,⟨#[50]⟩,⟨#[105,110]⟩,⟨#[118]⟩,⟨#[43]⟩,⟨#[118]⟩,⟨#[108,101,116]⟩,⟨#[120]⟩,⟨#[58]⟩,⟨#[105,110,116]⟩,⟨#[61]⟩,⟨#[118]⟩,⟨#[116,121,112,101]⟩,⟨#[80]⟩,⟨#[91]⟩,⟨#[43]⟩,⟨#[65]⟩,⟨#[93]⟩,⟨#[61]⟩,⟨#[108,105,115,116]⟩,⟨#[91]⟩,⟨#[65]⟩,⟨#[93]⟩,⟨#[108,101,116]⟩,⟨#[121]⟩,⟨#[58]⟩,⟨#[115]⟩,⟨#[58,58]⟩,⟨#[78]⟩,⟨#[61]⟩,⟨#[115]⟩,⟨#[58,58]⟩,⟨#[102]⟩]:List ByteArray).getD k ⟨#[]⟩
def lxD (k:Nat):Nat:=JV (k+1)-JV k-Vj k
def mD (k:Nat):Prop:=JV k<PM.size∧JV k+Vj k≤1048576∧cx ab 156 [str (PM.extract (JV k) PM.size)] (.ec [.agg [num (lxK k),str (lxX k),num 0],num (Vj k),num 0])
def mE (k:Nat):Prop:=∃ d:Nat,JV (k+1)=JV k+Vj k+d∧d≤65536∧cx ab 155 [str PM,num ((JV k+Vj k:Nat):Int)] (num d)
theorem mM (hG:bk.g=some 1) (k:Nat) (h:decide (JV k<PM.size∧JV k+Vj k≤1048576)=true) (h2:y0 ab tt (ev ab tt DJ Wf (y8 []) noM 3000) 156 [str (PM.extract (JV k) PM.size)]=some (.ec [.agg [num (lxK k),str (lxX k),num 0],num (Vj k),num 0])):mD k:=⟨(of_decide_eq_true h).1,(of_decide_eq_true h).2,cU bD (cg hG) 3000 h2⟩
theorem mN (hG:bk.g=some 1) (k:Nat) (h:decide (JV (k+1)=JV k+Vj k+lxD k∧lxD k≤65536)=true) (h2:y0 ab tt (ev ab tt DJ Wf (y8 []) noM 3000) 155 [str PM,num ((JV k+Vj k:Nat):Int)]=some (num (lxD k))):mE k:=⟨lxD k,(of_decide_eq_true h).1,(of_decide_eq_true h).2,cU bD (cg hG) 3000 h2⟩
theorem anl (hG:bk.g=some 1):mD 0:=mM hG 0 kr kr
theorem anm (hG:bk.g=some 1):mE 0:=mN hG 0 kr kr
theorem ann (hG:bk.g=some 1):mD 1:=mM hG 1 kr kr
theorem ano (hG:bk.g=some 1):mE 1:=mN hG 1 kr kr
theorem anp (hG:bk.g=some 1):mD 2:=mM hG 2 kr kr
theorem anq (hG:bk.g=some 1):mE 2:=mN hG 2 kr kr
theorem anr (hG:bk.g=some 1):mD 3:=mM hG 3 kr kr
theorem ans (hG:bk.g=some 1):mE 3:=mN hG 3 kr kr
theorem ant (hG:bk.g=some 1):mD 4:=mM hG 4 kr kr
theorem anu (hG:bk.g=some 1):mE 4:=mN hG 4 kr kr
theorem anv (hG:bk.g=some 1):mD 5:=mM hG 5 kr kr
theorem anw (hG:bk.g=some 1):mE 5:=mN hG 5 kr kr
theorem anx (hG:bk.g=some 1):mD 6:=mM hG 6 kr kr
theorem anz (hG:bk.g=some 1):mE 6:=mN hG 6 kr kr
theorem anA (hG:bk.g=some 1):mD 7:=mM hG 7 kr kr
theorem anB (hG:bk.g=some 1):mE 7:=mN hG 7 kr kr
theorem anC (hG:bk.g=some 1):mD 8:=mM hG 8 kr kr
theorem anD (hG:bk.g=some 1):mE 8:=mN hG 8 kr kr
theorem anE (hG:bk.g=some 1):mD 9:=mM hG 9 kr kr
theorem anF (hG:bk.g=some 1):mE 9:=mN hG 9 kr kr
theorem ag8 (hG:bk.g=some 1):mD 10:=mM hG 10 kr kr
theorem ag9 (hG:bk.g=some 1):mE 10:=mN hG 10 kr kr
theorem aha (hG:bk.g=some 1):mD 11:=mM hG 11 kr kr
theorem ahb (hG:bk.g=some 1):mE 11:=mN hG 11 kr kr
theorem ahc (hG:bk.g=some 1):mD 12:=mM hG 12 kr kr
theorem ahd (hG:bk.g=some 1):mE 12:=mN hG 12 kr kr
theorem ahe (hG:bk.g=some 1):mD 13:=mM hG 13 kr kr
theorem ahf (hG:bk.g=some 1):mE 13:=mN hG 13 kr kr
theorem ahg (hG:bk.g=some 1):mD 14:=mM hG 14 kr kr
theorem ahh (hG:bk.g=some 1):mE 14:=mN hG 14 kr kr
theorem ahi (hG:bk.g=some 1):mD 15:=mM hG 15 kr kr
theorem ahj (hG:bk.g=some 1):mE 15:=mN hG 15 kr kr
theorem ahk (hG:bk.g=some 1):mD 16:=mM hG 16 kr kr
theorem ahl (hG:bk.g=some 1):mE 16:=mN hG 16 kr kr
theorem ahm (hG:bk.g=some 1):mD 17:=mM hG 17 kr kr
theorem ahn (hG:bk.g=some 1):mE 17:=mN hG 17 kr kr
theorem aho (hG:bk.g=some 1):mD 18:=mM hG 18 kr kr
theorem ahp (hG:bk.g=some 1):mE 18:=mN hG 18 kr kr
theorem ahq (hG:bk.g=some 1):mD 19:=mM hG 19 kr kr
theorem ahr (hG:bk.g=some 1):mE 19:=mN hG 19 kr kr
theorem ahs (hG:bk.g=some 1):mD 20:=mM hG 20 kr kr
theorem aht (hG:bk.g=some 1):mE 20:=mN hG 20 kr kr
theorem ahu (hG:bk.g=some 1):mD 21:=mM hG 21 kr kr
theorem ahv (hG:bk.g=some 1):mE 21:=mN hG 21 kr kr
theorem ahw (hG:bk.g=some 1):mD 22:=mM hG 22 kr kr
theorem ahx (hG:bk.g=some 1):mE 22:=mN hG 22 kr kr
theorem ahy (hG:bk.g=some 1):mD 23:=mM hG 23 kr kr
theorem ahz (hG:bk.g=some 1):mE 23:=mN hG 23 kr kr
theorem ahA (hG:bk.g=some 1):mD 24:=mM hG 24 kr kr
theorem ahB (hG:bk.g=some 1):mE 24:=mN hG 24 kr kr
theorem ahC (hG:bk.g=some 1):mD 25:=mM hG 25 kr kr
theorem ahD (hG:bk.g=some 1):mE 25:=mN hG 25 kr kr
theorem ahE (hG:bk.g=some 1):mD 26:=mM hG 26 kr kr
theorem ahF (hG:bk.g=some 1):mE 26:=mN hG 26 kr kr
theorem ahG (hG:bk.g=some 1):mD 27:=mM hG 27 kr kr
theorem ahH (hG:bk.g=some 1):mE 27:=mN hG 27 kr kr
theorem ahI (hG:bk.g=some 1):mD 28:=mM hG 28 kr kr
theorem ahJ (hG:bk.g=some 1):mE 28:=mN hG 28 kr kr
theorem ahK (hG:bk.g=some 1):mD 29:=mM hG 29 kr kr
theorem ahL (hG:bk.g=some 1):mE 29:=mN hG 29 kr kr
theorem ahM (hG:bk.g=some 1):mD 30:=mM hG 30 kr kr
theorem ahN (hG:bk.g=some 1):mE 30:=mN hG 30 kr kr
theorem ahO (hG:bk.g=some 1):mD 31:=mM hG 31 kr kr
theorem ahP (hG:bk.g=some 1):mE 31:=mN hG 31 kr kr
theorem ahQ (hG:bk.g=some 1):mD 32:=mM hG 32 kr kr
theorem ahR (hG:bk.g=some 1):mE 32:=mN hG 32 kr kr
theorem ahS (hG:bk.g=some 1):mD 33:=mM hG 33 kr kr
theorem ahT (hG:bk.g=some 1):mE 33:=mN hG 33 kr kr
theorem ahU (hG:bk.g=some 1):mD 34:=mM hG 34 kr kr
theorem ahV (hG:bk.g=some 1):mE 34:=mN hG 34 kr kr
theorem ahW (hG:bk.g=some 1):mD 35:=mM hG 35 kr kr
theorem ahX (hG:bk.g=some 1):mE 35:=mN hG 35 kr kr
theorem ahY (hG:bk.g=some 1):mD 36:=mM hG 36 kr kr
theorem ahZ (hG:bk.g=some 1):mE 36:=mN hG 36 kr kr
theorem ah0 (hG:bk.g=some 1):mD 37:=mM hG 37 kr kr
theorem ah1 (hG:bk.g=some 1):mE 37:=mN hG 37 kr kr
theorem ah2 (hG:bk.g=some 1):mD 38:=mM hG 38 kr kr
theorem ah3 (hG:bk.g=some 1):mE 38:=mN hG 38 kr kr
theorem ah4 (hG:bk.g=some 1):mD 39:=mM hG 39 kr kr
theorem ah5 (hG:bk.g=some 1):mE 39:=mN hG 39 kr kr
theorem ah6 (hG:bk.g=some 1):mD 40:=mM hG 40 kr kr
theorem ah7 (hG:bk.g=some 1):mE 40:=mN hG 40 kr kr
theorem ah8 (hG:bk.g=some 1):mD 41:=mM hG 41 kr kr
theorem ah9 (hG:bk.g=some 1):mE 41:=mN hG 41 kr kr
theorem aia (hG:bk.g=some 1):mD 42:=mM hG 42 kr kr
theorem aib (hG:bk.g=some 1):mE 42:=mN hG 42 kr kr
theorem aic (hG:bk.g=some 1):mD 43:=mM hG 43 kr kr
theorem aid (hG:bk.g=some 1):mE 43:=mN hG 43 kr kr
theorem aie (hG:bk.g=some 1):mD 44:=mM hG 44 kr kr
theorem aif (hG:bk.g=some 1):mE 44:=mN hG 44 kr kr
theorem aih (hG:bk.g=some 1):mD 45:=mM hG 45 kr kr
theorem aii (hG:bk.g=some 1):mE 45:=mN hG 45 kr kr
theorem aij (hG:bk.g=some 1):mD 46:=mM hG 46 kr kr
theorem aik (hG:bk.g=some 1):mE 46:=mN hG 46 kr kr
theorem ail (hG:bk.g=some 1):mD 47:=mM hG 47 kr kr
theorem aim (hG:bk.g=some 1):mE 47:=mN hG 47 kr kr
theorem ain (hG:bk.g=some 1):mD 48:=mM hG 48 kr kr
theorem aio (hG:bk.g=some 1):mE 48:=mN hG 48 kr kr
theorem aip (hG:bk.g=some 1):mD 49:=mM hG 49 kr kr
theorem aiq (hG:bk.g=some 1):mE 49:=mN hG 49 kr kr
theorem air (hG:bk.g=some 1):mD 50:=mM hG 50 kr kr
theorem ais (hG:bk.g=some 1):mE 50:=mN hG 50 kr kr
theorem ait (hG:bk.g=some 1):mD 51:=mM hG 51 kr kr
theorem aiu (hG:bk.g=some 1):mE 51:=mN hG 51 kr kr
theorem aiv (hG:bk.g=some 1):mD 52:=mM hG 52 kr kr
theorem aiw (hG:bk.g=some 1):mE 52:=mN hG 52 kr kr
theorem aix (hG:bk.g=some 1):mD 53:=mM hG 53 kr kr
theorem aiy (hG:bk.g=some 1):mE 53:=mN hG 53 kr kr
theorem aiz (hG:bk.g=some 1):mD 54:=mM hG 54 kr kr
theorem aiA (hG:bk.g=some 1):mE 54:=mN hG 54 kr kr
theorem aiB (hG:bk.g=some 1):mD 55:=mM hG 55 kr kr
theorem aiC (hG:bk.g=some 1):mE 55:=mN hG 55 kr kr
theorem anG (hG:bk.g=some 1):cx ab 155 [str PM,num 0] (num (JV 0)):=cU bD (cg hG) 3000 kr
theorem ZE (hG:bk.g=some 1):∀ k<56,mD k∧mE k
 | 0,_=>⟨anl hG,anm hG⟩
 | 1,_=>⟨ann hG,ano hG⟩
 | 2,_=>⟨anp hG,anq hG⟩
 | 3,_=>⟨anr hG,ans hG⟩
 | 4,_=>⟨ant hG,anu hG⟩
 | 5,_=>⟨anv hG,anw hG⟩
 | 6,_=>⟨anx hG,anz hG⟩
 | 7,_=>⟨anA hG,anB hG⟩
 | 8,_=>⟨anC hG,anD hG⟩
 | 9,_=>⟨anE hG,anF hG⟩
 | 10,_=>⟨ag8 hG,ag9 hG⟩
 | 11,_=>⟨aha hG,ahb hG⟩
 | 12,_=>⟨ahc hG,ahd hG⟩
 | 13,_=>⟨ahe hG,ahf hG⟩
 | 14,_=>⟨ahg hG,ahh hG⟩
 | 15,_=>⟨ahi hG,ahj hG⟩
 | 16,_=>⟨ahk hG,ahl hG⟩
 | 17,_=>⟨ahm hG,ahn hG⟩
 | 18,_=>⟨aho hG,ahp hG⟩
 | 19,_=>⟨ahq hG,ahr hG⟩
 | 20,_=>⟨ahs hG,aht hG⟩
 | 21,_=>⟨ahu hG,ahv hG⟩
 | 22,_=>⟨ahw hG,ahx hG⟩
 | 23,_=>⟨ahy hG,ahz hG⟩
 | 24,_=>⟨ahA hG,ahB hG⟩
 | 25,_=>⟨ahC hG,ahD hG⟩
 | 26,_=>⟨ahE hG,ahF hG⟩
 | 27,_=>⟨ahG hG,ahH hG⟩
 | 28,_=>⟨ahI hG,ahJ hG⟩
 | 29,_=>⟨ahK hG,ahL hG⟩
 | 30,_=>⟨ahM hG,ahN hG⟩
 | 31,_=>⟨ahO hG,ahP hG⟩
 | 32,_=>⟨ahQ hG,ahR hG⟩
 | 33,_=>⟨ahS hG,ahT hG⟩
 | 34,_=>⟨ahU hG,ahV hG⟩
 | 35,_=>⟨ahW hG,ahX hG⟩
 | 36,_=>⟨ahY hG,ahZ hG⟩
 | 37,_=>⟨ah0 hG,ah1 hG⟩
 | 38,_=>⟨ah2 hG,ah3 hG⟩
 | 39,_=>⟨ah4 hG,ah5 hG⟩
 | 40,_=>⟨ah6 hG,ah7 hG⟩
 | 41,_=>⟨ah8 hG,ah9 hG⟩
 | 42,_=>⟨aia hG,aib hG⟩
 | 43,_=>⟨aic hG,aid hG⟩
 | 44,_=>⟨aie hG,aif hG⟩
 | 45,_=>⟨aih hG,aii hG⟩
 | 46,_=>⟨aij hG,aik hG⟩
 | 47,_=>⟨ail hG,aim hG⟩
 | 48,_=>⟨ain hG,aio hG⟩
 | 49,_=>⟨aip hG,aiq hG⟩
 | 50,_=>⟨air hG,ais hG⟩
 | 51,_=>⟨ait hG,aiu hG⟩
 | 52,_=>⟨aiv hG,aiw hG⟩
 | 53,_=>⟨aix hG,aiy hG⟩
 | 54,_=>⟨aiz hG,aiA hG⟩
 | 55,_=>⟨aiB hG,aiC hG⟩
 | k+56,h=>absurd h (by omega)
abbrev tkV:V:=.slice [.agg [num 5,str ⟨#[109,111,100,117,108,101]⟩,num 0],.agg [num 1,str ⟨#[109]⟩,num 7],.agg [num 6,str ⟨#[47]⟩,num 8],.agg [num 1,str ⟨#[118,49]⟩,num 9],.agg [num 5,str ⟨#[105,109,112,111,114,116]⟩,num 12],.agg [num 1,str ⟨#[97]⟩,num 19],.agg [num 6,str ⟨#[47]⟩,num 20],.agg [num 1,str ⟨#[118,49]⟩,num 21],.agg [num 5,str ⟨#[97,115]⟩,num 24],.agg [num 1,str ⟨#[115]⟩,num 27],.agg [num 5,str ⟨#[108,101,116]⟩,num 29],.agg [num 1,str ⟨#[118]⟩,num 33],.agg [num 6,str ⟨#[58]⟩,num 34],.agg [num 5,str ⟨#[105,110,116]⟩,num 36],.agg [num 6,str ⟨#[61]⟩,num 40],.agg [num 3,str ⟨#[49]⟩,num 42],.agg [num 5,str ⟨#[108,101,116]⟩,num 44],.agg [num 1,str ⟨#[119]⟩,num 48],.agg [num 6,str ⟨#[58]⟩,num 49],.agg [num 5,str ⟨#[105,110,116]⟩,num 51],.agg [num 6,str ⟨#[61]⟩,num 55],.agg [num 5,str ⟨#[108,101,116]⟩,num 57],.agg [num 1,str ⟨#[118]⟩,num 61],.agg [num 6,str ⟨#[61]⟩,num 63],.agg [num 3,str ⟨#[50]⟩,num 65],.agg [num 5,str ⟨#[105,110]⟩,num 67],.agg [num 1,str ⟨#[118]⟩,num 70],.agg [num 6,str ⟨#[43]⟩,num 72],.agg [num 1,str ⟨#[118]⟩,num 74],.agg [num 5,str ⟨#[108,101,116]⟩,num 76],.agg [num 1,str ⟨#[120]⟩,num 80],.agg [num 6,str ⟨#[58]⟩,num 81],.agg [num 5,str ⟨#[105,110,116]⟩,num 83],.agg [num 6,str ⟨#[61]⟩,num 87],.agg [num 1,str ⟨#[118]⟩,num 89],.agg [num 5,str ⟨#[116,121,112,101]⟩,num 91],.agg [num 2,str ⟨#[80]⟩,num 96],.agg [num 6,str ⟨#[91]⟩,num 97],.agg [num 6,str ⟨#[43]⟩,num 98],.agg [num 2,str ⟨#[65]⟩,num 99],.agg [num 6,str ⟨#[93]⟩,num 100],.agg [num 6,str ⟨#[61]⟩,num 102],.agg [num 5,str ⟨#[108,105,115,116]⟩,num 104],.agg [num 6,str ⟨#[91]⟩,num 108],.agg [num 2,str ⟨#[65]⟩,num 109],.agg [num 6,str ⟨#[93]⟩,num 110],.agg [num 5,str ⟨#[108,101,116]⟩,num 112],.agg [num 1,str ⟨#[121]⟩,num 116],.agg [num 6,str ⟨#[58]⟩,num 117],.agg [num 1,str ⟨#[115]⟩,num 119],.agg [num 6,str ⟨#[58,58]⟩,num 120],.agg [num 2,str ⟨#[78]⟩,num 122],.agg [num 6,str ⟨#[61]⟩,num 124],.agg [num 1,str ⟨#[115]⟩,num 126],.agg [num 6,str ⟨#[58,58]⟩,num 127],.agg [num 1,str ⟨#[102]⟩,num 129],.agg [num 0,str ⟨#[]⟩,num 130]]
theorem anH (hG:bk.g=some 1):cx ab 108 [str PM] (.ec [tkV,num 0,num 0]):=by obtain⟨_,rfl,h⟩:=XS PM (by decide) 56 JV Vj lxK lxX (anG hG) (fun k hk=>(ZE hG k hk).1) (fun k hk=>(ZE hG k hk).2) (by decide) kr;exact h
theorem anI (hG:bk.g=some 1):cx ab 62 [str PM] (.agg [tkV,num 0,num 0,num 0]):=cU (bL (anH hG) bD) (cg hG) 3000 kr
end Go.Proofs.YtnboooapeopjoaaGreatDoor
end
