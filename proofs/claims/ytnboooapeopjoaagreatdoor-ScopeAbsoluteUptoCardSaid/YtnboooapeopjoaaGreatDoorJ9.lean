import Derived.Test.YtnboooapeopjoaaGreatDoorJ8
open Go.Proofs.Tryz renaming prog→af
set_option linter.all false
section
namespace Go.Proofs.YtnboooapeopjoaaGreatDoor
open Go.Eng
variable [bg]
set_option maxHeartbeats 4000000
set_option maxRecDepth 100000
def N5:ByteArray:=⟨#[109,111,100,117,108,101,32,109,47,118,49,32,105,109,112,111,114,116,32,97,47,118,49,32,97,115,32,115,32,108,101,116,32,118,58,32,105,110,116,32,61,32,49,32,108,101,116,32,119,58,32,105,110,116,32,61,32,108,101,116,32,118,32,61,32,50,32,105,110,32,118,32,43,32,118,32,108,101,116,32,120,58,32,105,110,116,32,61,32,118,32,116,121,112,101,32,80,91,43,65,93,32,61,32,108,105,115,116,91,65,93,32,108,101,116,32,121,58,32,115,58,58,78,32,61,32,115,58,58,102]⟩
def Ik (k:Nat):Nat:=([0,7,8,9,12,19,20,21,24,27,29,33,34,36,40,42,44,48,49,51,55,57,61,63,65,67,70,72,74,76,80,81,83,87,89,91,96,97,98,99,100,102,104,108,109,110,112,116,117,119,120,122,124,126,127,129,130]:List Nat).getD k 0
def Tl (k:Nat):Nat:=([6,1,1,2,6,1,1,2,2,1,3,1,1,3,1,1,3,1,1,3,1,3,1,1,1,2,1,1,1,3,1,1,3,1,1,4,1,1,1,1,1,1,4,1,1,1,3,1,1,1,2,1,1,1,2,1]:List Nat).getD k 0
def lxK (k:Nat):Int:=([5,1,6,1,5,1,6,1,5,1,5,1,6,5,6,3,5,1,6,5,6,5,1,6,3,5,1,6,1,5,1,6,5,6,1,5,2,6,6,2,6,6,5,6,2,6,5,1,6,1,6,2,6,1,6,1]:List Int).getD k 0
def lxX (k:Nat):ByteArray:=([⟨#[109,111,100,117,108,101]⟩,⟨#[109]⟩,⟨#[47]⟩,⟨#[118,49]⟩,⟨#[105,109,112,111,114,116]⟩,⟨#[97]⟩,⟨#[47]⟩,⟨#[118,49]⟩,⟨#[97,115]⟩,⟨#[115]⟩,⟨#[108,101,116]⟩,⟨#[118]⟩,⟨#[58]⟩,⟨#[105,110,116]⟩,⟨#[61]⟩,⟨#[49]⟩,⟨#[108,101,116]⟩,⟨#[119]⟩,⟨#[58]⟩,⟨#[105,110,116]⟩,⟨#[61]⟩,⟨#[108,101,116]⟩,⟨#[118]⟩,⟨#[61]⟩,⟨#[50]⟩,⟨#[105,110]⟩,⟨#[118]⟩,⟨#[43]⟩,⟨#[118]⟩,⟨#[108,101,116]⟩,⟨#[120]⟩,⟨#[58]⟩,⟨#[105,110,116]⟩,⟨#[61]⟩,⟨#[118]⟩,⟨#[116,121,112,101]⟩,⟨#[80]⟩,⟨#[91]⟩,⟨#[43]⟩,⟨#[65]⟩,⟨#[93]⟩,⟨#[61]⟩,⟨#[108,105,115,116]⟩,⟨#[91]⟩,⟨#[65]⟩,⟨#[93]⟩,⟨#[108,101,116]⟩,⟨#[121]⟩,⟨#[58]⟩,⟨#[115]⟩,⟨#[58,58]⟩,⟨#[78]⟩,⟨#[61]⟩,⟨#[115]⟩,⟨#[58,58]⟩,⟨#[102]⟩]:List ByteArray).getD k ⟨#[]⟩
def lxD (k:Nat):Nat:=Ik (k+1)-Ik k-Tl k
def mh (k:Nat):Prop:=Ik k<N5.size∧Ik k+Tl k≤1048576∧bR af 156 [str (N5.extract (Ik k) N5.size)] (.eV [.agg [num (lxK k),str (lxX k),num 0],num (Tl k),num 0])
def mi (k:Nat):Prop:=∃ d:Nat,Ik (k+1)=Ik k+Tl k+d∧d≤65536∧bR af 155 [str N5,num ((Ik k+Tl k:Nat):Int)] (num d)
theorem mz (hG:bg.g=some 1) (k:Nat) (h:decide (Ik k<N5.size∧Ik k+Tl k≤1048576)=true) (h2:yd af tt (ev af tt CN Ue (yp []) noM 3000) 156 [str (N5.extract (Ik k) N5.size)]=some (.eV [.agg [num (lxK k),str (lxX k),num 0],num (Tl k),num 0])):mh k:=⟨(of_decide_eq_true h).1,(of_decide_eq_true h).2,dg bH (cw hG) 3000 h2⟩
theorem mA (hG:bg.g=some 1) (k:Nat) (h:decide (Ik (k+1)=Ik k+Tl k+lxD k∧lxD k≤65536)=true) (h2:yd af tt (ev af tt CN Ue (yp []) noM 3000) 155 [str N5,num ((Ik k+Tl k:Nat):Int)]=some (num (lxD k))):mi k:=⟨lxD k,(of_decide_eq_true h).1,(of_decide_eq_true h).2,dg bH (cw hG) 3000 h2⟩
theorem akT (hG:bg.g=some 1):mh 0:=mz hG 0 (by kernel_rfl) (by kernel_rfl)
theorem akU (hG:bg.g=some 1):mi 0:=mA hG 0 (by kernel_rfl) (by kernel_rfl)
theorem akV (hG:bg.g=some 1):mh 1:=mz hG 1 (by kernel_rfl) (by kernel_rfl)
theorem akW (hG:bg.g=some 1):mi 1:=mA hG 1 (by kernel_rfl) (by kernel_rfl)
theorem akX (hG:bg.g=some 1):mh 2:=mz hG 2 (by kernel_rfl) (by kernel_rfl)
theorem akY (hG:bg.g=some 1):mi 2:=mA hG 2 (by kernel_rfl) (by kernel_rfl)
theorem akZ (hG:bg.g=some 1):mh 3:=mz hG 3 (by kernel_rfl) (by kernel_rfl)
theorem ak0 (hG:bg.g=some 1):mi 3:=mA hG 3 (by kernel_rfl) (by kernel_rfl)
theorem ak1 (hG:bg.g=some 1):mh 4:=mz hG 4 (by kernel_rfl) (by kernel_rfl)
theorem ak2 (hG:bg.g=some 1):mi 4:=mA hG 4 (by kernel_rfl) (by kernel_rfl)
theorem ak3 (hG:bg.g=some 1):mh 5:=mz hG 5 (by kernel_rfl) (by kernel_rfl)
theorem ak4 (hG:bg.g=some 1):mi 5:=mA hG 5 (by kernel_rfl) (by kernel_rfl)
theorem ak5 (hG:bg.g=some 1):mh 6:=mz hG 6 (by kernel_rfl) (by kernel_rfl)
theorem ak6 (hG:bg.g=some 1):mi 6:=mA hG 6 (by kernel_rfl) (by kernel_rfl)
theorem ak7 (hG:bg.g=some 1):mh 7:=mz hG 7 (by kernel_rfl) (by kernel_rfl)
theorem ak8 (hG:bg.g=some 1):mi 7:=mA hG 7 (by kernel_rfl) (by kernel_rfl)
theorem ak9 (hG:bg.g=some 1):mh 8:=mz hG 8 (by kernel_rfl) (by kernel_rfl)
theorem ala (hG:bg.g=some 1):mi 8:=mA hG 8 (by kernel_rfl) (by kernel_rfl)
theorem alb (hG:bg.g=some 1):mh 9:=mz hG 9 (by kernel_rfl) (by kernel_rfl)
theorem alc (hG:bg.g=some 1):mi 9:=mA hG 9 (by kernel_rfl) (by kernel_rfl)
theorem afa (hG:bg.g=some 1):mh 10:=mz hG 10 (by kernel_rfl) (by kernel_rfl)
theorem afb (hG:bg.g=some 1):mi 10:=mA hG 10 (by kernel_rfl) (by kernel_rfl)
theorem afc (hG:bg.g=some 1):mh 11:=mz hG 11 (by kernel_rfl) (by kernel_rfl)
theorem afd (hG:bg.g=some 1):mi 11:=mA hG 11 (by kernel_rfl) (by kernel_rfl)
theorem afe (hG:bg.g=some 1):mh 12:=mz hG 12 (by kernel_rfl) (by kernel_rfl)
theorem aff (hG:bg.g=some 1):mi 12:=mA hG 12 (by kernel_rfl) (by kernel_rfl)
theorem afg (hG:bg.g=some 1):mh 13:=mz hG 13 (by kernel_rfl) (by kernel_rfl)
theorem afh (hG:bg.g=some 1):mi 13:=mA hG 13 (by kernel_rfl) (by kernel_rfl)
theorem afi (hG:bg.g=some 1):mh 14:=mz hG 14 (by kernel_rfl) (by kernel_rfl)
theorem afj (hG:bg.g=some 1):mi 14:=mA hG 14 (by kernel_rfl) (by kernel_rfl)
theorem afk (hG:bg.g=some 1):mh 15:=mz hG 15 (by kernel_rfl) (by kernel_rfl)
theorem afl (hG:bg.g=some 1):mi 15:=mA hG 15 (by kernel_rfl) (by kernel_rfl)
theorem afm (hG:bg.g=some 1):mh 16:=mz hG 16 (by kernel_rfl) (by kernel_rfl)
theorem afn (hG:bg.g=some 1):mi 16:=mA hG 16 (by kernel_rfl) (by kernel_rfl)
theorem afo (hG:bg.g=some 1):mh 17:=mz hG 17 (by kernel_rfl) (by kernel_rfl)
theorem afp (hG:bg.g=some 1):mi 17:=mA hG 17 (by kernel_rfl) (by kernel_rfl)
theorem afq (hG:bg.g=some 1):mh 18:=mz hG 18 (by kernel_rfl) (by kernel_rfl)
theorem afr (hG:bg.g=some 1):mi 18:=mA hG 18 (by kernel_rfl) (by kernel_rfl)
theorem afs (hG:bg.g=some 1):mh 19:=mz hG 19 (by kernel_rfl) (by kernel_rfl)
theorem aft (hG:bg.g=some 1):mi 19:=mA hG 19 (by kernel_rfl) (by kernel_rfl)
theorem afu (hG:bg.g=some 1):mh 20:=mz hG 20 (by kernel_rfl) (by kernel_rfl)
theorem afv (hG:bg.g=some 1):mi 20:=mA hG 20 (by kernel_rfl) (by kernel_rfl)
theorem afw (hG:bg.g=some 1):mh 21:=mz hG 21 (by kernel_rfl) (by kernel_rfl)
theorem afx (hG:bg.g=some 1):mi 21:=mA hG 21 (by kernel_rfl) (by kernel_rfl)
theorem afy (hG:bg.g=some 1):mh 22:=mz hG 22 (by kernel_rfl) (by kernel_rfl)
theorem afz (hG:bg.g=some 1):mi 22:=mA hG 22 (by kernel_rfl) (by kernel_rfl)
theorem afA (hG:bg.g=some 1):mh 23:=mz hG 23 (by kernel_rfl) (by kernel_rfl)
theorem afB (hG:bg.g=some 1):mi 23:=mA hG 23 (by kernel_rfl) (by kernel_rfl)
theorem afC (hG:bg.g=some 1):mh 24:=mz hG 24 (by kernel_rfl) (by kernel_rfl)
theorem afD (hG:bg.g=some 1):mi 24:=mA hG 24 (by kernel_rfl) (by kernel_rfl)
theorem afE (hG:bg.g=some 1):mh 25:=mz hG 25 (by kernel_rfl) (by kernel_rfl)
theorem afF (hG:bg.g=some 1):mi 25:=mA hG 25 (by kernel_rfl) (by kernel_rfl)
theorem afG (hG:bg.g=some 1):mh 26:=mz hG 26 (by kernel_rfl) (by kernel_rfl)
theorem afH (hG:bg.g=some 1):mi 26:=mA hG 26 (by kernel_rfl) (by kernel_rfl)
theorem afI (hG:bg.g=some 1):mh 27:=mz hG 27 (by kernel_rfl) (by kernel_rfl)
theorem afJ (hG:bg.g=some 1):mi 27:=mA hG 27 (by kernel_rfl) (by kernel_rfl)
theorem afK (hG:bg.g=some 1):mh 28:=mz hG 28 (by kernel_rfl) (by kernel_rfl)
theorem afL (hG:bg.g=some 1):mi 28:=mA hG 28 (by kernel_rfl) (by kernel_rfl)
theorem afM (hG:bg.g=some 1):mh 29:=mz hG 29 (by kernel_rfl) (by kernel_rfl)
theorem afN (hG:bg.g=some 1):mi 29:=mA hG 29 (by kernel_rfl) (by kernel_rfl)
theorem afO (hG:bg.g=some 1):mh 30:=mz hG 30 (by kernel_rfl) (by kernel_rfl)
theorem afP (hG:bg.g=some 1):mi 30:=mA hG 30 (by kernel_rfl) (by kernel_rfl)
theorem afQ (hG:bg.g=some 1):mh 31:=mz hG 31 (by kernel_rfl) (by kernel_rfl)
theorem afR (hG:bg.g=some 1):mi 31:=mA hG 31 (by kernel_rfl) (by kernel_rfl)
theorem afS (hG:bg.g=some 1):mh 32:=mz hG 32 (by kernel_rfl) (by kernel_rfl)
theorem afT (hG:bg.g=some 1):mi 32:=mA hG 32 (by kernel_rfl) (by kernel_rfl)
theorem afU (hG:bg.g=some 1):mh 33:=mz hG 33 (by kernel_rfl) (by kernel_rfl)
theorem afV (hG:bg.g=some 1):mi 33:=mA hG 33 (by kernel_rfl) (by kernel_rfl)
theorem afW (hG:bg.g=some 1):mh 34:=mz hG 34 (by kernel_rfl) (by kernel_rfl)
theorem afX (hG:bg.g=some 1):mi 34:=mA hG 34 (by kernel_rfl) (by kernel_rfl)
theorem afY (hG:bg.g=some 1):mh 35:=mz hG 35 (by kernel_rfl) (by kernel_rfl)
theorem afZ (hG:bg.g=some 1):mi 35:=mA hG 35 (by kernel_rfl) (by kernel_rfl)
theorem af0 (hG:bg.g=some 1):mh 36:=mz hG 36 (by kernel_rfl) (by kernel_rfl)
theorem af1 (hG:bg.g=some 1):mi 36:=mA hG 36 (by kernel_rfl) (by kernel_rfl)
theorem af2 (hG:bg.g=some 1):mh 37:=mz hG 37 (by kernel_rfl) (by kernel_rfl)
theorem af3 (hG:bg.g=some 1):mi 37:=mA hG 37 (by kernel_rfl) (by kernel_rfl)
theorem af4 (hG:bg.g=some 1):mh 38:=mz hG 38 (by kernel_rfl) (by kernel_rfl)
theorem af5 (hG:bg.g=some 1):mi 38:=mA hG 38 (by kernel_rfl) (by kernel_rfl)
theorem af6 (hG:bg.g=some 1):mh 39:=mz hG 39 (by kernel_rfl) (by kernel_rfl)
theorem af7 (hG:bg.g=some 1):mi 39:=mA hG 39 (by kernel_rfl) (by kernel_rfl)
theorem af8 (hG:bg.g=some 1):mh 40:=mz hG 40 (by kernel_rfl) (by kernel_rfl)
theorem af9 (hG:bg.g=some 1):mi 40:=mA hG 40 (by kernel_rfl) (by kernel_rfl)
theorem aga (hG:bg.g=some 1):mh 41:=mz hG 41 (by kernel_rfl) (by kernel_rfl)
theorem agb (hG:bg.g=some 1):mi 41:=mA hG 41 (by kernel_rfl) (by kernel_rfl)
theorem agc (hG:bg.g=some 1):mh 42:=mz hG 42 (by kernel_rfl) (by kernel_rfl)
theorem agd (hG:bg.g=some 1):mi 42:=mA hG 42 (by kernel_rfl) (by kernel_rfl)
theorem age (hG:bg.g=some 1):mh 43:=mz hG 43 (by kernel_rfl) (by kernel_rfl)
theorem agf (hG:bg.g=some 1):mi 43:=mA hG 43 (by kernel_rfl) (by kernel_rfl)
theorem agh (hG:bg.g=some 1):mh 44:=mz hG 44 (by kernel_rfl) (by kernel_rfl)
theorem agi (hG:bg.g=some 1):mi 44:=mA hG 44 (by kernel_rfl) (by kernel_rfl)
theorem agj (hG:bg.g=some 1):mh 45:=mz hG 45 (by kernel_rfl) (by kernel_rfl)
theorem agk (hG:bg.g=some 1):mi 45:=mA hG 45 (by kernel_rfl) (by kernel_rfl)
theorem agl (hG:bg.g=some 1):mh 46:=mz hG 46 (by kernel_rfl) (by kernel_rfl)
theorem agm (hG:bg.g=some 1):mi 46:=mA hG 46 (by kernel_rfl) (by kernel_rfl)
theorem agn (hG:bg.g=some 1):mh 47:=mz hG 47 (by kernel_rfl) (by kernel_rfl)
theorem ago (hG:bg.g=some 1):mi 47:=mA hG 47 (by kernel_rfl) (by kernel_rfl)
theorem agp (hG:bg.g=some 1):mh 48:=mz hG 48 (by kernel_rfl) (by kernel_rfl)
theorem agq (hG:bg.g=some 1):mi 48:=mA hG 48 (by kernel_rfl) (by kernel_rfl)
theorem ags (hG:bg.g=some 1):mh 49:=mz hG 49 (by kernel_rfl) (by kernel_rfl)
theorem agt (hG:bg.g=some 1):mi 49:=mA hG 49 (by kernel_rfl) (by kernel_rfl)
theorem agu (hG:bg.g=some 1):mh 50:=mz hG 50 (by kernel_rfl) (by kernel_rfl)
theorem agv (hG:bg.g=some 1):mi 50:=mA hG 50 (by kernel_rfl) (by kernel_rfl)
theorem agw (hG:bg.g=some 1):mh 51:=mz hG 51 (by kernel_rfl) (by kernel_rfl)
theorem agx (hG:bg.g=some 1):mi 51:=mA hG 51 (by kernel_rfl) (by kernel_rfl)
theorem agy (hG:bg.g=some 1):mh 52:=mz hG 52 (by kernel_rfl) (by kernel_rfl)
theorem agz (hG:bg.g=some 1):mi 52:=mA hG 52 (by kernel_rfl) (by kernel_rfl)
theorem agA (hG:bg.g=some 1):mh 53:=mz hG 53 (by kernel_rfl) (by kernel_rfl)
theorem agB (hG:bg.g=some 1):mi 53:=mA hG 53 (by kernel_rfl) (by kernel_rfl)
theorem agC (hG:bg.g=some 1):mh 54:=mz hG 54 (by kernel_rfl) (by kernel_rfl)
theorem agD (hG:bg.g=some 1):mi 54:=mA hG 54 (by kernel_rfl) (by kernel_rfl)
theorem agE (hG:bg.g=some 1):mh 55:=mz hG 55 (by kernel_rfl) (by kernel_rfl)
theorem agF (hG:bg.g=some 1):mi 55:=mA hG 55 (by kernel_rfl) (by kernel_rfl)
theorem ald (hG:bg.g=some 1):bR af 155 [str N5,num 0] (num (Ik 0)):=dg bH (cw hG) 3000 (by kernel_rfl)
theorem Xv (hG:bg.g=some 1):∀ k<56,mh k∧mi k
 | 0,_=>⟨akT hG,akU hG⟩
 | 1,_=>⟨akV hG,akW hG⟩
 | 2,_=>⟨akX hG,akY hG⟩
 | 3,_=>⟨akZ hG,ak0 hG⟩
 | 4,_=>⟨ak1 hG,ak2 hG⟩
 | 5,_=>⟨ak3 hG,ak4 hG⟩
 | 6,_=>⟨ak5 hG,ak6 hG⟩
 | 7,_=>⟨ak7 hG,ak8 hG⟩
 | 8,_=>⟨ak9 hG,ala hG⟩
 | 9,_=>⟨alb hG,alc hG⟩
 | 10,_=>⟨afa hG,afb hG⟩
 | 11,_=>⟨afc hG,afd hG⟩
 | 12,_=>⟨afe hG,aff hG⟩
 | 13,_=>⟨afg hG,afh hG⟩
 | 14,_=>⟨afi hG,afj hG⟩
 | 15,_=>⟨afk hG,afl hG⟩
 | 16,_=>⟨afm hG,afn hG⟩
 | 17,_=>⟨afo hG,afp hG⟩
 | 18,_=>⟨afq hG,afr hG⟩
 | 19,_=>⟨afs hG,aft hG⟩
 | 20,_=>⟨afu hG,afv hG⟩
 | 21,_=>⟨afw hG,afx hG⟩
 | 22,_=>⟨afy hG,afz hG⟩
 | 23,_=>⟨afA hG,afB hG⟩
 | 24,_=>⟨afC hG,afD hG⟩
 | 25,_=>⟨afE hG,afF hG⟩
 | 26,_=>⟨afG hG,afH hG⟩
 | 27,_=>⟨afI hG,afJ hG⟩
 | 28,_=>⟨afK hG,afL hG⟩
 | 29,_=>⟨afM hG,afN hG⟩
 | 30,_=>⟨afO hG,afP hG⟩
 | 31,_=>⟨afQ hG,afR hG⟩
 | 32,_=>⟨afS hG,afT hG⟩
 | 33,_=>⟨afU hG,afV hG⟩
 | 34,_=>⟨afW hG,afX hG⟩
 | 35,_=>⟨afY hG,afZ hG⟩
 | 36,_=>⟨af0 hG,af1 hG⟩
 | 37,_=>⟨af2 hG,af3 hG⟩
 | 38,_=>⟨af4 hG,af5 hG⟩
 | 39,_=>⟨af6 hG,af7 hG⟩
 | 40,_=>⟨af8 hG,af9 hG⟩
 | 41,_=>⟨aga hG,agb hG⟩
 | 42,_=>⟨agc hG,agd hG⟩
 | 43,_=>⟨age hG,agf hG⟩
 | 44,_=>⟨agh hG,agi hG⟩
 | 45,_=>⟨agj hG,agk hG⟩
 | 46,_=>⟨agl hG,agm hG⟩
 | 47,_=>⟨agn hG,ago hG⟩
 | 48,_=>⟨agp hG,agq hG⟩
 | 49,_=>⟨ags hG,agt hG⟩
 | 50,_=>⟨agu hG,agv hG⟩
 | 51,_=>⟨agw hG,agx hG⟩
 | 52,_=>⟨agy hG,agz hG⟩
 | 53,_=>⟨agA hG,agB hG⟩
 | 54,_=>⟨agC hG,agD hG⟩
 | 55,_=>⟨agE hG,agF hG⟩
 | k+56,h=>absurd h (by omega)
abbrev tkV:V:=.slice [.agg [num 5,str ⟨#[109,111,100,117,108,101]⟩,num 0],.agg [num 1,str ⟨#[109]⟩,num 7],.agg [num 6,str ⟨#[47]⟩,num 8],.agg [num 1,str ⟨#[118,49]⟩,num 9],.agg [num 5,str ⟨#[105,109,112,111,114,116]⟩,num 12],.agg [num 1,str ⟨#[97]⟩,num 19],.agg [num 6,str ⟨#[47]⟩,num 20],.agg [num 1,str ⟨#[118,49]⟩,num 21],.agg [num 5,str ⟨#[97,115]⟩,num 24],.agg [num 1,str ⟨#[115]⟩,num 27],.agg [num 5,str ⟨#[108,101,116]⟩,num 29],.agg [num 1,str ⟨#[118]⟩,num 33],.agg [num 6,str ⟨#[58]⟩,num 34],.agg [num 5,str ⟨#[105,110,116]⟩,num 36],.agg [num 6,str ⟨#[61]⟩,num 40],.agg [num 3,str ⟨#[49]⟩,num 42],.agg [num 5,str ⟨#[108,101,116]⟩,num 44],.agg [num 1,str ⟨#[119]⟩,num 48],.agg [num 6,str ⟨#[58]⟩,num 49],.agg [num 5,str ⟨#[105,110,116]⟩,num 51],.agg [num 6,str ⟨#[61]⟩,num 55],.agg [num 5,str ⟨#[108,101,116]⟩,num 57],.agg [num 1,str ⟨#[118]⟩,num 61],.agg [num 6,str ⟨#[61]⟩,num 63],.agg [num 3,str ⟨#[50]⟩,num 65],.agg [num 5,str ⟨#[105,110]⟩,num 67],.agg [num 1,str ⟨#[118]⟩,num 70],.agg [num 6,str ⟨#[43]⟩,num 72],.agg [num 1,str ⟨#[118]⟩,num 74],.agg [num 5,str ⟨#[108,101,116]⟩,num 76],.agg [num 1,str ⟨#[120]⟩,num 80],.agg [num 6,str ⟨#[58]⟩,num 81],.agg [num 5,str ⟨#[105,110,116]⟩,num 83],.agg [num 6,str ⟨#[61]⟩,num 87],.agg [num 1,str ⟨#[118]⟩,num 89],.agg [num 5,str ⟨#[116,121,112,101]⟩,num 91],.agg [num 2,str ⟨#[80]⟩,num 96],.agg [num 6,str ⟨#[91]⟩,num 97],.agg [num 6,str ⟨#[43]⟩,num 98],.agg [num 2,str ⟨#[65]⟩,num 99],.agg [num 6,str ⟨#[93]⟩,num 100],.agg [num 6,str ⟨#[61]⟩,num 102],.agg [num 5,str ⟨#[108,105,115,116]⟩,num 104],.agg [num 6,str ⟨#[91]⟩,num 108],.agg [num 2,str ⟨#[65]⟩,num 109],.agg [num 6,str ⟨#[93]⟩,num 110],.agg [num 5,str ⟨#[108,101,116]⟩,num 112],.agg [num 1,str ⟨#[121]⟩,num 116],.agg [num 6,str ⟨#[58]⟩,num 117],.agg [num 1,str ⟨#[115]⟩,num 119],.agg [num 6,str ⟨#[58,58]⟩,num 120],.agg [num 2,str ⟨#[78]⟩,num 122],.agg [num 6,str ⟨#[61]⟩,num 124],.agg [num 1,str ⟨#[115]⟩,num 126],.agg [num 6,str ⟨#[58,58]⟩,num 127],.agg [num 1,str ⟨#[102]⟩,num 129],.agg [num 0,str ⟨#[]⟩,num 130]]
theorem ale (hG:bg.g=some 1):bR af 108 [str N5] (.eV [tkV,num 0,num 0]):=by obtain⟨_,rfl,h⟩:=VV N5 (by decide) 56 Ik Tl lxK lxX (ald hG) (fun k hk=>(Xv hG k hk).1) (fun k hk=>(Xv hG k hk).2) (by decide) (by kernel_rfl);exact h
theorem aiT (hG:bg.g=some 1):bR af 62 [str N5] (.agg [tkV,num 0,num 0,num 0]):=dg (bM (ale hG) bH) (cw hG) 3000 (by kernel_rfl)
end Go.Proofs.YtnboooapeopjoaaGreatDoor
end
