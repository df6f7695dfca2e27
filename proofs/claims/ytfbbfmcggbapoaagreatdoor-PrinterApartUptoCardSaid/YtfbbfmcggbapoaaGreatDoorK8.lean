import Derived.Test.YtfbbfmcggbapoaaGreatDoorK7
import Derived.Test.YtfbbfmcggbapoaaGreatDoorCards
import Derived.Test.YtfbbfmcggbapoaaGreatDoorTie
import Derived.Lib.LaidTab
open Bool renaming not_not→asn
open Go.Proofs.Tryz renaming prog→aj
open Int renaming natCast_nonneg→fP
open List renaming all_eq_true→aN,append_nil→ah,cons_append→aw,getElem?_eq_getElem→au,getElem?_map→aq,headD_cons→cg,length_map→ax,mem_iff_getElem?→bB,mem_of_getElem?→aE,mem_singleton→eX,nil_append→aC
open Nat renaming le_of_ble_eq_true→ig,le_refl→ay,lt_or_ge→bS,not_lt_zero→iH,zero_le→ck
set_option linter.all false
section
namespace Go.Proofs.YtfbbfmcggbapoaaGreatDoor
open Go.Eng
variable [ba]
open Nat renaming reduceAdd → zA, reduceLT → zB, reduceLeDiff → zC, reduceMul → zD, reduceEqDiff → zE, reduceSub → zF
set_option maxHeartbeats 4000000
set_option maxRecDepth 100000
section
def Mp (d:Dc):Bool:=!d.params.any (fun p=>!lJ p.bound) && !ek d.mod&&lJ d.lower&&lJ d.upper&&lJ d.type&&tr d.expr
def PlD (d:Dc):Prop:=Cn 51 [dh d] (bl (Mp d))
theorem aiD {d:Dc} (h:PlD d):Cn 51 [.agg [num d.kind,str d.name,bl d.exported,bl d.deprecated,str d.note,.slice (d.params.map eu),num d.lower.kind,str d.lower.mod,str d.lower.name,.slice (d.lower.args.map bk),.slice (d.lower.bA.map dj),num d.upper.kind,str d.upper.mod,str d.upper.name,.slice (d.upper.args.map bk),.slice (d.upper.bA.map dj),num d.type.kind,str d.type.mod,str d.type.name,.slice (d.type.args.map bk),.slice (d.type.bA.map dj),num d.expr.kind,str d.expr.mod,str d.expr.name,str d.expr.text,num d.expr.num,.slice (d.expr.types.map bk),.slice (d.expr.labels.map cq),.slice (d.expr.kids.map br),str d.mod,str d.target]] (bl (Mp d)):=by unfold PlD at h;simp only [cP,dh,aD,aP,aQ,bD,bK] at h;exact h
section
attribute [local go_sem] ax
theorem TL (g:FuncId) (q:Dc→Bool) (l:List Dc) (hg:∀ x∈l,Cn g [dh x] (bl (q x))) (hl:l.length≤1048576):∃ r_,(fun w=>∃ k:Int,w=num k∧decide (0≤k)=l.any q) r_∧bJ aj 132 [.slice (l.map dh),.sc (.func (.func g) #[] #[])] r_:=by
 refine jq tt_ok [] 19 [.tmp 4] (fn:=Tryz.f132) Tryz.func132 rfl Tryz.call132 ⟨rfl,rfl,by simp⟩ fun K hK=>?_;simp only [go_sem];refine iz tt_ok [] [8] 0 [0,1,7] (fun vs=>((l.length:Int)-Go.Eng.intOf (vs.headD .undef)).toNat) (fun vs=>∃ i:Nat,vs=[num i]∧i≤l.length∧∀ j<i,∀ x,l[j]?=some x→q x=false) (by omega) (by simp only [go_sem]) (⟨0,rfl,ck _,fun j hj=>absurd hj (iH j)⟩) fun vs hI Z1 fh=>?_;obtain⟨i,rfl,hi,ff⟩:=hI;simp only [go_sem];refine cC (fun kh=>?_) (fun kh=>?_);·(have bQ:i<l.length:=by simpa using kh);have hw:=bN i (by omega);obtain⟨x,hx⟩:∃ x,l[i]?=some x:=⟨_,au bQ⟩;simp only [hw,aq,hx,dh,aD,aP,aQ,bD,bK,aw,aC,go_sem];refine ep (by have h:=hg x (aE hx);simp only [cP,dh,aD,aP,aQ,bD,bK] at h;exact h) ?_;simp only [hw,aq,hx,dh,aD,aP,aQ,bD,bK,aw,aC,go_sem];refine cC (fun gh=>?_) (fun gh=>?_);(·(have cX:decide (0≤(i:Int))=l.any q:=by rw [qx hx gh];exact decide_eq_true (fP i));simp only [hw,aq,hx,dh,aD,aP,aQ,bD,bK,aw,aC,go_sem];exact hK _ ⟨_,rfl,cX⟩);simp only [hw,aq,hx,dh,aD,aP,aQ,bD,bK,aw,aC,go_sem];refine fh _ (oU (by omega) (by simp only [hw,aq,hx,dh,aD,aP,aQ,bD,bK,aw,aC,go_sem]) ?_ ?_) <;> simp only [lS,lk,reduceIte,zE];(·refine⟨i+1,rfl,bQ,fun j hj=>?_⟩;(rcases bS j i with h|h);(·exact ff j h);(obtain rfl:j=i:=by omega);intro y hy;rw [hx] at hy;cases hy;exact gh);simp only [Go.Eng.intOf,cg];omega
 have jL:¬ i<l.length:=by simpa using kh
 have cX:decide (0≤(-1:Int))=l.any q:=(any_none fun j hj=>ff j (by omega)).symm ▸ rfl;simp only [go_sem];exact hK _ ⟨_,rfl,cX⟩
end
theorem TN (g:FuncId) (q:Dc→Bool) (l:List Dc) (hg:∀ x∈l,Cn g [dh x] (bl (q x))) (hl:l.length≤1048576):Cn 49 [.slice (l.map dh),.sc (.func (.func g) #[] #[])] (bl (l.any q)):=by refine jq tt_ok [] 9 [.tmp 4] (fn:=Tryz.f49) Tryz.func49 rfl Tryz.call49 ⟨rfl,rfl,by simp⟩ fun K hK=>?_;simp only [go_sem];refine cF (TL g q l hg hl) ?_;rintro _ ⟨k,rfl,hk⟩;simp only [go_sem];exact hK _ (congrArg bl hk)
theorem ac0 (p:Pm) (h:NZ p.bound):Cn 134 [eu p] (bl (!lJ p.bound)):=by refine jq tt_ok [] 7 [.tmp 2] (fn:=Tryz.f134) Tryz.func134 rfl Tryz.call134 ⟨rfl,rfl,by simp⟩ fun K hK=>?_;simp only [cP,eu,aD,aQ,bD];simp only [go_sem];refine ep (wK h) ?_;simp only [go_sem];exact hK _ rfl
theorem Ff (hG:ba.g=some 0) (d:Dc) (hw:d.wt≤1048576):Cn 51 [dh d] (bl (Mp d)):=by
 refine jq tt_ok [] 35 [.tmp 2] (fn:=Tryz.f51) Tryz.func51 rfl Tryz.call51 ⟨rfl,rfl,by simp⟩ fun K hK=>?_;have hwe:d.wt=1+d.name.size+d.note.size+aM Pm.wt d.params+d.lower.wt+d.upper.wt+d.type.wt+d.expr.wt+d.mod.size+d.target.size:=rfl;have qU:d.params.length≤1048576:=by have:=ct Pm.wt (fun a=>by have:=a.bound.jE;unfold Pm.wt;omega) d.params;omega
 obtain⟨p1,KM⟩:∃ b,d.params.any (fun p=>!lJ p.bound)=b:=⟨_,rfl⟩;obtain⟨p2,CL⟩:∃ b,ek d.mod=b:=⟨_,rfl⟩;obtain⟨p3,OW⟩:∃ b,lJ d.lower=b:=⟨_,rfl⟩;obtain⟨p4,V5⟩:∃ b,lJ d.upper=b:=⟨_,rfl⟩;obtain⟨p5,hp5⟩:∃ b,lJ d.type=b:=⟨_,rfl⟩;obtain⟨p6,hp6⟩:∃ b,tr d.expr=b:=⟨_,rfl⟩;have hpd:Mp d=(!p1 && !p2&&p3&&p4&&p5&&p6):=by unfold Mp;rw [KM,CL,OW,V5,hp5,hp6]
 have hA:=sX 134 (fun p=>!lJ p.bound) d.params (fun p hp=>ac0 p (gX hG _ p.bound (ay _) (by obtain⟨i,hi⟩:=bB.1 hp;have h1:=bU Pm.wt hi;have h2:p.wt=1+p.name.size+p.bound.wt:=rfl;omega))) qU;rw [KM] at hA;have LX:=nz hG d.mod (by omega);rw [CL] at LX;have h3:=wK (gX hG _ d.lower (ay _) (by omega));have h4:=wK (gX hG _ d.upper (ay _) (by omega));have h5:=wK (gX hG _ d.type (ay _) (by omega));have h6:=R7 (qF hG _ d.expr (ay _) (by omega));rw [OW] at h3;rw [V5] at h4;rw [hp5] at h5;rw [hp6] at h6;simp only [cP,dh,aD,aP,aQ,bD,bK];simp only [go_sem];refine ep (hA) ?_;simp only [go_sem];refine cC (fun vX=>?_) (fun vX=>?_) <;> simp only [go_sem];·refine ep (LX) ?_;simp only [go_sem];refine cC (fun aiE=>?_) (fun aiE=>?_) <;> simp only [go_sem];(·refine ep (h3) ?_;simp only [go_sem];refine cC (fun ac1=>?_) (fun ac1=>?_) <;> simp only [go_sem];(·refine ep (h4) ?_;simp only [go_sem];refine cC (fun ac2=>?_) (fun ac2=>?_) <;> simp only [go_sem];(·refine ep (h5) ?_;simp only [go_sem];refine cC (fun ac3=>?_) (fun ac3=>?_) <;> simp only [go_sem];(·refine ep (h6) ?_;simp only [go_sem];exact hK _ (congrArg bl (by clear hK hA LX h3 h4 h5 h6;rw [hpd];simp_all)));exact hK _ (congrArg bl (by clear hK hA LX h3 h4 h5 h6;rw [hpd];simp_all)));exact hK _ (congrArg bl (by clear hK hA LX h3 h4 h5 h6;rw [hpd];simp_all)));exact hK _ (congrArg bl (by clear hK hA LX h3 h4 h5 h6;rw [hpd];simp_all)));exact hK _ (congrArg bl (by clear hK hA LX h3 h4 h5 h6;rw [hpd];simp_all))
 exact hK _ (congrArg bl (by clear hK hA LX h3 h4 h5 h6;rw [hpd];simp_all))
theorem WB (d:Dc) (h:PlD d):Cn 50 [dh d] (bl (!Mp d)):=by refine jq tt_ok [] 6 [.tmp 2] (fn:=Tryz.f50) Tryz.func50 rfl Tryz.call50 ⟨rfl,rfl,by simp⟩ fun K hK=>?_;simp only [cP,dh,aD,aP,aQ,bD,bK];simp only [go_sem];refine ep (aiD h) ?_;simp only [go_sem];exact hK _ rfl
theorem KC (hG:ba.g=some 0) (m:Md) (hw:m.wt≤1048576) (hm:(JF m).2=0→m.decls.all Mp=true→MdK m∧(NA yH m).length≤34359738368):Cn 15 [sx m] (.dR [str (j8 (JF m).2 (m.decls.all Mp) (NA yH m)).1,num (j8 (JF m).2 (m.decls.all Mp) (NA yH m)).2]):=by
 refine jq tt_ok [] 22 [.tmp 2,.tmp 3] (fn:=Tryz.f15) Tryz.func15 rfl Tryz.call15 ⟨rfl,rfl,by simp⟩ fun K hK=>?_;have hC:=BT hG m hw;have CI:m.decls.length≤1048576:=by have h1:m.wt=1+m.path.size+aM Im.wt m.imports+aM Dc.wt m.decls:=rfl;have:=ct Dc.wt (fun a=>by unfold Dc.wt;omega) m.decls;omega
 have hA:=TN 50 (fun d=>!Mp d) m.decls (fun d hd=>WB d (Ff hG d (by have h1:m.wt=1+m.path.size+aM Im.wt m.imports+aM Dc.wt m.decls:=rfl;obtain⟨i,hi⟩:=bB.1 hd;have h2:=bU Dc.wt hi;omega))) CI;rw [xJ] at hA;obtain⟨pa,TY⟩:∃ b,m.decls.all Mp=b:=⟨_,rfl⟩;have hae:(m.decls.all fun d=>Mp d)=pa:=TY;rw [hae] at hA;rw [TY] at hm;have hX:NA yH m≠[]:=by unfold NA;simp
 simp only [sx] at hC ⊢;simp only [asn,go_sem];refine ep (hC) ?_;simp only [asn,go_sem];refine ep (hA) ?_;simp only [asn,go_sem];refine cW (xK 52 (JF m).2 pa (NA yH m) [str m.path,.slice (m.imports.map fc),.slice (m.decls.map dh)] rfl (fun h1 h2=>⟨hX,(hm h1 h2).2,fun v O hO=>Wx m (hm h1 h2).1 v O hO⟩)) ?_;rintro _ _ ⟨rfl,rfl⟩;simp only [asn,go_sem];exact hK _ (by rw [TY])
end
theorem TO (l:List Dc):aM Dc.size l≤aM Dc.dd l:=by induction l with|nil=>exact ay _|cons x r ih=>have:=Dc.size_le x;simp only [aM] at *;omega
theorem ac4 (m:Md) (h1:ek m.path=true) (h2:Nat.ble m.imports.length 16=true) (h3:Nat.ble m.decls.length 64=true) (h4:Nat.ble (1+m.imports.length+aM Dc.dd m.decls) 4096=true)
  (h5:(kH (Di m.path) [] m.imports).2=0):EH m=0:=by
 have h2:=ig h2;have h3:=ig h3;have h4:=ig h4;have h6:=TO m.decls;have h7:m.size≤4096:=by unfold Md.size;omega
 unfold EH;rw [if_neg (by rw [h1];simp),if_neg (by omega),h5]
def nmX (s:ByteArray):Ex:=.mk 3 ⟨#[]⟩ s ⟨#[]⟩ 0 [] [] []
def mnX (a b:Ex):Ex:=.mk 16 ⟨#[]⟩ ⟨#[45]⟩ ⟨#[]⟩ 0 [] [] [a,b]
def xA:Ex:=mnX (mnX (nmX ⟨#[97]⟩) (nmX ⟨#[98]⟩)) (mnX (nmX ⟨#[99]⟩) (.mk 0 ⟨#[]⟩ ⟨#[]⟩ ⟨#[]⟩ 1 [] [] []))
theorem Yy:xA.wt≤1048576:=ig kr
theorem aiF:wz xA=0:=kr
theorem aiG:tr xA=true:=kr
theorem aiH:N7 xA:=fun u hu=>by have h:=aN.1 (show xA.nodes.all (fun u=>decide (-9223372036854775808≤u.num)&&decide (u.num≤9223372036854775807))=true from kr) u hu;simpa using h
theorem aiI:Lib.itoa 1=[49]:=by have:Lib.itoa ((1:Nat):Int)=_:=Lib.itoa_nonneg 1;rw [show (1:Int)=((1:Nat):Int) from rfl,this,Lib.decDigits_one (by omega)];rfl
theorem aiJ:xA.pr=[97,32,45,32,98,32,45,32,40,99,32,45,32,49,41]:=by have h:xA.pr=[97,32,45,32,98,32,45,32,40,99,32,45,32]++Lib.itoa 1++[41]:=kr;rw [h,aiI];rfl
theorem ang (hG:ba.g=some 0) (hP:ba.u4 1=some jc):bJ aj 13 [.agg [num 16,str ⟨#[]⟩,str ⟨#[45]⟩,str ⟨#[]⟩,num 0,.slice [],.slice [],.slice [.agg [num 16,str ⟨#[]⟩,str ⟨#[45]⟩,str ⟨#[]⟩,num 0,.slice [],.slice [],.slice [.agg [num 3,str ⟨#[]⟩,str ⟨#[97]⟩,str ⟨#[]⟩,num 0,.slice [],.slice [],.slice []],.agg [num 3,str ⟨#[]⟩,str ⟨#[98]⟩,str ⟨#[]⟩,num 0,.slice [],.slice [],.slice []]]],.agg [num 16,str ⟨#[]⟩,str ⟨#[45]⟩,str ⟨#[]⟩,num 0,.slice [],.slice [],.slice [.agg [num 3,str ⟨#[]⟩,str ⟨#[99]⟩,str ⟨#[]⟩,num 0,.slice [],.slice [],.slice []],.agg [num 0,str ⟨#[]⟩,str ⟨#[]⟩,str ⟨#[]⟩,num 1,.slice [],.slice [],.slice []]]]]]] (.dR [str ⟨#[97,32,45,32,98,32,45,32,40,99,32,45,32,49,41]⟩,num 0]):=by
 obtain⟨r,hr,h⟩:=BA hG xA Yy (Ka hP Yy aiH);have e:j8 (wz xA) (tr xA) xA.pr=(bs [97,32,45,32,98,32,45,32,40,99,32,45,32,49,41],0):=by rw [aiF,aiG,aiJ];rfl
 rw [e] at hr;subst hr;exact h
def tA:Ty:=.mk 4 ⟨#[]⟩ ⟨#[]⟩ [] []
def tX:Ty:=.mk 9 ⟨#[]⟩ ⟨#[88]⟩ [] []
theorem anh (hG:ba.g=some 0):bJ aj 11 [.agg [num 4,str ⟨#[]⟩,str ⟨#[]⟩,.slice [],.slice []]] (.dR [str ⟨#[116,101,120,116]⟩,num 0]):=by
 obtain⟨r,hr,h⟩:=wL hG tA (ig kr) EZ;have e:j8 (mI tA) (lJ tA) tA.pr=(bs [116,101,120,116],0):=by have h1:mI tA=0:=kr;have h2:lJ tA=true:=kr;have h3:tA.pr=[116,101,120,116]:=kr;rw [h1,h2,h3];rfl
 rw [e] at hr;subst hr;exact h
theorem aiK (hG:ba.g=some 0):bJ aj 11 [.agg [num 9,str ⟨#[]⟩,str ⟨#[88]⟩,.slice [],.slice []]] (.dR [str ⟨#[]⟩,num 1]):=by
 obtain⟨r,hr,h⟩:=wL hG tX (ig kr) EZ;have e:j8 (mI tX) (lJ tX) tX.pr=(⟨#[]⟩,1):=by have h1:mI tX=0:=kr;have h2:lJ tX=false:=kr;rw [h1,h2];rfl
 rw [e] at hr;subst hr;exact h
def dA:Dc:=⟨0,⟨#[78]⟩,false,false,⟨#[]⟩,[],.mk 1 ⟨#[]⟩ ⟨#[]⟩ [] [],.mk 0 ⟨#[]⟩ ⟨#[]⟩ [] [],.mk 2 ⟨#[]⟩ ⟨#[]⟩ [] [],.mk 0 ⟨#[]⟩ ⟨#[]⟩ ⟨#[]⟩ 0 [] [] [],⟨#[]⟩,⟨#[]⟩⟩
def mA:Md:=⟨⟨#[109,47,118,49]⟩,[],[dA]⟩
theorem aiL:mA.wt≤1048576:=ig kr
theorem aiM:EH mA=0:=ac4 _ kr kr kr kr kr
theorem aiN:JF mA=(0,0):=by unfold JF;rw [if_neg (by rw [aiM];simp)];kernel_rfl
theorem aiO:mA.decls.all Mp=true:=kr
theorem ani:DcK dA := {
 k:=.inl rfl
 nm:=by decide
 pl:=by decide
 pk:=fun p hp=>by cases hp
 wl:=fun _=>⟨BB kr kr,BB kr kr⟩
 wt:=fun _=>BB kr kr
 wx:=fun h=>by cases h
 md:=fun h=>by cases h
 nt:=by decide
 zl:=ig kr
 zu:=ig kr }
theorem anj:MdK mA := {
 p:=by decide
 il:=by decide
 dl:=by decide
 im:=fun x hx=>by cases hx
 dk:=fun d hd=>by rcases eX.1 hd with rfl;exact ani }
theorem aiP:yH dA=false:=by
 have h:nW dA.lower dA.upper=false:=bL fun e=>by have:=congrArg Ty.kind e;exact absurd this (by decide)
 unfold yH;rw [h];rfl
theorem Yz:NA yH mA=[109,111,100,117,108,101,32,109,47,118,49,10,116,121,112,101,32,78,32,60,58,32,97,110,121,32,61,32,105,110,116,10]:=by have h:NA yH mA=[109,111,100,117,108,101,32,109,47,118,49,10]++(Rr (yH dA) dA++[]):=kr;have h2:Rr false dA=[116,121,112,101,32,78,32,60,58,32,97,110,121,32,61,32,105,110,116,10]:=kr;rw [h,aiP,h2];rfl
theorem ank (hG:ba.g=some 0):bJ aj 15 [.agg [str ⟨#[109,47,118,49]⟩,.slice [],.slice [.agg [num 0,str ⟨#[78]⟩,bl false,bl false,str ⟨#[]⟩,.slice [],num 1,str ⟨#[]⟩,str ⟨#[]⟩,.slice [],.slice [],num 0,str ⟨#[]⟩,str ⟨#[]⟩,.slice [],.slice [],num 2,str ⟨#[]⟩,str ⟨#[]⟩,.slice [],.slice [],num 0,str ⟨#[]⟩,str ⟨#[]⟩,str ⟨#[]⟩,num 0,.slice [],.slice [],.slice [],str ⟨#[]⟩,str ⟨#[]⟩]]]] (.dR [str ⟨#[109,111,100,117,108,101,32,109,47,118,49,10,116,121,112,101,32,78,32,60,58,32,97,110,121,32,61,32,105,110,116,10]⟩,num 0]):=by
 obtain⟨r,hr,h⟩:=KC hG mA aiL fun _ _=>⟨anj,by rw [Yz];decide⟩;have e:j8 (JF mA).2 (mA.decls.all Mp) (NA yH mA)=(bs [109,111,100,117,108,101,32,109,47,118,49,10,116,121,112,101,32,78,32,60,58,32,97,110,121,32,61,32,105,110,116,10],0):=by rw [aiN,aiO,Yz];rfl
 rw [e] at hr;subst hr;exact h
theorem TP (hG:ba.g=some 0) (hP:ba.u4 1=some jc):bJ aj 9 [] (bl true) :=
 cx (iU (amS hG) (iU (amU hG) (iU (ang hG hP) (iU (ank hG) (iU (anh hG) (iU (aiK hG) bz)))))) (cj hG) 2000 kr
end Go.Proofs.YtfbbfmcggbapoaaGreatDoor
end
section
namespace Go.Proofs.YtfbbfmcggbapoaaGreatDoor.lawPrinterApart
open Go.Eng
set_option maxRecDepth 100000
open Go.ChangeShapes Go.WideShapes Go.ChangeAt Go.RowKit
theorem contract (H:Type) (enc:TypeId×Value→H) (W:World) (args:Array Value) (ds gs:List (DataW H)) (before:List MemPlace) (base:Nat)
  (jH:∀ (j:Nat) t v,Tryz.f6.params[j]?=some t→args[j]?=some v→Value.okWide aj W .any base t v)
  (hW:DataW.Whole enc aj Tryz.f6.params.toList Rows.printerApartSpec.vars false W args.toList ds gs before) (hb:Rows.uptoBulkAll (ds++gs)≤1048576) (hL:laidMetH aj Rows.printerApartUptoRow.laid W) (hS:W.ShapedOpen aj) :
  Calls aj 6 args W fun e W'=>∃ v,e = .returned v∧Rows.printerApartSpec.post enc aj Tryz.f6 false true false false W args v W':=by
 have hW':=hW;have bQ:=hW.lt;obtain⟨p,q,hA0,hV,rfl,hfz,qi⟩:=hW;have hA:DataW.TrodAll enc aj W 0 (fun _=>true) true Tryz.f6.params.toList args.toList ds p:=hA0;rw [Tryz.params6] at hA;obtain⟨v0,T5,d0,ds0,p0,q0,oq,rfl,rfl,h0,r0⟩:=trodAll_cons hA;obtain⟨v1,vs1,d1,ds1,p1,q1,rfl,rfl,rfl,h1,r1⟩:=trodAll_cons r0;obtain⟨v2,vs2,d2,ds2,p2,q2,rfl,rfl,rfl,h2,r2⟩:=trodAll_cons r1;obtain⟨v3,vs3,d3,ds3,p3,q3,rfl,rfl,rfl,h3,r3⟩:=trodAll_cons r2;obtain⟨rfl,rfl,rfl⟩:=trodAll_nil r3;obtain rfl:args = #[v0,v1,v2,v3]:=by cases args;simp_all
 obtain⟨rfl,rfl⟩:=trodVars_none hV;rw [Tryz.params6] at jH;clear jH;clear hA0 hA r0 r1 r2 r3 oq hV;simp only [ah] at hW' bQ;simp only [cP,ah,Rows.uptoBulkAll] at hb;have h0':=h0;have h1':=h1;have h2':=h2;have h3':=h3;obtain⟨f0,h0⟩:=h0;obtain⟨f1,h1⟩:=h1;obtain⟨f2,h2⟩:=h2;obtain⟨f3,h3⟩:=h3;have main:Calls aj 6 #[v0,v1,v2,v3] W fun e W'=>e = .returned (.bool true)∧Below W.heap.size W W':=by obtain⟨n,hn⟩:=N8 hS;(have go:∀ (G:ba) (hG:G.g=some 0) (hP:G.u4 1=some jc) (hg:@Gl G W.cell?),Calls aj 6 #[v0,v1,v2,v3] W fun e W'=>e = .returned (.bool true)∧Below W.heap.size W W':=fun G hG hP hg=>by have haw:bJ aj 9 [] (bl true):=TP hG hP;obtain⟨x0,KG,b0⟩:=L1 (F:=W.cell?) (hg:=hg) rfl _ h0;obtain⟨x1,qO,b1⟩:=L1 (F:=W.cell?) (hg:=hg) rfl _ h1;obtain⟨x2,rk,b2⟩:=Ya (F:=W.cell?) (hg:=hg) rfl _ h2;obtain⟨x3,YO,b3⟩:=Ya (F:=W.cell?) (hg:=hg) rfl _ h3;(obtain⟨rr,CD,hc⟩:∃ r_,r_=bl true∧bJ aj 6 [bk x0,bk x1,br x2,br x3] r_:=by obtain⟨r_,h1,h2⟩:=lawApart_ok hG hP haw x0 x1 x2 x3 (by omega) (by omega) (by have:=b2.1;omega) (by have:=b3.1;omega) b2.2 b3.2;exact⟨r_,h1,h2⟩);subst CD;refine (hc.2 W.cell? hg W #[v0,v1,v2,v3] (fun _ _ h=>h) ?_).mono fun o W' h=>?_;(·exact .cons (Sr KG) (.cons (Sr qO) (.cons (Ss rk) (.cons (Ss YO) (.nil _)))));obtain⟨F',x,rfl,-,-,-,⟨FQ,hx⟩,KD⟩:=h;obtain rfl:=eT hx;exact⟨rfl,KD⟩);exact go (gOf n) rfl rfl (agv hn (abL hL))
 refine main.mono fun e W' ⟨he,KD⟩=>?_;subst he;have Mq:laidOutB aj=true:=kr
 refine⟨_,rfl,N9 (pa:=p0++(p1++(p2++(p3++[])))) (pv:=[]) hW' (fun _ _ _=>trodAll_cons_mk (shut_bool Tryz.underlying4 _) trodAll_mk0) (fun sp H9=>?_) (fun _ _=>rfl) (by simp)
  KD (ok_one kr rfl (okWide_bool_mk Tryz.underlying4 _))⟩
 refine trodAll_cons_mk (WideElems.Trod_stays Mq kr (of_decide_eq_true kr) h0' (fun x hx=>KD.same (bQ x (by simp [hx]))) (fun x hx=>H9 x (by simp [hx])))
  (trodAll_cons_mk (WideElems.Trod_stays Mq kr (of_decide_eq_true kr) h1' (fun x hx=>KD.same (bQ x (by simp [hx]))) (fun x hx=>H9 x (by simp [hx])))
  (trodAll_cons_mk (WideElems.Trod_stays Mq kr (of_decide_eq_true kr) h2' (fun x hx=>KD.same (bQ x (by simp [hx]))) (fun x hx=>H9 x (by simp [hx])))
  (trodAll_cons_mk (WideElems.Trod_stays Mq kr (of_decide_eq_true kr) h3' (fun x hx=>KD.same (bQ x (by simp [hx]))) (fun x hx=>H9 x (by simp [hx])))
  trodAll_mk0)))
end Go.Proofs.YtfbbfmcggbapoaaGreatDoor.lawPrinterApart
end
section
namespace Go.Proofs.YtfbbfmcggbapoaaGreatDoor
set_option maxHeartbeats 4000000
set_option maxRecDepth 100000
section
open Go.ChangeShapes Go.WideShapes Go.ChangeAt Go.RowKit
theorem own:ownKnob aj.godebug=none:=kr
def YA (cs:Array Value):Obj→Obj
 | .cells _ t frozen=>.cells cs t frozen
 | o=>o
def anl:List Nat:=[0,1,28,2,29,14,24,3,30,22,20,15,25,17,4,8,31,27,13,23,21,19,16,7,26,12,18,6,11,5,10,9]
def anm:List Nat:=[0,1,56,2,57,49,28,3,61,58,42,50,38,29,17,4,62,47,59,36,45,43,51,22,53,39,33,30,24,18,12,5,63,55,48,27,60,41,37,16,46,35,44,21,52,32,23,11,54,26,40,15,34,20,31,10,25,14,19,9,13,8,7,6]
def aiQ:List Nat:=[1,10,100,1000,10000,100000,1000000,10000000,100000000,1000000000,10000000000,100000000000,1000000000000,10000000000000,100000000000000,1000000000000000,10000000000000000,100000000000000000,1000000000000000000,10000000000000000000]
def ann:List Nat:=[128,191,160,191,128,159,144,191,128,143,0,0,0,0,0,0,0,0,0,0,0,0,0,0,0,0,0,0,0,0,0,0]
def WC (l:List Nat):Obj→Obj:=YA ⟨l.map fun n=>Value.int .u8 (Int.ofNat n)⟩
noncomputable def xT (os:Os):World :=
 { World.holding aj os ⟨#[],#[],[]⟩ with heap:=(((((World.holding aj os ⟨#[],#[],[]⟩).heap.modify 4 (WC Pinned.utf8FirstZ)).modify 5 (WC ann)).modify 1 (YA ⟨aiQ.map fun n=>Value.int .u64 (Int.ofNat n)⟩)).modify 2 (WC anl)).modify 3 (WC anm) }
end
end Go.Proofs.YtfbbfmcggbapoaaGreatDoor
end
