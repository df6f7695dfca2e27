import Derived.Test.YtfbbfmcggbapoaaGreatDoorL7
import Derived.Test.YtfbbfmcggbapoaaGreatDoorCards
import Derived.Test.YtfbbfmcggbapoaaGreatDoorTie
open Bool renaming and_eq_true->aG,and_false->aO,and_true->aJ,false_and->aP,false_or->aX,not_false->aK,not_true->aR,or_eq_false_iff->eH,or_eq_true->ez,or_false->aT,or_self->bg,or_true->aZ,true_and->aL,true_or->a8
open Classical renaming byContradiction->awT
open Decidable renaming byContradiction->awU
open Go.Proofs.Tryz renaming prog->ak
open Int renaming cast_ofNat_Int->bQ,reduceEq->dB,toNat_natCast->gx
open List renaming all_eq_true->ba,append_assoc->ay,append_nil->ai,cons_append->al,drop_eq_nil_of_le->dq,flatMap_nil->aj,getElem?_cons_succ->cu,getElem?_cons_zero->aI,getElem?_eq_some_iff->az,getElem?_map->ae,getElem?_take_of_lt->hH,headD_cons->a7,length_append->ab,length_cons->af,length_map->aC,length_nil->ah,length_take->eK,map_append->fa,map_cons->bo,map_map->avP,map_nil->dR,mem_iff_getElem?->br,mem_map->dS,mem_of_getElem?->aw,mem_of_mem_take->awJ,mem_singleton->ei,nil_append->aq,take_add_one->cg,take_length->aE,take_of_length_le->b8,take_zero->dF
open Nat renaming le_of_ble_eq_true->gP,le_refl->aA,le_trans->gw,lt_or_ge->bn,not_lt_zero->bR,zero_add->dc,zero_le->aY
open Option renaming map_some->bU
open Option.some renaming injEq->aD
set_option linter.all false
set_option maxRecDepth 100000
set_option maxHeartbeats 4000000
section
namespace Go.Proofs.YtfbbfmcggbapoaaGreatDoor
open Go.Eng
variable [bJ]
open Nat renaming reduceAdd -> zA, reduceLT -> zB, reduceLeDiff -> zC, reduceMul -> zD, reduceEqDiff -> zE, reduceSub -> zF
section
theorem YJ {d:Dc} (hk:0<=d.kind/\d.kind<=2):CM d=if (d.params.any fun p=>!iv p.name)=true then false else if d.kind=2 then (!decide (d.mod=⟨#[]⟩)&&lD d.mod&&(dC d.name&&dC d.target||iv d.name&&iv d.target))
  else if d.kind=0 then iv d.name else dC d.name:=by
 rw [OG];generalize (d.params.any fun p=>!iv p.name)=p4;generalize lD d.mod=mb;generalize decide (d.mod=⟨#[]⟩)=mo;generalize dC d.name=n1;generalize dC d.target=n2;generalize iv d.name=n3;generalize iv d.target=n4;have:d.kind=0\/d.kind=1\/d.kind=2:=by omega
 rcases this with h|h|h <;> simp only [h,dB,if_true,if_false]
 ·cases p4 <;> simp
 ·cases p4 <;> simp
 cases p4 <;> cases mb <;> cases mo <;> cases n1 <;> cases n2 <;> cases n3 <;> cases n4 <;> rfl
section
attribute [local go_sem] aC cY
theorem QV (d:Dc) (hk:0<=d.kind/\d.kind<=2) (hw:d.wt<=1048576):Cn 216 [ct d] (bl (CM d)):=by
 refine cM [] 59 [.tmp 2] Tryz.func216 Tryz.call216 fun K hK=>?_;have si:d.wt=1+d.name.size+d.note.size+aU Pm.wt d.params+d.lower.wt+d.upper.wt+d.type.wt+d.expr.wt+d.mod.size+d.target.size:=rfl;have hp:d.params.length<=1048576:=by have:=bB Pm.wt (fun l=>by unfold Pm.wt;omega) d.params;omega
 have gi:=YJ hk;obtain⟨n1,Wa⟩:=gz (dC d.name);obtain⟨n2,hn2⟩:=gz (dC d.target);obtain⟨n3,hn3⟩:=gz (iv d.name);obtain⟨n4,hn4⟩:=gz (iv d.target);obtain⟨mb,hmb⟩:=gz (lD d.mod);rw [Wa,hn2,hn3,hn4,hmb] at gi;simp only [dD,ct,au,aH];simp only [go_sem];refine di tt_ok [] [3] 1 [1] (fun vs=>((d.params.length:Int)-Go.Eng.intOf (vs.headD .undef)).toNat) (fun vs=>∃ i:Nat,vs=[num i]/\i<=d.params.length/\∀ j<i,∀ p,d.params[j]?=some p->(!iv p.name)=false) (by omega) (by simp only [go_sem]) (⟨0,rfl,aY _,fun j hj=>absurd hj (bR j)⟩) fun vs hI Z1 dm=>?_;obtain⟨i,rfl,hi,cZ⟩:=hI;simp only [go_sem];apply bE <;> intro sB;·have qU:=jq sB;have lF:=bj i (by omega);obtain⟨p,hx⟩:=gA qU;have bH:=qU;simp only [lF,hx,ae,cH,au,al,aq,go_sem];refine cL (mZ _) ?_;simp only [lF,hx,ae,cH,au,al,aq,go_sem];apply bE <;> intro qQ;(·rw [gH (ka hx qQ)] at gi;simp only [lF,hx,ae,cH,au,al,aq,go_sem];exact hK _ (yJ bl (by clear hK;first|exact gi.symm|(rw [gi];clear gi;first|rfl|(simp only [*,aR,aK,aL,aJ,aP,aO,a8,aZ,aX,aT,bg];done)|(simp_all;done)))));simp only [lF,hx,ae,cH,au,al,aq,go_sem];refine dm _ (fN (by omega) (by simp only [lF,hx,ae,cH,au,al,aq,go_sem]) ?_ ?_) <;> simp only [eO,lk,reduceIte,zE];(·refine⟨i+1,rfl,bH,fun j hj=>?_⟩;(rcases bn j i with h|h);(·exact cZ j h);(obtain rfl:j=i:=by omega);intro y hy;rw [hx] at hy;cases hy;exact qQ);simp only [Go.Eng.intOf,a7];omega
 have fP:=ki sB;rw [g5 (by rw [any_none fun j hj=>cZ j (by omega)];simp)] at gi;simp only [go_sem];apply bE <;> intro yQ;·rw [gH (qB yQ)] at gi;repeat' (simp only [go_sem];first|apply bE <;> intro hg|refine cL (by have h:=wb d.mod (by omega);rw [hmb] at h;exact h) ?_|refine cL (by have h:=je d.name;rw [Wa] at h;exact h) ?_|refine cL (by have h:=je d.target;rw [hn2] at h;exact h) ?_|refine cL (by have h:=mZ d.name;rw [hn3] at h;exact h) ?_|refine cL (by have h:=mZ d.target;rw [hn4] at h;exact h) ?_|(exact hK _ (yJ bl (by clear hK;first|exact gi.symm|(rw [gi];clear gi;first|rfl|(simp only [*,aR,aK,aL,aJ,aP,aO,a8,aZ,aX,aT,bg];done)|(simp_all;done))))))
 rw [g5 (k9 yQ)] at gi;simp only [go_sem];apply bE <;> intro wu;·rw [gH (qB wu)] at gi;simp only [go_sem];refine cL (by have h:=mZ d.name;rw [hn3] at h;exact h) ?_;simp only [go_sem];exact hK _ (yJ bl (by clear hK;first|exact gi.symm|(rw [gi];clear gi;first|rfl|(simp only [*,aR,aK,aL,aJ,aP,aO,a8,aZ,aX,aT,bg];done)|(simp_all;done))))
 rw [g5 (k9 wu)] at gi;simp only [go_sem];refine cL (by have h:=je d.name;rw [Wa] at h;exact h) ?_;simp only [go_sem];exact hK _ (yJ bl (by clear hK;first|exact gi.symm|(rw [gi];clear gi;first|rfl|(simp only [*,aR,aK,aL,aJ,aP,aO,a8,aZ,aX,aT,bg];done)|(simp_all;done))))
end
end
theorem Hw {d:Dc} (h:od d=true):0<=d.kind/\d.kind<=2:=by
 by_cases h0:d.kind=0;·omega
 by_cases h1:d.kind=1;·omega
 by_cases h2:d.kind=2;·omega
 rw [yh,g5 h0,g5 h1,g5 h2] at h;simp at h
theorem QW (d:Dc):(decide (d.kind<0)||decide (2<d.kind) || !od d) = !od d:=by cases h:od d with|false=>simp|true =>have:=Hw h;rw [decide_eq_false (by omega),decide_eq_false (by omega)];rfl
theorem Vs {x:Ex} (h:mL x=true):x = .mk 0 ⟨#[]⟩ ⟨#[]⟩ ⟨#[]⟩ 0 [] [] []:=by rw [<- QU] at h;exact awT fun hn=>by rw [cU hn] at h;cases h
theorem KD {x:Ex} (h:mL x=true):sg x=0:=by
 have e:=Vs h;subst e;unfold sg;rw [g5 (by decide)];have hn:Ex.nodes (.mk 0 ⟨#[]⟩ ⟨#[]⟩ ⟨#[]⟩ 0 [] [] [])=[.mk 0 ⟨#[]⟩ ⟨#[]⟩ ⟨#[]⟩ 0 [] [] []]:=by rw [Ex.dZ];rfl
 rw [hn];have he:ou (.mk 0 ⟨#[]⟩ ⟨#[]⟩ ⟨#[]⟩ 0 [] [] [])=0:=rfl;simp [cx,he]
theorem Vt {d:Dc} (h:od d=true) (h1:¬ d.kind=1):sg d.expr=0:=by
 have hk:=Hw h;rw [yh] at h;have:d.kind=0\/d.kind=2:=by omega
 rcases this with h0|h2
 ·rw [gH h0] at h;simp only [aG] at h;exact KD h.2.1.1.2
 rw [g5 (by omega),g5 (by omega),gH h2] at h;simp only [aG] at h;exact KD h.2.2
theorem Fq:∀ {l:List g6} {j i:Nat} {a:g6},j<i->l[j]?=some a->l[i]?=some a->qN l=true
 | [],j,i,a,_,h,_=>by simp at h
 | b :: r,0,i+1,a,_,h1,h2=>by
  simp only [aI,aD] at h1
  subst h1
  rw [cu] at h2
  unfold qN
  rw [AX.2 (aw h2)];rfl
 | b :: r,j+1,i+1,a,h,h1,h2=>by
  rw [cu] at h1 h2
  unfold qN
  rw [Fq (Nat.lt_of_succ_lt_succ h) h1 h2,aZ]
theorem QX {ps:List Pm} {i:Nat} {p:Pm} (hx:ps[i]?=some p) (h:qN ((ps.take i).map Pm.name)=false) (hn:∀ j<i,∀ z,ps[j]?=some z->decide (z.name=p.name)=false):qN ((ps.take (i+1)).map Pm.name)=false:=by
 have e:ps.take (i+1)=ps.take i++[p]:=by rw [cg,hx];rfl
 rw [e,fa,bo,dR,yW,h,aX];unfold qk;rw [List.any_map];refine zb fun j hj z hz=>?_;have:=hn j hj z hz;simp only [decide_eq_false_iff_not] at this;simp only [Function.comp_apply,decide_eq_false_iff_not];exact fun e=>this e.symm
section
section
attribute [local go_sem] bc cD aC cY ae ct aH al aq
theorem Vu (m:Md) (i0:Nat) (d:Dc) (hd:m.decls[i0]?=some d) (hw:m.wt<=1048576):Cn 139 [jJ m,num i0] (num (qY (m.decls.take i0) d)):=by
 refine cM [2,4] 126 [.tmp 4] Tryz.func139 Tryz.call139 fun K hK=>?_;have hmw:m.wt=1+m.path.size+aU Im.wt m.imports+aU Dc.wt m.decls:=rfl;have hdw:d.wt<=1048576:=by have:=bX Dc.wt hd;omega
 have Du:m.decls.length<=1048576:=by have:=bB Dc.wt (fun l=>by unfold Dc.wt;omega) m.decls;omega
 have pH:i0<m.decls.length:=(az.1 hd).1;have gN:((i0:Nat):Int)<((m.decls.length:Nat):Int):=by omega
 have si:d.wt=1+d.name.size+d.note.size+aU Pm.wt d.params+d.lower.wt+d.upper.wt+d.type.wt+d.expr.wt+d.mod.size+d.target.size:=rfl;have hp:d.params.length<=1048576:=by have:=bB Pm.wt (fun l=>by unfold Pm.wt;omega) d.params;omega
 obtain⟨acc,lS⟩:=gy ([d.lower,d.upper,d.type]++d.params.map Pm.bound);have Ve:acc.length=d.params.length+3:=by rw [lS];simp <;> omega
 have cZ:∀ u∈acc,u.wt<=1048576:=by rw [lS];exact fun u hu=>Dc.Fi si hdw hu
 have iH:qY (m.decls.take i0) d=(if od d=false then 1 else if 8<d.params.length\/65536<d.note.size then 7 else if CM d=false then 4 else if ((m.decls.take i0).any fun x=>decide (x.name=d.name))=true then 5 else if qN (d.params.map Pm.name)=true then 5 else if cx j0 ([d.lower,d.upper,d.type]++d.params.map Pm.bound)≠0 then cx j0 ([d.lower,d.upper,d.type]++d.params.map Pm.bound) else sg d.expr):=rfl;have hB:=Ky d hdw;have hq:=QW d;have hdk:=Hw (d:=d);have hdz:=Vt (d:=d);have hT:=fun hk=>QV d hk hdw;obtain⟨db,D5⟩:=gz (od d);obtain⟨tb,Re⟩:=gz (CM d);rw [D5] at hB hq hdk hdz iH;rw [Re] at hT iH;simp only [dD,ct,au,aH] at hB hT;simp only [oX,pW];have sl:=zY;simp only [sl,hd,gN,au,go_sem];refine eJ tt_ok [2,4] [30] 2 [1,2,4,5] (fun vs=>vs=[bl (decide (d.kind<0)||decide (2<d.kind) || !db)]) (fun Z1 dm=>?_) ?_;·simp only [sl,hd,gN,au,go_sem];refine lg tt_ok ?_;repeat' (simp only [sl,hd,gN,au,go_sem];first|apply bE <;> intro hg|refine cL (hB) ?_|(refine dm _ (fp (by omega) (by simp only [sl,hd,gN,au,go_sem]) ?_);simp only [eO,lk,reduceIte,zE];exact yJ (fun b=>[bl b]) (by clear hK dm;first|(simp only [*,aR,aK,aL,aJ,aP,aO,a8,aZ,aX,aT,bg];done)|(simp_all;done))))
 intro vs hJ;obtain rfl:=hJ;simp only [sl,hd,gN,au,go_sem];apply bE <;> intro ph;·rw [hq] at ph;rw [gH (by simpa using ph)] at iH;simp only [sl,hd,gN,au,go_sem];exact hK _ (yJ num iH.symm)
 rw [hq] at ph;have hdt:db=true:=by simpa using ph
 rw [g5 (by rw [hdt];simp)] at iH;have hk:=hdk hdt;replace hdz:=hdz hdt;simp only [sl,hd,gN,au,go_sem];refine eJ tt_ok [2,4] [40] 2 [1,2,4,5,30] (fun vs=>vs=[bl (decide ((8:Int)<(d.params.length:Int))||decide ((65536:Int)<(d.note.size:Int)))]) (fun Z2 lR=>?_) ?_;·simp only [sl,hd,gN,au,go_sem];refine lg tt_ok ?_;repeat' (simp only [sl,hd,gN,au,go_sem];first|apply bE <;> intro hg|(refine lR _ (fp (by omega) (by simp only [sl,hd,gN,au,go_sem]) ?_);simp only [eO,lk,reduceIte,zE];exact yJ (fun b=>[bl b]) (by clear hK lR;first|(simp only [*,aR,aK,aL,aJ,aP,aO,a8,aZ,aX,aT,bg];done)|(simp_all;done))))
 intro vs hJ;obtain rfl:=hJ;simp only [sl,hd,gN,au,go_sem];apply bE <;> intro ai6;·rw [gH (by simp only [ez,decide_eq_true_eq] at ai6;omega)] at iH;simp only [sl,hd,gN,au,go_sem];exact hK _ (yJ num iH.symm)
 rw [g5 (by simp only [eH,decide_eq_false_iff_not] at ai6;omega)] at iH;simp only [sl,hd,gN,au,go_sem];refine cL (hT hk) ?_;simp only [sl,hd,gN,au,go_sem];apply bE <;> intro wz;·rw [gH (by simpa using wz)] at iH;simp only [sl,hd,gN,au,go_sem];exact hK _ (yJ num iH.symm)
 rw [g5 (by simpa using wz)] at iH;simp only [sl,hd,gN,au,go_sem];refine di tt_ok [2,4] [6] 2 [1,2,5,30,40,43] (fun vs=>((i0:Int)-Go.Eng.intOf (vs.headD .undef)).toNat) (fun vs=>∃ k:Nat,vs=[num k]/\k<=i0/\∀ j<k,∀ z,m.decls[j]?=some z->decide (z.name=d.name)=false) (by omega) (by simp only [sl,hd,gN,au,go_sem]) (⟨0,rfl,aY _,fun j hj=>absurd hj (bR j)⟩) fun vs hI Z3 rP=>?_;obtain⟨k,rfl,hik,Am⟩:=hI;simp only [sl,hd,gN,au,go_sem];apply bE <;> intro DY;·(have KB:k<i0:=by have:=qB DY;omega);have DC:=bj k (by omega);obtain⟨y,hy⟩:=gB m.decls k (by omega);(have yj:((k:Nat):Int)<((m.decls.length:Nat):Int):=by omega);simp only [DC,hy,yj,sl,hd,gN,au,go_sem];refine lr [pN,pR,pN,pR,pN,pR,pN,pR,pN] 0 ?_;simp only [DC,hy,yj,sl,hd,gN,au,go_sem];apply bE <;> intro Hm;(·rw [gH (Kz KB hy Hm)] at iH;simp only [DC,hy,yj,sl,hd,gN,au,go_sem];exact hK _ (yJ num iH.symm));simp only [DC,hy,yj,sl,hd,gN,au,go_sem];refine rP _ (fN (by omega) (by simp only [DC,hy,yj,sl,hd,gN,au,go_sem]) ?_ ?_) <;> simp only [eO,lk,reduceIte,zE];(·refine⟨k+1,rfl,KB,fun j hj=>?_⟩;(rcases bn j k with h|h);(·exact Am j h);(obtain rfl:j=k:=by omega);intro z hz_;rw [hy] at hz_;cases hz_;exact Hm);simp only [Go.Eng.intOf,a7];omega
 have aou:i0<=k:=by have:=k9 DY;omega
 rw [g5 (by rw [zb fun j hj=>Am j (by omega)];simp)] at iH;simp only [sl,hd,gN,au,go_sem];refine di tt_ok [2,4] [7] 2 [5,30,40,43,46,57] (fun vs=>((d.params.length:Int)-Go.Eng.intOf (vs.headD .undef)).toNat) (fun vs=>∃ i:Nat,vs=[num i]/\i<=d.params.length/\qN ((d.params.take i).map Pm.name)=false) (by omega) (by simp only [sl,hd,gN,au,go_sem]) (⟨0,rfl,aY _,rfl⟩) fun vs hI Z4 y2=>?_;obtain⟨i,rfl,hi,aeF⟩:=hI;simp only [sl,hd,gN,au,go_sem];apply bE <;> intro ai7;·have qU:=jq ai7;have lF:=bj i (by omega);obtain⟨p,hx⟩:=gA qU;(have Eb:((i:Nat):Int)<((d.params.length:Nat):Int):=by omega);simp only [lF,hx,Eb,cH,au,sl,hd,gN,au,go_sem];refine di tt_ok [2,4] [8] 2 [5,7,30,40,43,46,57,58,59,60,61,62] (fun vs=>((i:Int)-Go.Eng.intOf (vs.headD .undef)).toNat) (fun vs=>∃ k:Nat,vs=[num k]/\k<=i/\∀ j<k,∀ z,d.params[j]?=some z->decide (z.name=p.name)=false) (by omega) (by simp only [lF,hx,Eb,cH,au,sl,hd,gN,au,go_sem]) (⟨0,rfl,aY _,fun j hj=>absurd hj (bR j)⟩) fun vs hI Z5 HG=>?_;obtain⟨k,rfl,hik,Am⟩:=hI;simp only [lF,hx,Eb,cH,au,sl,hd,gN,au,go_sem];apply bE <;> intro J7;(·(have KB:k<i:=by have:=qB J7;omega);have DC:=bj k (by omega);obtain⟨y,hy⟩:=gB d.params k (by omega);(have Vv:((k:Nat):Int)<((d.params.length:Nat):Int):=by omega);simp only [lF,hx,Eb,cH,au,DC,hy,Vv,hx,cH,au,sl,hd,gN,au,go_sem];refine lr [pN,pR,pN,pR,pN,pR,pN,pR,pN,pR,pN,pR,pN] 0 ?_;simp only [lF,hx,Eb,cH,au,DC,hy,Vv,hx,cH,au,sl,hd,gN,au,go_sem];apply bE <;> intro Kk;(·have HC:qN (d.params.map Pm.name)=true:=Fq KB (a:=p.name) (by rw [ae,hy,bU,qB Kk]) (by rw [ae,hx];rfl);rw [gH HC] at iH;simp only [lF,hx,Eb,cH,au,DC,hy,Vv,hx,cH,au,sl,hd,gN,au,go_sem];exact hK _ (yJ num iH.symm));simp only [lF,hx,Eb,cH,au,DC,hy,Vv,hx,cH,au,sl,hd,gN,au,go_sem];refine HG _ (fN (by omega) (by simp only [lF,hx,Eb,cH,au,DC,hy,Vv,hx,cH,au,sl,hd,gN,au,go_sem]) ?_ ?_) <;> simp only [eO,lk,reduceIte,zE];(·refine⟨k+1,rfl,KB,fun j hj=>?_⟩;(rcases bn j k with h|h);(·exact Am j h);(obtain rfl:j=k:=by omega);intro z hz_;rw [hy] at hz_;cases hz_;exact Kk);simp only [Go.Eng.intOf,a7];omega);(have aou:i<=k:=by have:=k9 J7;omega);simp only [lF,hx,Eb,cH,au,sl,hd,gN,au,go_sem];refine y2 _ (fN (by omega) (by simp only [lF,hx,Eb,cH,au,sl,hd,gN,au,go_sem]) ?_ ?_) <;> simp only [eO,lk,reduceIte,zE];(·exact⟨i+1,rfl,qU,QX hx aeF fun j hj=>Am j (by omega)⟩);simp only [Go.Eng.intOf,a7];omega
 have YI:i=d.params.length:=by have h_:¬ i<d.params.length:=(by simpa using ai7);omega
 rw [YI,aE] at aeF;rw [g5 (by rw [aeF];simp)] at iH;simp only [sl,hd,gN,au,go_sem];refine ij tt_ok [2,4] (fun a:Nat×Nat=>[(5,.ptr 1 0),(9,.ms 2 a.2 0 (a.1+3)),(10,num a.1)]) (fun a:Nat×Nat=>[.box [str m.path,.slice (m.imports.map eI),.slice (m.decls.map ct)],.box (dC_ d (.slice (d.params.map cH)) d.mod),.rows a.2 5 (cV (ub d a.1))]) (fun a=>d.params.length-a.1) (fun a=>a.1<=d.params.length) ((0,0)) 3 (da (by omega) (by simp only [sl,hd,gN,au,ub,dF,dR,ai,cV,aF,au,bQ,go_sem] <;> rfl)) (aY _) ?_;rintro⟨j,ej⟩ hj;try dsimp only at hj
 try dsimp only
 intro Z6 N9;simp only [sl,hd,gN,au,go_sem];apply bE <;> intro ai8;·have ai9:=jq ai8;obtain⟨p,hx⟩:=gA ai9;have gv:=bj j (by omega);(have EN:j+3<=34359738367:=by omega);(have aew:j<=34359738364:=by omega);(have DG:((j:Nat):Int)<((d.params.length:Nat):Int):=by omega);have Pu:ub d (j+1)=ub d j++[p.bound]:=Fj hx;have Lp:=Kx d (j:=j) (by omega);have eW:iM [V.agg (tC p.bound)] 0 5=true:=rfl;simp only [hx,cH,au,gv,EN,aew,DG,Lp,eW,sl,hd,gN,au,go_sem];refine N9 _ ⟨(j+1,ej+1),?_,?_,da (by omega) (by (simp [Pu,Lp,ax,aF,au,Gt,lk,tz,xq,aQ,a6]))⟩;(·exact ai9);dsimp only;omega
 have fP:j=d.params.length:=by have:=k9 ai8;omega
 subst fP;have U3:ub d d.params.length=acc:=by rw [lS];exact Kw d
 rw [U3,<- Ve];simp only [sl,hd,gN,au,go_sem];refine di tt_ok [2,4] [11] 3 [5,9,30,40,43,46,57,62,67,82,94] (fun vs=>((acc.length:Int)-Go.Eng.intOf (vs.headD .undef)).toNat) (fun vs=>∃ i:Nat,vs=[num i]/\i<=acc.length/\cx j0 acc=cx j0 (acc.drop i)) (by omega) (by simp only [sl,hd,gN,au,go_sem]) (⟨0,rfl,aY _,rfl⟩) fun vs hI Z7 J1=>?_;obtain⟨i,rfl,hi,hinv⟩:=hI;simp only [sl,hd,gN,au,go_sem];apply bE <;> intro Kq;·have qU:=jq Kq;have lF:=bj i (by omega);obtain⟨u,hu⟩:=gA qU;(have FO:((i:Nat):Int)<((acc.length:Nat):Int):=by omega);have oh:=uH j0 hu;simp only [FO,cK,hu,aF,au,lF,sl,hd,gN,au,go_sem];refine cL (by have h:=qn u (cZ u (aw hu));rw [aF] at h;simp only [xM,tM,dM,au] at h;exact h) ?_;simp only [FO,cK,hu,aF,au,lF,sl,hd,gN,au,go_sem];apply bE <;> intro aaQ;(·(have dI:j0 u≠0:=by simpa using aaQ);(have hz:cx j0 ([d.lower,d.upper,d.type]++d.params.map Pm.bound)=j0 u:=by rw [<- lS,hinv,oh,g5 dI]);rw [gH (by rw [hz];exact dI),hz] at iH;simp only [FO,cK,hu,aF,au,lF,sl,hd,gN,au,go_sem];exact hK _ (yJ num iH.symm));(have hz:j0 u=0:=by simpa using aaQ);simp only [FO,cK,hu,aF,au,lF,sl,hd,gN,au,go_sem];refine J1 _ (fN (by omega) (by simp only [FO,cK,hu,aF,au,lF,sl,hd,gN,au,go_sem]) ?_ ?_) <;> simp only [eO,lk,reduceIte,zE];(·exact⟨i+1,rfl,qU,by rw [hinv,oh,gH hz]⟩);simp only [Go.Eng.intOf,a7];omega
 have fP:=ki Kq;have hz:cx j0 ([d.lower,d.upper,d.type]++d.params.map Pm.bound)=0:=by rw [<- lS,hinv,dq (by omega)];rfl
 rw [g5 fun h_=>h_ hz] at iH;simp only [sl,hd,gN,au,go_sem];apply bE <;> intro aja;·simp only [sl,hd,gN,au,go_sem];refine cL (by have h:=vu d.expr (by omega);rw [aS] at h;simp only [xM,tM,dM,aH] at h;exact h) ?_;simp only [sl,hd,gN,au,go_sem];exact hK _ (yJ num iH.symm)
 rw [hdz (k9 aja)] at iH;simp only [sl,hd,gN,au,go_sem];exact hK _ (yJ num iH.symm)
end
end
section
section
attribute [local go_sem] aC
theorem AB (m:Md) (hw:m.wt<=1048576):Cn 55 [jJ m] (.fZ [num (qP m).1,num (qP m).2]):=by
 refine cM [3] 45 [.tmp 2,.tmp 3] Tryz.func55 Tryz.call55 fun K hK=>?_;have hmw:m.wt=1+m.path.size+aU Im.wt m.imports+aU Dc.wt m.decls:=rfl;have hmb:=m.eQ;have Du:m.decls.length<=1048576:=by have:=bB Dc.wt (fun l=>by unfold Dc.wt;omega) m.decls;omega
 have FO:m.imports.length<=1048576:=by have:=bB Im.wt (fun l=>by unfold Im.wt;omega) m.imports;omega
 have iH:yZ m=(if dH m.path=false then 4 else if 16<m.imports.length\/64<m.decls.length\/4096<m.size then 7 else (ig (qZ m.path) [] m.imports).2):=rfl;have h8:=Fa m (by omega);have h89:=KA m FO (fun x hx=>by obtain⟨i,hi⟩:=br.1 hx;have:=bX Im.wt hi;have e:x.wt=1+x.path.size+x.alias.size:=rfl;omega);have h90:=fun i0 d hd=>Vu m i0 d hd hw;simp only [oX,pW] at h8 h89 h90 ⊢;have sl:=zY;simp only [go_sem];refine cL (wa m.path (by omega)) ?_;simp only [go_sem];apply bE <;> intro jf;·(have dI:yZ m=4:=by rw [iH,gH (by simpa using jf)]);(have cj:qP m=(-1,4):=by unfold qP;rw [gH (by rw [dI];decide),dI]);simp only [go_sem];exact hK _ (by rw [cj] <;> rfl)
 rw [g5 (by simpa using jf)] at iH;simp only [go_sem];refine eJ tt_ok [3] [25] 1 [0,1,2,3,7,8,9,10] (fun vs=>vs=[bl (decide ((16:Int)<(m.imports.length:Int))||decide ((64:Int)<(m.decls.length:Int))||decide ((4096:Int)<(m.size:Int)))]) (fun Z1 dm=>?_) ?_;·simp only [go_sem];refine lg tt_ok ?_;repeat' (simp only [go_sem];first|apply bE <;> intro hg|refine cL (⟨_,rfl,h8⟩) ?_|(refine dm _ (fp (by omega) (by simp only [go_sem]) ?_);simp only [eO,lk,reduceIte,zE];exact yJ (fun b=>[bl b]) (by clear hK dm;first|(simp only [*,aR,aK,aL,aJ,aP,aO,a8,aZ,aX,aT,bg];done)|(simp_all;done))))
 intro vs hJ;obtain rfl:=hJ;simp only [go_sem];apply bE <;> intro x3;·(have dI:yZ m=7:=by rw [iH,gH (by simp only [ez,decide_eq_true_eq] at x3;omega)]);(have cj:qP m=(-1,7):=by unfold qP;rw [gH (by rw [dI];decide),dI]);simp only [go_sem];exact hK _ (by rw [cj] <;> rfl)
 rw [g5 (by simp only [eH,decide_eq_false_iff_not] at x3;omega)] at iH;simp only [go_sem];refine cL (h89) ?_;simp only [go_sem];apply bE <;> intro ya;·(have dI:yZ m≠0:=by rw [iH];simpa using ya);(have cj:qP m=(-1,(ig (qZ m.path) [] m.imports).2):=by unfold qP;rw [gH dI,iH]);simp only [go_sem];exact hK _ (by rw [cj] <;> rfl)
 have he0:yZ m=0:=by rw [iH];simpa using ya
 have hcm:qP m=((((ig qY [] m.decls).1:Nat):Int),(ig qY [] m.decls).2):=by unfold qP;rw [g5 (by simp [he0])]
 simp only [go_sem];refine di tt_ok [3] [5] 1 [1,10,25,29] (fun vs=>((m.decls.length:Int)-Go.Eng.intOf (vs.headD .undef)).toNat) (fun vs=>∃ i:Nat,vs=[num i]/\i<=m.decls.length/\ig qY [] m.decls=mD i (ig qY (m.decls.take i) (m.decls.drop i))) (by omega) (by simp only [go_sem]) (⟨0,rfl,aY _,uc.symm⟩) fun vs hI Z2 lR=>?_;obtain⟨i,rfl,hi,hinv⟩:=hI;simp only [go_sem];apply bE <;> intro Vq;·have qU:=jq Vq;have lF:=bj i (by omega);obtain⟨d,hx⟩:=gA qU;simp only [lF,go_sem];refine cL (h90 i d hx) ?_;simp only [lF,go_sem];apply bE <;> intro Kc;(·(have dI:qY (m.decls.take i) d≠0:=by simpa using Kc);(have cj:qP m=((i:Int),qY (m.decls.take i) d):=by rw [hcm,hinv,Fl qY hx rfl dI]);simp only [lF,go_sem];exact hK _ (by rw [cj] <;> rfl));(have hz:qY (m.decls.take i) d=0:=by simpa using Kc);simp only [lF,go_sem];refine lR _ (fN (by omega) (by simp only [lF,go_sem]) ?_ ?_) <;> simp only [eO,lk,reduceIte,zE];(·exact⟨i+1,rfl,qU,hinv.trans (Dn qY hx hz)⟩);simp only [Go.Eng.intOf,a7];omega
 have YI:i=m.decls.length:=by have h_:¬ i<m.decls.length:=(by simpa using Vq);omega
 have cj:qP m=(0,0):=by rw [hcm,hinv,dq (by omega)];rfl
 simp only [go_sem];exact hK _ (by rw [cj] <;> rfl)
end
end
section
section
attribute [local go_sem] aC
theorem Vw (hG:bJ.g=some 0) (m:Md) (jk:m.wt<=1048576) (hr:∀ d∈m.decls,C7 d.expr):Cn 16 [jJ m] (.fZ [str (gh (qP m).2 (m.decls.all sy) (Bb nQ m)).1,num (gh (qP m).2 (m.decls.all sy) (Bb nQ m)).2]):=by
 refine cM [] 73 [.tmp 2,.tmp 3] Tryz.func16 Tryz.call16 fun K hK=>?_;have hC:=AB m jk;have X9:=m.n5;have a1:=bB Im.wt (fun a=>by unfold Im.wt;omega) m.imports;have a2:=bB Dc.wt (fun a=>by unfold Dc.wt;omega) m.decls;have FO:=OI m;obtain⟨pa,wR⟩:=gz (m.decls.all sy);have hW:∀ d∈m.decls,d.wt<=1048576:=fun d hd=>by obtain⟨i,hi⟩:=br.1 hd;have q:=bX Dc.wt hi;omega
 have HJ:(⟨#[109,111,100,117,108,101,32]⟩:g6)=bs [109,111,100,117,108,101,32]:=rfl;have HK:(⟨#[10]⟩:g6)=bs [10]:=rfl;have HL:(⟨#[105,109,112,111,114,116,32]⟩:g6)=bs [105,109,112,111,114,116,32]:=rfl;have HM:(⟨#[32,97,115,32]⟩:g6)=bs [32,97,115,32]:=rfl;have Hx:=adX [109,111,100,117,108,101,32] m.path (by simp only [af,ah];omega);have Fs:=He ([109,111,100,117,108,101,32]++bt m.path) [10] (by (try simp only [ab,af,ah,bA]);omega);obtain⟨H0,hH0⟩:=gy ([109,111,100,117,108,101,32]++bt m.path++[10]);rw [<- hH0] at Fs;simp only [dD] at Hx Fs;have hHz:=yJ List.length hH0;simp only [ab,af,ah,bA] at hHz;simp only [jJ] at hC ⊢;simp only [HJ,HK,HL,HM,Hx,Fs,go_sem];refine cL (hC) ?_;simp only [HJ,HK,HL,HM,Hx,Fs,go_sem];apply bE <;> intro mc;·(have he:(qP m).2≠0:=by simpa using mc);(have Ea:gh (qP m).2 (m.decls.all sy) (Bb nQ m)=(⟨#[]⟩,(qP m).2):=by unfold gh;rw [gH he]);simp only [HJ,HK,HL,HM,Hx,Fs,go_sem];exact hK _ (by rw [Ea])
 have he:(qP m).2=0:=by simpa using mc
 have hI:=MT he;simp only [HJ,HK,HL,HM,Hx,Fs,go_sem];refine ij tt_ok [] (fun i:Nat=>[(1,.ptr 0 0),(6,str (bs (H0++(m.imports.take i).flatMap Ba))),(7,num i)]) (fun i:Nat=>[.box [str m.path,.slice (m.imports.map eI),.slice (m.decls.map ct)]]) (fun i=>m.imports.length-i) (fun i=>i<=m.imports.length) (0) 1 (da (by omega) (by simp only [HJ,HK,HL,HM,Hx,Fs,dF,aj,ai,bQ,go_sem] <;> rfl)) (aY _) ?_;intro i hi;intro Z1 dm;simp only [HJ,HK,HL,HM,Hx,Fs,go_sem];apply bE <;> intro x3;·have bH:=jq x3;have hw:=bj i (by omega);obtain⟨x,dd⟩:=gA bH;(have bF:(i:Int)<(m.imports.length:Int):=by omega);have eW:=l5 Ba dd;have nX:=uD Ba m.imports (i+1);rw [eW,ab] at nX;(have him:(Ba x).length=12+x.path.size+x.alias.size:=by unfold Ba;simp only [ab,af,ah,bA];omega);have c1:=He (H0++(m.imports.take i).flatMap Ba) ([105,109,112,111,114,116,32]) (by (try simp only [ab,af,ah,bA]);omega);have c2:=adX (H0++(m.imports.take i).flatMap Ba++[105,109,112,111,114,116,32]) x.path (by (try simp only [ab,af,ah,bA]);omega);have c3:=He (H0++(m.imports.take i).flatMap Ba++[105,109,112,111,114,116,32]++bt x.path) ([32,97,115,32]) (by (try simp only [ab,af,ah,bA]);omega);have c4:=adX (H0++(m.imports.take i).flatMap Ba++[105,109,112,111,114,116,32]++bt x.path++[32,97,115,32]) x.alias (by (try simp only [ab,af,ah,bA]);omega);have c5:=He (H0++(m.imports.take i).flatMap Ba++[105,109,112,111,114,116,32]++bt x.path++[32,97,115,32]++bt x.alias) ([10]) (by (try simp only [ab,af,ah,bA]);omega);simp only [hw,ae,dd,bF,eI,c1,c2,c3,c4,c5,HJ,HK,HL,HM,Hx,Fs,go_sem];refine lr [pN,pN,pN,pR,pN,pR,pN,pR,pN,pN,pN,pR,pN,pR,pN,pR,pN,pN,pN] 0 ?_;simp only [hw,ae,dd,bF,eI,c1,c2,c3,c4,c5,HJ,HK,HL,HM,Hx,Fs,go_sem];refine dm _ ⟨i+1,?_,?_,da (by omega) (by simp only [hw,eW,Ba,ay,go_sem])⟩;(·exact bH);omega
 have fP:=ki x3;have jx:i=m.imports.length:=by omega
 rw [jx,aE];obtain⟨HI,hHI⟩:=gy (H0++m.imports.flatMap Ba);have hHl:=yJ List.length hHI;simp only [ab,af,ah,bA] at hHl;rw [<- hHI];have hmd:Bb nQ m=HI++m.decls.flatMap fun d=>A9 (nQ d) d:=by rw [hHI,hH0];unfold Bb;simp only [ay]
 simp only [HJ,HK,HL,HM,Hx,Fs,go_sem];refine ij tt_ok [] (fun i:Nat=>[(1,.ptr 0 0),(6,str (bs (HI++(m.decls.take i).flatMap (fun d=>A9 (nQ d) d)))),(8,num i)]) (fun i:Nat=>[.box [str m.path,.slice (m.imports.map eI),.slice (m.decls.map ct)]]) (fun i=>m.decls.length-i) (fun i=>i<=m.decls.length/\∀ j<i,∀ d,m.decls[j]?=some d->sy d=true) (0) 1 (da (by omega) (by simp only [HJ,HK,HL,HM,Hx,Fs,dF,aj,ai,bQ,go_sem] <;> rfl)) (⟨aY _,fun j hj=>absurd hj (bR j)⟩) ?_;rintro i ⟨hi,cZ⟩;intro Z2 lR;simp only [HJ,HK,HL,HM,Hx,Fs,go_sem];apply bE <;> intro ajb
 ·have bH:=jq ajb;have hw:=bj i (by omega);obtain⟨d,dd⟩:=gA bH;have X7:=aw dd;have bF:(i:Int)<(m.decls.length:Int):=by omega
  obtain⟨cd,Q8⟩:=hI.2.2 d X7;have hSd:=Vo d (hW d X7);rw [Vk Q8] at hSd;simp only [dD,ct,au,aH,ax,aB,aM] at hSd;simp only [hw,ae,dd,bF,ct,au,aH,ax,aB,aM,al,aq,HJ,HK,HL,HM,Hx,Fs,go_sem];refine cL (hSd) ?_;simp only [hw,ae,dd,bF,ct,au,aH,ax,aB,aM,al,aq,HJ,HK,HL,HM,Hx,Fs,go_sem];apply bE <;> intro JW;·have hpf:m.decls.all sy=false:=yf dd (by simpa using JW);(have Ea:gh (qP m).2 (m.decls.all sy) (Bb nQ m)=(⟨#[]⟩,1):=by unfold gh;simp [he,hpf]);simp only [hw,ae,dd,bF,ct,au,aH,ax,aB,aM,al,aq,HJ,HK,HL,HM,Hx,Fs,go_sem];exact hK _ (by rw [Ea])
  have hpd:sy d=true:=by simpa using JW
  have eW:(m.decls.take (i+1)).flatMap (fun d=>A9 (nQ d) d)=(m.decls.take i).flatMap (fun d=>A9 (nQ d) d)++(dcT (nQ d) d++[10]):=l5 (fun d=>A9 (nQ d) d) dd;have hpT:∀ y∈m.decls.take (i+1),sy y=true:=fun y hy=>by obtain⟨j,hj⟩:=br.1 hy;have hj1:=(az.1 hj).1;rw [eK] at hj1;rw [hH (by omega)] at hj;(rcases bn j i with h|h);(·exact cZ j h y hj);(obtain rfl:j=i:=by omega);rw [dd] at hj;cases hj;exact hpd
  have nX:=OJ (l:=m.decls.take (i+1)) (fun y hy=>hI.2.2 y (awJ hy)) hpT (fun y hy=>hr y (awJ hy));have oh:=gG Dc.wt m.decls (i+1);rw [eW] at nX;simp only [ab,af,ah] at nX;have hDd:=Vl d (aez hG Q8 hpd (hr d X7) (hW d X7)) (by omega);simp only [dD,ct,au,aH,ax,aB,aM] at hDd;have c1:=He (HI++(m.decls.take i).flatMap (fun d=>A9 (nQ d) d)) (dcT (nQ d) d) (by simp only [ab];omega);have c2:=He (HI++(m.decls.take i).flatMap (fun d=>A9 (nQ d) d)++dcT (nQ d) d) [10] (by simp only [ab,af,ah];omega);simp only [hw,ae,dd,bF,ct,au,aH,ax,aB,aM,al,aq,c1,c2,HJ,HK,HL,HM,Hx,Fs,go_sem];refine cL (hDd) ?_;simp only [hw,ae,dd,bF,ct,au,aH,ax,aB,aM,al,aq,c1,c2,HJ,HK,HL,HM,Hx,Fs,go_sem];refine lR _ ⟨i+1,?_,?_,da (by omega) (by simp only [hw,eW,ay,go_sem])⟩
  ·exact⟨bH,fun j hj y hy=>by
   rcases bn j i with h|h
   ·exact cZ j h y hy
   obtain rfl:j=i:=by omega
   rw [dd] at hy;cases hy;exact hpd⟩
  omega
 have fP:=ki ajb;have jx:i=m.decls.length:=by omega
 rw [jx,aE];have hpt:m.decls.all sy=true:=yg fun j hj a ha=>cZ j (by omega) a ha;have Ea:gh (qP m).2 (m.decls.all sy) (Bb nQ m)=gh 0 true (HI++m.decls.flatMap fun d=>A9 (nQ d) d):=by rw [he,hpt,hmd]
 simp only [HJ,HK,HL,HM,Hx,Fs,go_sem];refine cL (tZ (HI++(m.decls.flatMap fun d=>A9 (nQ d) d))) ?_;simp only [HJ,HK,HL,HM,Hx,Fs,go_sem];exact hK _ (by rw [Ea])
end
end
theorem aeG {n:FuncId} (h:dz ak n [] (bl true)):Cn n [] (bl true):=⟨_,rfl,h⟩
theorem YK (m:Md):MD m<=m.wt:=by
 have h:aU (fun d=>d.note.size+d.expr.rS) m.decls<=aU Dc.wt m.decls:=y9 fun d _=>by have h1:=ng _ d.expr (aA _);have h2:=d.n5;omega
 have h3:=m.n5;have h4:MD m=aU (fun d=>d.note.size+d.expr.rS) m.decls:=rfl;omega
theorem ajc (t:Ty) (x:Ex) (m:Md) (hwt:t.wt<=1048576) (hwx:x.wt<=1048576) (jk:m.wt<=1048576):Cn 10 [cA t,ca x,jJ m] (bl (adK t x m)):=by have h1:=x.eQ;have h2:=x.jT _ (aA _);have h3:=ng _ x (aA _);have h4:=m.n5;have h5:=bB Dc.wt (fun a=>by unfold Dc.wt;omega) m.decls;have h6:=YK m;refine adL t x m (gw t.de hwt) (by omega) (by omega) (by omega) (gw m.eQ jk) (by omega) (by omega) fun d hd=>?_;obtain⟨i,hi⟩:=br.1 hd;have q:=bX Dc.wt hi;have h7:=d.n5;have h8:=d.expr.de;have h9:=ng _ d.expr (aA _);omega
theorem lawPrints_ok (hG:bJ.g=some 0) (hP:bJ.uO 1=some jg) (haw:dz ak 9 [] (bl true)) (t:Ty) (x:Ex) (m:Md) (hwt:t.wt<=1048576) (hwx:x.wt<=1048576) (jk:m.wt<=1048576) (hr:C7 x) (hrm:∀ d∈m.decls,C7 d.expr):Cn 3 [cA t,ca x,jJ m] (bl true):=by refine cM [] 84 [.tmp 6] Tryz.func3 Tryz.call3 fun K hK=>?_;have ajf:=ajc t x m hwt hwx jk;have hA:=C4 hG t hwt MK;have hB:=UY t hwt;have hC:=Ka hG x hwx (UH hP hwx hr);have hD:=QO hG x hwx hr;have hE:=Dq hG m jk (fun h1 h2=>⟨aeC hP h1 h2 hrm jk,YF h1 h2 hrm jk⟩);have hF:=Vw hG m jk hrm;obtain⟨t1,e1⟩:=gz ((gh (j0 t) (kN t) t.pr).1);obtain⟨t2,e2⟩:=gz ((gh (j0 t) (kN t) t.pr).2);obtain⟨x1,e3⟩:=gz ((gh (sg x) (sj x) x.pr).1);obtain⟨x2,e4⟩:=gz ((gh (sg x) (sj x) x.pr).2);obtain⟨m1,e5⟩:=gz ((gh (qP m).2 (m.decls.all sy) (Bb nQ m)).1);obtain⟨m2,e6⟩:=gz ((gh (qP m).2 (m.decls.all sy) (Bb nQ m)).2);rw [e1,e2] at hA hB;rw [e3,e4] at hC hD;rw [e5,e6] at hE hF;simp only [aF,au,ax,aB,aS,aH,ax,aM,jJ] at ajf hA hB hC hD hE hF ⊢;simp only [cY,go_sem];refine cL (aeG haw) ?_;simp only [cY,go_sem];refine cL (ajf) ?_;repeat' (simp only [cY,go_sem];first|apply bE <;> intro hg|refine cL (hA) ?_|refine cL (hB) ?_|refine cL (hC) ?_|refine cL (hD) ?_|refine cL (hE) ?_|refine cL (hF) ?_|exact hK _ rfl)
section
section
attribute [local go_sem] aC List.length_range
theorem OL (s:g6) (hs:s.size<=65536) (n:Nat) (P ln:Nat->Nat) (kd:Nat->Int) (tx:Nat->g6) (h0:dz ak 73 [str s,num 0] (num (P 0))) (AZ:∀ k<n,P k<s.size/\P k+ln k<=1048576/\dz ak 74 [str (s.extract (P k) s.size)] (.fZ [.agg [num (kd k),str (tx k),num 0],num (ln k),num 0])) (hsk:∀ k<n,∃ d:Nat,P (k+1)=P k+ln k+d/\d<=65536/\dz ak 73 [str s,num ((P k+ln k:Nat):Int)] (num d)) (hn:n<=65536) (ajg:P n=s.size):Cn 25 [str s] (.fZ [.slice ((List.range n).map (fun k=>.agg [num (kd k),str (tx k),num (P k)])++[.agg [num 0,str ⟨#[]⟩,num s.size]]),num 0,num 0]):=by
 refine cM [] 52 [.tmp 2,.tmp 3,.tmp 4] Tryz.func25 Tryz.call25 fun K hK=>?_;have rJ:ak.underlying 9=some .string:=kr;have sl:=zY;obtain⟨tk,ajh⟩:∃ tk:Nat->V,tk=fun k=>.agg [num (kd k),str (tx k),num (P k)]:=⟨_,rfl⟩;simp only [sl,go_sem];apply bE <;> intro x9;·exact absurd (qB x9) (by omega)
 simp only [sl,go_sem];refine cL (⟨_,rfl,h0⟩) ?_;simp only [sl,go_sem];refine ij tt_ok [] (fun i:Nat=>[(0,str s),(2,.sc (.slice none 0 0)),(3,num 0),(4,num 0),(5,.ms 0 i 0 i),(6,num (P i))]) (fun i:Nat=>[.rows i 3 ((List.range i).map tk)]) (fun i=>n-i) (fun i=>i<=n) (0) 1 (da (by omega) (by simp only [sl,List.range_zero,dR,bQ,go_sem] <;> rfl)) (aY _) ?_;intro i hi;intro Z1 dm;simp only [sl,go_sem];apply bE <;> intro xY;·(have bH:i<n:=awU fun h_=>by (have h2_:i=n:=by omega);subst h2_;simp [ajg] at xY);obtain⟨ht1,ht2,ht3⟩:=AZ i bH;obtain⟨d,Wt,hd2,hd3⟩:=hsk i bH;have hcf:dy ak (fun a l=>Instr.sliceAt 9 a (some l) none none) (.sc (.string s)) (.sc (.int .i64 ((P i:Int))))=some (.sc (.string (s.extract ((P i:Int):Int).toNat s.size))):=K7 (P:=ak) (tt:=tt) (mem:=[]) (T:=9) s rJ .i64 ((P i:Int)) (by omega) (by omega);have gv:=gf (P i) (ln i) (by omega);have iR:=gf (P i+ln i) d (by omega);(have Vx:i<=34359738367:=by omega);simp only [hcf,gx,gv,iR,Vx,sl,go_sem];refine cL (⟨_,rfl,ht3⟩) ?_;simp only [hcf,gx,gv,iR,Vx,sl,go_sem];refine cL (⟨_,rfl,hd3⟩) ?_;simp only [hcf,gx,gv,iR,Vx,sl,go_sem];refine dm _ ⟨i+1,?_,?_,da (by omega) (by (simp only [List.range_succ,fa,bo,dR,ajh,Wt,ab,af,ah,dc,go_sem]))⟩;(·exact bH);omega
 have jx:i=n:=awU fun h_=>by have h2_:=(AZ i (by omega)).1;have h3_:=k9 xY;omega
 rw [jx,ajg];have Vx:n<=34359738367:=by omega
 subst ajh;simp only [Vx,ab,af,ah,dc,aE,sl,go_sem];exact hK _ (by rw [b8 (by simp)])
end
end
def jE:g6:=⟨#[40,40,97,41,32,45,32,40,98,41,41,32,45,32,40,99,32,45,32,49,41]⟩
def mJ (k:Nat):Nat:=([0,1,2,3,5,7,8,9,10,12,14,15,17,19,20,21]:List Nat).getD k 0
def Hy (k:Nat):Nat:=([1,1,1,1,1,1,1,1,1,1,1,1,1,1,1]:List Nat).getD k 0
def aeH (k:Nat):Int:=([6,6,1,6,6,6,1,6,6,6,6,1,6,3,6]:List Int).getD k 0
def aeI (k:Nat):g6:=([⟨#[40]⟩,⟨#[40]⟩,⟨#[97]⟩,⟨#[41]⟩,⟨#[45]⟩,⟨#[40]⟩,⟨#[98]⟩,⟨#[41]⟩,⟨#[41]⟩,⟨#[45]⟩,⟨#[40]⟩,⟨#[99]⟩,⟨#[45]⟩,⟨#[49]⟩,⟨#[41]⟩]:List g6).getD k ⟨#[]⟩
abbrev wA (k:Nat):Prop:=mJ k<jE.size/\mJ k+Hy k<=1048576/\dz ak 74 [str (jE.extract (mJ k) jE.size)] (.fZ [.agg [num (aeH k),str (aeI k),num 0],num (Hy k),num 0])
abbrev wB (k:Nat):Prop:=∃ d:Nat,mJ (k+1)=mJ k+Hy k+d/\d<=65536/\dz ak 73 [str jE,num ((mJ k+Hy k:Nat):Int)] (num d)
theorem aoB (hG:bJ.g=some 0):dz ak 73 [str jE,num 0] (num 0):=cB bG (cq hG) 2000 kr
theorem aji (hG:bJ.g=some 0):wA 0:=⟨qB kr,qB kr,by rw [show jE.extract (mJ 0) jE.size=⟨#[40,40,97,41,32,45,32,40,98,41,41,32,45,32,40,99,32,45,32,49,41]⟩ from kr];exact cB bG (cq hG) 2000 kr⟩
theorem ajj (hG:bJ.g=some 0):wB 0:=⟨0,kr,by decide,cB bG (cq hG) 2000 kr⟩
theorem ajk (hG:bJ.g=some 0):wA 1:=⟨qB kr,qB kr,by rw [show jE.extract (mJ 1) jE.size=⟨#[40,97,41,32,45,32,40,98,41,41,32,45,32,40,99,32,45,32,49,41]⟩ from kr];exact cB bG (cq hG) 2000 kr⟩
theorem ajl (hG:bJ.g=some 0):wB 1:=⟨0,kr,by decide,cB bG (cq hG) 2000 kr⟩
theorem ajm (hG:bJ.g=some 0):wA 2:=⟨qB kr,qB kr,by rw [show jE.extract (mJ 2) jE.size=⟨#[97,41,32,45,32,40,98,41,41,32,45,32,40,99,32,45,32,49,41]⟩ from kr];exact cB bG (cq hG) 2000 kr⟩
theorem ajn (hG:bJ.g=some 0):wB 2:=⟨0,kr,by decide,cB bG (cq hG) 2000 kr⟩
theorem ajo (hG:bJ.g=some 0):wA 3:=⟨qB kr,qB kr,by rw [show jE.extract (mJ 3) jE.size=⟨#[41,32,45,32,40,98,41,41,32,45,32,40,99,32,45,32,49,41]⟩ from kr];exact cB bG (cq hG) 2000 kr⟩
theorem ajp (hG:bJ.g=some 0):wB 3:=⟨1,kr,by decide,cB bG (cq hG) 2000 kr⟩
theorem ajq (hG:bJ.g=some 0):wA 4:=⟨qB kr,qB kr,by rw [show jE.extract (mJ 4) jE.size=⟨#[45,32,40,98,41,41,32,45,32,40,99,32,45,32,49,41]⟩ from kr];exact cB bG (cq hG) 2000 kr⟩
theorem ajr (hG:bJ.g=some 0):wB 4:=⟨1,kr,by decide,cB bG (cq hG) 2000 kr⟩
theorem ajs (hG:bJ.g=some 0):wA 5:=⟨qB kr,qB kr,by rw [show jE.extract (mJ 5) jE.size=⟨#[40,98,41,41,32,45,32,40,99,32,45,32,49,41]⟩ from kr];exact cB bG (cq hG) 2000 kr⟩
theorem ajt (hG:bJ.g=some 0):wB 5:=⟨0,kr,by decide,cB bG (cq hG) 2000 kr⟩
theorem aju (hG:bJ.g=some 0):wA 6:=⟨qB kr,qB kr,by rw [show jE.extract (mJ 6) jE.size=⟨#[98,41,41,32,45,32,40,99,32,45,32,49,41]⟩ from kr];exact cB bG (cq hG) 2000 kr⟩
theorem ajv (hG:bJ.g=some 0):wB 6:=⟨0,kr,by decide,cB bG (cq hG) 2000 kr⟩
theorem ajw (hG:bJ.g=some 0):wA 7:=⟨qB kr,qB kr,by rw [show jE.extract (mJ 7) jE.size=⟨#[41,41,32,45,32,40,99,32,45,32,49,41]⟩ from kr];exact cB bG (cq hG) 2000 kr⟩
theorem ajx (hG:bJ.g=some 0):wB 7:=⟨0,kr,by decide,cB bG (cq hG) 2000 kr⟩
theorem ajy (hG:bJ.g=some 0):wA 8:=⟨qB kr,qB kr,by rw [show jE.extract (mJ 8) jE.size=⟨#[41,32,45,32,40,99,32,45,32,49,41]⟩ from kr];exact cB bG (cq hG) 2000 kr⟩
theorem ajz (hG:bJ.g=some 0):wB 8:=⟨1,kr,by decide,cB bG (cq hG) 2000 kr⟩
theorem ajA (hG:bJ.g=some 0):wA 9:=⟨qB kr,qB kr,by rw [show jE.extract (mJ 9) jE.size=⟨#[45,32,40,99,32,45,32,49,41]⟩ from kr];exact cB bG (cq hG) 2000 kr⟩
theorem ajB (hG:bJ.g=some 0):wB 9:=⟨1,kr,by decide,cB bG (cq hG) 2000 kr⟩
theorem aeJ (hG:bJ.g=some 0):wA 10:=⟨qB kr,qB kr,by rw [show jE.extract (mJ 10) jE.size=⟨#[40,99,32,45,32,49,41]⟩ from kr];exact cB bG (cq hG) 2000 kr⟩
theorem aeK (hG:bJ.g=some 0):wB 10:=⟨0,kr,by decide,cB bG (cq hG) 2000 kr⟩
theorem aeL (hG:bJ.g=some 0):wA 11:=⟨qB kr,qB kr,by rw [show jE.extract (mJ 11) jE.size=⟨#[99,32,45,32,49,41]⟩ from kr];exact cB bG (cq hG) 2000 kr⟩
theorem aeM (hG:bJ.g=some 0):wB 11:=⟨1,kr,by decide,cB bG (cq hG) 2000 kr⟩
theorem aeN (hG:bJ.g=some 0):wA 12:=⟨qB kr,qB kr,by rw [show jE.extract (mJ 12) jE.size=⟨#[45,32,49,41]⟩ from kr];exact cB bG (cq hG) 2000 kr⟩
theorem aeO (hG:bJ.g=some 0):wB 12:=⟨1,kr,by decide,cB bG (cq hG) 2000 kr⟩
theorem aeP (hG:bJ.g=some 0):wA 13:=⟨qB kr,qB kr,by rw [show jE.extract (mJ 13) jE.size=⟨#[49,41]⟩ from kr];exact cB bG (cq hG) 2000 kr⟩
theorem aeQ (hG:bJ.g=some 0):wB 13:=⟨0,kr,by decide,cB bG (cq hG) 2000 kr⟩
theorem aeR (hG:bJ.g=some 0):wA 14:=⟨qB kr,qB kr,by rw [show jE.extract (mJ 14) jE.size=⟨#[41]⟩ from kr];exact cB bG (cq hG) 2000 kr⟩
theorem aeS (hG:bJ.g=some 0):wB 14:=⟨0,kr,by decide,cB bG (cq hG) 2000 kr⟩
theorem Vy (hG:bJ.g=some 0):∀ k<15,(mJ k<jE.size/\mJ k+Hy k<=1048576/\dz ak 74 [str (jE.extract (mJ k) jE.size)] (.fZ [.agg [num (aeH k),str (aeI k),num 0],num (Hy k),num 0]))/\∃ d:Nat,mJ (k+1)=mJ k+Hy k+d/\d<=65536/\dz ak 73 [str jE,num ((mJ k+Hy k:Nat):Int)] (num d)
 | 0,_=>⟨aji hG,ajj hG⟩
 | 1,_=>⟨ajk hG,ajl hG⟩
 | 2,_=>⟨ajm hG,ajn hG⟩
 | 3,_=>⟨ajo hG,ajp hG⟩
 | 4,_=>⟨ajq hG,ajr hG⟩
 | 5,_=>⟨ajs hG,ajt hG⟩
 | 6,_=>⟨aju hG,ajv hG⟩
 | 7,_=>⟨ajw hG,ajx hG⟩
 | 8,_=>⟨ajy hG,ajz hG⟩
 | 9,_=>⟨ajA hG,ajB hG⟩
 | 10,_=>⟨aeJ hG,aeK hG⟩
 | 11,_=>⟨aeL hG,aeM hG⟩
 | 12,_=>⟨aeN hG,aeO hG⟩
 | 13,_=>⟨aeP hG,aeQ hG⟩
 | 14,_=>⟨aeR hG,aeS hG⟩
 | k+15,h=>absurd h (by omega)
theorem aoC (hG:bJ.g=some 0):dz ak 25 [str ⟨#[40,40,97,41,32,45,32,40,98,41,41,32,45,32,40,99,32,45,32,49,41]⟩] (.fZ [.slice [.agg [num 6,str ⟨#[40]⟩,num 0],.agg [num 6,str ⟨#[40]⟩,num 1],.agg [num 1,str ⟨#[97]⟩,num 2],.agg [num 6,str ⟨#[41]⟩,num 3],.agg [num 6,str ⟨#[45]⟩,num 5],.agg [num 6,str ⟨#[40]⟩,num 7],.agg [num 1,str ⟨#[98]⟩,num 8],.agg [num 6,str ⟨#[41]⟩,num 9],.agg [num 6,str ⟨#[41]⟩,num 10],.agg [num 6,str ⟨#[45]⟩,num 12],.agg [num 6,str ⟨#[40]⟩,num 14],.agg [num 1,str ⟨#[99]⟩,num 15],.agg [num 6,str ⟨#[45]⟩,num 17],.agg [num 3,str ⟨#[49]⟩,num 19],.agg [num 6,str ⟨#[41]⟩,num 20],.agg [num 0,str ⟨#[]⟩,num 21]],num 0,num 0]):=by obtain⟨_,rfl,h⟩:=OL jE (by decide) 15 mJ Hy aeH aeI (aoB hG) (fun k hk=>(Vy hG k hk).1) (fun k hk=>(Vy hG k hk).2) (by decide) kr;exact h
abbrev cX:V:=.slice [.agg [num 6,str ⟨#[40]⟩,num 0],.agg [num 6,str ⟨#[40]⟩,num 1],.agg [num 1,str ⟨#[97]⟩,num 2],.agg [num 6,str ⟨#[41]⟩,num 3],.agg [num 6,str ⟨#[45]⟩,num 5],.agg [num 6,str ⟨#[40]⟩,num 7],.agg [num 1,str ⟨#[98]⟩,num 8],.agg [num 6,str ⟨#[41]⟩,num 9],.agg [num 6,str ⟨#[41]⟩,num 10],.agg [num 6,str ⟨#[45]⟩,num 12],.agg [num 6,str ⟨#[40]⟩,num 14],.agg [num 1,str ⟨#[99]⟩,num 15],.agg [num 6,str ⟨#[45]⟩,num 17],.agg [num 3,str ⟨#[49]⟩,num 19],.agg [num 6,str ⟨#[41]⟩,num 20],.agg [num 0,str ⟨#[]⟩,num 21]]
abbrev dx:bx:=.box [num 0,str ⟨#[]⟩,str ⟨#[]⟩,str ⟨#[]⟩,num 0,.sc (.slice none 0 0),.sc (.slice none 0 0),.sc (.slice none 0 0)]
abbrev dJ:bx:=.box [.sc (.slice none 0 0),num 0,num 0,num 0]
abbrev aaR:List bx:=[dx,.box [cX,num 0,num 0,num 0],.box [cX,num 0,num 0,num 0],dx,dJ,.box [cX,num 0,num 0,num 0],dx,dJ,.box [cX,num 0,num 0,num 0],dx,dJ,.box [cX,num 0,num 0,num 0],dx,dJ,.box [cX,num 0,num 0,num 0],dx,dJ,.box [cX,num 0,num 0,num 0],dx,dJ,.box [cX,num 0,num 0,num 0],dx,dJ,.box [cX,num 0,num 0,num 0],dx,dJ,.box [cX,num 0,num 0,num 0],dx,dJ,.box [cX,num 0,num 0,num 0],dx,dJ,.box [cX,num 0,num 0,num 0],dx,dJ,.box [cX,num 1,num 0,num 0],dx,dJ,.box [cX,num 1,num 0,num 0],dx,dJ,.box [cX,num 1,num 0,num 0],dx,dJ,.box [cX,num 1,num 0,num 0],dx,dJ,.box [cX,num 1,num 0,num 0],dx,dJ,.box [cX,num 1,num 0,num 0],dx,dJ,.box [cX,num 1,num 0,num 0],dx,dJ,.box [cX,num 1,num 0,num 0],dx,dJ,.box [cX,num 1,num 0,num 0],dx,dJ,.box [cX,num 1,num 0,num 0],dx,dJ,.box [cX,num 1,num 0,num 0],dx,dJ]
abbrev aaS:bx:=.rows 0 1 [str ⟨#[43]⟩,str ⟨#[45]⟩,str ⟨#[43,43]⟩]
abbrev aaT:List bx:=[dx,.box [cX,num 0,num 0,num 0],.box [cX,num 0,num 0,num 0],dx,dJ,.box [cX,num 0,num 0,num 0],dx,dJ,.box [cX,num 0,num 0,num 0],dx,dJ,.box [cX,num 0,num 0,num 0],dx,dJ,.box [cX,num 0,num 0,num 0],dx,dJ,.box [cX,num 0,num 0,num 0],dx,dJ,.box [cX,num 0,num 0,num 0],dx,dJ,.box [cX,num 0,num 0,num 0],dx,dJ,.box [cX,num 0,num 0,num 0],dx,dJ,.box [cX,num 0,num 0,num 0],dx,dJ,.box [cX,num 0,num 0,num 0],dx,dJ,.box [cX,num 1,num 0,num 0],dx,dJ,.box [cX,num 1,num 0,num 0],dx,dJ,.box [cX,num 1,num 0,num 0],dx,dJ,.box [cX,num 1,num 0,num 0],dx,dJ,.box [cX,num 1,num 0,num 0],dx,dJ,.box [cX,num 4,num 0,num 0],dx,dJ,.box [num 3,str ⟨#[]⟩,str ⟨#[97]⟩,str ⟨#[]⟩,num 0,.sc (.slice none 0 0),.sc (.slice none 0 0),.sc (.slice none 0 0)],aaS,.box [cX,num 5,num 0,num 0],dx,dJ,.box [cX,num 5,num 0,num 0],dx,dJ,.box [cX,num 5,num 0,num 0],dx,dJ,.box [cX,num 5,num 0,num 0],dx,dJ,.box [cX,num 5,num 0,num 0],dx,dJ]
abbrev aaU:List bx:=[dx,.box [cX,num 0,num 0,num 0],.box [cX,num 0,num 0,num 0],dx,dJ,.box [cX,num 0,num 0,num 0],dx,dJ,.box [cX,num 0,num 0,num 0],dx,dJ,.box [cX,num 0,num 0,num 0],dx,dJ,.box [cX,num 0,num 0,num 0],dx,dJ,.box [cX,num 0,num 0,num 0],dx,dJ,.box [cX,num 0,num 0,num 0],dx,dJ,.box [cX,num 0,num 0,num 0],dx,dJ,.box [cX,num 0,num 0,num 0],dx,dJ,.box [cX,num 0,num 0,num 0],dx,dJ,.box [cX,num 0,num 0,num 0],dx,dJ]
abbrev Vz:V:=.slice [.agg [num 3,str ⟨#[]⟩,str ⟨#[97]⟩,str ⟨#[]⟩,num 0,.slice [],.slice [],.slice []],.agg [num 3,str ⟨#[]⟩,str ⟨#[98]⟩,str ⟨#[]⟩,num 0,.slice [],.slice [],.slice []]]
abbrev aaV:List bx:=[dx,.box [cX,num 0,num 0,num 0],.box [cX,num 0,num 0,num 0],dx,dJ,.box [cX,num 0,num 0,num 0],dx,dJ,.box [cX,num 0,num 0,num 0],dx,dJ,.box [cX,num 0,num 0,num 0],dx,dJ,.box [cX,num 0,num 0,num 0],dx,dJ,.box [cX,num 9,num 0,num 0],dx,dJ,.box [num 16,str ⟨#[]⟩,str ⟨#[45]⟩,str ⟨#[]⟩,num 0,.sc (.slice none 0 0),.sc (.slice none 0 0),Vz],aaS,.box [cX,num 10,num 0,num 0],dx,dJ,.box [cX,num 10,num 0,num 0],dx,dJ,.box [cX,num 10,num 0,num 0],dx,dJ,.box [cX,num 10,num 0,num 0],dx,dJ,.box [cX,num 10,num 0,num 0],dx,dJ]
abbrev aaW:V:=.slice [.agg [num 3,str ⟨#[]⟩,str ⟨#[99]⟩,str ⟨#[]⟩,num 0,.slice [],.slice [],.slice []],.agg [num 0,str ⟨#[]⟩,str ⟨#[]⟩,str ⟨#[]⟩,num 1,.slice [],.slice [],.slice []]]
abbrev VB:List bx:=[dx,.box [cX,num 0,num 0,num 0]]
abbrev VE:V:=.slice [.agg [num 16,str ⟨#[]⟩,str ⟨#[45]⟩,str ⟨#[]⟩,num 0,.slice [],.slice [],Vz],.agg [num 16,str ⟨#[]⟩,str ⟨#[45]⟩,str ⟨#[]⟩,num 0,.slice [],.slice [],aaW]]
abbrev VI:V:=.agg [num 16,str ⟨#[]⟩,str ⟨#[45]⟩,str ⟨#[]⟩,num 0,.slice [],.slice [],VE]
theorem aoD (hG:bJ.g=some 0):jY ak 63 [.agg [cX,num 2,num 0,num 0]] aaR (fun r m=>(r,m)∈([(.fZ [.agg [num 3,str ⟨#[]⟩,str ⟨#[97]⟩,str ⟨#[]⟩,num 0,.sc (.slice none 0 0),.sc (.slice none 0 0),.sc (.slice none 0 0)],.agg [cX,num 3,num 0,num 0]],aaR)]:List (V×List bx))):=ti bG oC (cq hG) 3000 kr
theorem aoE (hG:bJ.g=some 0):jY ak 63 [.agg [cX,num 6,num 0,num 0]] aaT (fun r m=>(r,m)∈([(.fZ [.agg [num 3,str ⟨#[]⟩,str ⟨#[98]⟩,str ⟨#[]⟩,num 0,.sc (.slice none 0 0),.sc (.slice none 0 0),.sc (.slice none 0 0)],.agg [cX,num 7,num 0,num 0]],aaT)]:List (V×List bx))):=ti bG oC (cq hG) 3000 kr
theorem aoF (hG:bJ.g=some 0):jY ak 63 [.agg [cX,num 1,num 0,num 0]] aaU (fun r m=>(r,m)∈([(.fZ [.agg [num 16,str ⟨#[]⟩,str ⟨#[45]⟩,str ⟨#[]⟩,num 0,.sc (.slice none 0 0),.sc (.slice none 0 0),Vz],.agg [cX,num 8,num 0,num 0]],aaU)]:List (V×List bx))):=ti bG (oS (aoD hG) (oS (aoE hG) oC)) (cq hG) 3000 kr
theorem aoG (hG:bJ.g=some 0):jY ak 63 [.agg [cX,num 11,num 0,num 0]] aaV (fun r m=>(r,m)∈([(.fZ [.agg [num 16,str ⟨#[]⟩,str ⟨#[45]⟩,str ⟨#[]⟩,num 0,.sc (.slice none 0 0),.sc (.slice none 0 0),aaW],.agg [cX,num 14,num 0,num 0]],aaV)]:List (V×List bx))):=ti bG oC (cq hG) 3000 kr
theorem aoH (hG:bJ.g=some 0):jY ak 63 [.agg [cX,num 0,num 0,num 0]] VB (fun r m=>(r,m)∈([(.fZ [.agg [num 16,str ⟨#[]⟩,str ⟨#[45]⟩,str ⟨#[]⟩,num 0,.sc (.slice none 0 0),.sc (.slice none 0 0),VE],.agg [cX,num 15,num 0,num 0]],VB)]:List (V×List bx))):=ti bG (oS (aoF hG) (oS (aoG hG) oC)) (cq hG) 3000 kr
theorem aoI (hG:bJ.g=some 0):dz ak 29 [VI] (num 0):=cB bG (cq hG) 3000 kr
theorem aoJ (hG:bJ.g=some 0):dz ak 19 [str ⟨#[40,40,97,41,32,45,32,40,98,41,41,32,45,32,40,99,32,45,32,49,41]⟩] (.fZ [VI,num 0,num 0]):=Sl (jQ (aoC hG) (jQ (aoI hG) bG)) (oS (aoH hG) oC) (cq hG) 3000 kr
def mh:g6:=⟨#[109,111,100,117,108,101,32,109,47,118,49,32,116,121,112,101,32,78,32,60,58,32,97,110,121,32,61,32,105,110,116]⟩
def o5 (k:Nat):Nat:=([0,7,8,9,12,17,19,22,26,28,31]:List Nat).getD k 0
def Hz (k:Nat):Nat:=([6,1,1,2,4,1,2,3,1,3]:List Nat).getD k 0
def aeT (k:Nat):Int:=([5,1,6,1,5,2,6,5,6,5]:List Int).getD k 0
def aeU (k:Nat):g6:=([⟨#[109,111,100,117,108,101]⟩,⟨#[109]⟩,⟨#[47]⟩,⟨#[118,49]⟩,⟨#[116,121,112,101]⟩,⟨#[78]⟩,⟨#[60,58]⟩,⟨#[97,110,121]⟩,⟨#[61]⟩,⟨#[105,110,116]⟩]:List g6).getD k ⟨#[]⟩
abbrev Ec (k:Nat):Prop:=o5 k<mh.size/\o5 k+Hz k<=1048576/\dz ak 74 [str (mh.extract (o5 k) mh.size)] (.fZ [.agg [num (aeT k),str (aeU k),num 0],num (Hz k),num 0])
abbrev Ed (k:Nat):Prop:=∃ d:Nat,o5 (k+1)=o5 k+Hz k+d/\d<=65536/\dz ak 73 [str mh,num ((o5 k+Hz k:Nat):Int)] (num d)
theorem aoK (hG:bJ.g=some 0):dz ak 73 [str mh,num 0] (num 0):=cB bG (cq hG) 2000 kr
theorem ajC (hG:bJ.g=some 0):Ec 0:=⟨qB kr,qB kr,by rw [show mh.extract (o5 0) mh.size=⟨#[109,111,100,117,108,101,32,109,47,118,49,32,116,121,112,101,32,78,32,60,58,32,97,110,121,32,61,32,105,110,116]⟩ from kr];exact cB bG (cq hG) 2000 kr⟩
theorem ajD (hG:bJ.g=some 0):Ed 0:=⟨1,kr,by decide,cB bG (cq hG) 2000 kr⟩
theorem ajE (hG:bJ.g=some 0):Ec 1:=⟨qB kr,qB kr,by rw [show mh.extract (o5 1) mh.size=⟨#[109,47,118,49,32,116,121,112,101,32,78,32,60,58,32,97,110,121,32,61,32,105,110,116]⟩ from kr];exact cB bG (cq hG) 2000 kr⟩
theorem ajF (hG:bJ.g=some 0):Ed 1:=⟨0,kr,by decide,cB bG (cq hG) 2000 kr⟩
theorem ajG (hG:bJ.g=some 0):Ec 2:=⟨qB kr,qB kr,by rw [show mh.extract (o5 2) mh.size=⟨#[47,118,49,32,116,121,112,101,32,78,32,60,58,32,97,110,121,32,61,32,105,110,116]⟩ from kr];exact cB bG (cq hG) 2000 kr⟩
theorem ajH (hG:bJ.g=some 0):Ed 2:=⟨0,kr,by decide,cB bG (cq hG) 2000 kr⟩
theorem ajI (hG:bJ.g=some 0):Ec 3:=⟨qB kr,qB kr,by rw [show mh.extract (o5 3) mh.size=⟨#[118,49,32,116,121,112,101,32,78,32,60,58,32,97,110,121,32,61,32,105,110,116]⟩ from kr];exact cB bG (cq hG) 2000 kr⟩
theorem ajJ (hG:bJ.g=some 0):Ed 3:=⟨1,kr,by decide,cB bG (cq hG) 2000 kr⟩
theorem ajK (hG:bJ.g=some 0):Ec 4:=⟨qB kr,qB kr,by rw [show mh.extract (o5 4) mh.size=⟨#[116,121,112,101,32,78,32,60,58,32,97,110,121,32,61,32,105,110,116]⟩ from kr];exact cB bG (cq hG) 2000 kr⟩
theorem ajL (hG:bJ.g=some 0):Ed 4:=⟨1,kr,by decide,cB bG (cq hG) 2000 kr⟩
theorem ajM (hG:bJ.g=some 0):Ec 5:=⟨qB kr,qB kr,by rw [show mh.extract (o5 5) mh.size=⟨#[78,32,60,58,32,97,110,121,32,61,32,105,110,116]⟩ from kr];exact cB bG (cq hG) 2000 kr⟩
theorem ajN (hG:bJ.g=some 0):Ed 5:=⟨1,kr,by decide,cB bG (cq hG) 2000 kr⟩
theorem ajO (hG:bJ.g=some 0):Ec 6:=⟨qB kr,qB kr,by rw [show mh.extract (o5 6) mh.size=⟨#[60,58,32,97,110,121,32,61,32,105,110,116]⟩ from kr];exact cB bG (cq hG) 2000 kr⟩
theorem ajP (hG:bJ.g=some 0):Ed 6:=⟨1,kr,by decide,cB bG (cq hG) 2000 kr⟩
theorem ajQ (hG:bJ.g=some 0):Ec 7:=⟨qB kr,qB kr,by rw [show mh.extract (o5 7) mh.size=⟨#[97,110,121,32,61,32,105,110,116]⟩ from kr];exact cB bG (cq hG) 2000 kr⟩
theorem ajR (hG:bJ.g=some 0):Ed 7:=⟨1,kr,by decide,cB bG (cq hG) 2000 kr⟩
theorem ajS (hG:bJ.g=some 0):Ec 8:=⟨qB kr,qB kr,by rw [show mh.extract (o5 8) mh.size=⟨#[61,32,105,110,116]⟩ from kr];exact cB bG (cq hG) 2000 kr⟩
theorem ajT (hG:bJ.g=some 0):Ed 8:=⟨1,kr,by decide,cB bG (cq hG) 2000 kr⟩
theorem ajU (hG:bJ.g=some 0):Ec 9:=⟨qB kr,qB kr,by rw [show mh.extract (o5 9) mh.size=⟨#[105,110,116]⟩ from kr];exact cB bG (cq hG) 2000 kr⟩
theorem ajV (hG:bJ.g=some 0):Ed 9:=⟨0,kr,by decide,cB bG (cq hG) 2000 kr⟩
theorem VJ (hG:bJ.g=some 0):∀ k<10,(o5 k<mh.size/\o5 k+Hz k<=1048576/\dz ak 74 [str (mh.extract (o5 k) mh.size)] (.fZ [.agg [num (aeT k),str (aeU k),num 0],num (Hz k),num 0]))/\∃ d:Nat,o5 (k+1)=o5 k+Hz k+d/\d<=65536/\dz ak 73 [str mh,num ((o5 k+Hz k:Nat):Int)] (num d)
 | 0,_=>⟨ajC hG,ajD hG⟩
 | 1,_=>⟨ajE hG,ajF hG⟩
 | 2,_=>⟨ajG hG,ajH hG⟩
 | 3,_=>⟨ajI hG,ajJ hG⟩
 | 4,_=>⟨ajK hG,ajL hG⟩
 | 5,_=>⟨ajM hG,ajN hG⟩
 | 6,_=>⟨ajO hG,ajP hG⟩
 | 7,_=>⟨ajQ hG,ajR hG⟩
 | 8,_=>⟨ajS hG,ajT hG⟩
 | 9,_=>⟨ajU hG,ajV hG⟩
 | k+10,h=>absurd h (by omega)
theorem ajW (hG:bJ.g=some 0):dz ak 25 [str ⟨#[109,111,100,117,108,101,32,109,47,118,49,32,116,121,112,101,32,78,32,60,58,32,97,110,121,32,61,32,105,110,116]⟩] (.fZ [.slice [.agg [num 5,str ⟨#[109,111,100,117,108,101]⟩,num 0],.agg [num 1,str ⟨#[109]⟩,num 7],.agg [num 6,str ⟨#[47]⟩,num 8],.agg [num 1,str ⟨#[118,49]⟩,num 9],.agg [num 5,str ⟨#[116,121,112,101]⟩,num 12],.agg [num 2,str ⟨#[78]⟩,num 17],.agg [num 6,str ⟨#[60,58]⟩,num 19],.agg [num 5,str ⟨#[97,110,121]⟩,num 22],.agg [num 6,str ⟨#[61]⟩,num 26],.agg [num 5,str ⟨#[105,110,116]⟩,num 28],.agg [num 0,str ⟨#[]⟩,num 31]],num 0,num 0]):=by obtain⟨_,rfl,h⟩:=OL mh (by decide) 10 o5 Hz aeT aeU (aoK hG) (fun k hk=>(VJ hG k hk).1) (fun k hk=>(VJ hG k hk).2) (by decide) kr;exact h
theorem aoL (hG:bJ.g=some 0):dz ak 21 [str ⟨#[109,111,100,117,108,101,32,109,47,118,49,32,116,121,112,101,32,78,32,60,58,32,97,110,121,32,61,32,105,110,116]⟩] (.fZ [.agg [str ⟨#[109,47,118,49]⟩,.slice [],.slice [.agg [num 0,str ⟨#[78]⟩,bl false,bl false,str ⟨#[]⟩,.slice [],num 1,str ⟨#[]⟩,str ⟨#[]⟩,.slice [],.slice [],num 0,str ⟨#[]⟩,str ⟨#[]⟩,.slice [],.slice [],num 2,str ⟨#[]⟩,str ⟨#[]⟩,.slice [],.slice [],num 0,str ⟨#[]⟩,str ⟨#[]⟩,str ⟨#[]⟩,num 0,.slice [],.slice [],.slice [],str ⟨#[]⟩,str ⟨#[]⟩]]],num 0,num 0]):=cB (jQ (ajW hG) bG) (cq hG) 2000 kr
theorem VK (l:List Dc):aU Dc.size l<=aU Dc.dE l:=by induction l with|nil=>exact aA _|cons x r ih=>have:=Dc.size_le x;simp only [aU] at *;omega
theorem aeV (m:Md) (h1:dH m.path=true) (h2:Nat.ble m.imports.length 16=true) (h3:Nat.ble m.decls.length 64=true) (h4:Nat.ble (1+m.imports.length+aU Dc.dE m.decls) 4096=true)
  (h5:(ig (qZ m.path) [] m.imports).2=0):yZ m=0:=by
 have h2:=gP h2;have h3:=gP h3;have h4:=gP h4;have h6:=VK m.decls;have h7:m.size<=4096:=by unfold Md.size;omega
 unfold yZ;rw [g5 (by rw [h1];simp),g5 (by omega),h5]
def nmX (s:g6):Ex:=.mk 3 ⟨#[]⟩ s ⟨#[]⟩ 0 [] [] []
def mnX (a b:Ex):Ex:=.mk 16 ⟨#[]⟩ ⟨#[45]⟩ ⟨#[]⟩ 0 [] [] [a,b]
def xA:Ex:=mnX (mnX (nmX ⟨#[97]⟩) (nmX ⟨#[98]⟩)) (mnX (nmX ⟨#[99]⟩) (.mk 0 ⟨#[]⟩ ⟨#[]⟩ ⟨#[]⟩ 1 [] [] []))
theorem aaX:xA.wt<=1048576:=gP kr
theorem ajX:sg xA=0:=kr
theorem ajY:sj xA=true:=kr
theorem ajZ:C7 xA:=fun u hu=>by have h:=ba.1 (show xA.nodes.all (fun u=>decide (-9223372036854775808<=u.num)&&decide (u.num<=9223372036854775807))=true from kr) u hu;simpa using h
theorem aj0:Lib.itoa 1=[49]:=by have:Lib.itoa ((1:Nat):Int)=_:=Lib.itoa_nonneg 1;rw [show (1:Int)=((1:Nat):Int) from rfl,this,Lib.decDigits_one (by omega)];rfl
theorem aj1:xA.pr=[97,32,45,32,98,32,45,32,40,99,32,45,32,49,41]:=by have h:xA.pr=[97,32,45,32,98,32,45,32,40,99,32,45,32]++Lib.itoa 1++[41]:=kr;rw [h,aj0];rfl
theorem aoO (hG:bJ.g=some 0) (hP:bJ.uO 1=some jg):dz ak 13 [.agg [num 16,str ⟨#[]⟩,str ⟨#[45]⟩,str ⟨#[]⟩,num 0,.slice [],.slice [],.slice [.agg [num 16,str ⟨#[]⟩,str ⟨#[45]⟩,str ⟨#[]⟩,num 0,.slice [],.slice [],.slice [.agg [num 3,str ⟨#[]⟩,str ⟨#[97]⟩,str ⟨#[]⟩,num 0,.slice [],.slice [],.slice []],.agg [num 3,str ⟨#[]⟩,str ⟨#[98]⟩,str ⟨#[]⟩,num 0,.slice [],.slice [],.slice []]]],.agg [num 16,str ⟨#[]⟩,str ⟨#[45]⟩,str ⟨#[]⟩,num 0,.slice [],.slice [],.slice [.agg [num 3,str ⟨#[]⟩,str ⟨#[99]⟩,str ⟨#[]⟩,num 0,.slice [],.slice [],.slice []],.agg [num 0,str ⟨#[]⟩,str ⟨#[]⟩,str ⟨#[]⟩,num 1,.slice [],.slice [],.slice []]]]]]] (.fZ [str ⟨#[97,32,45,32,98,32,45,32,40,99,32,45,32,49,41]⟩,num 0]):=by
 obtain⟨r,hr,h⟩:=Ka hG xA aaX (UH hP aaX ajZ);have e:gh (sg xA) (sj xA) xA.pr=(bs [97,32,45,32,98,32,45,32,40,99,32,45,32,49,41],0):=by rw [ajX,ajY,aj1];rfl
 rw [e] at hr;subst hr;exact h
def tA:Ty:=.mk 4 ⟨#[]⟩ ⟨#[]⟩ [] []
def tX:Ty:=.mk 9 ⟨#[]⟩ ⟨#[88]⟩ [] []
theorem aoP (hG:bJ.g=some 0):dz ak 11 [.agg [num 4,str ⟨#[]⟩,str ⟨#[]⟩,.slice [],.slice []]] (.fZ [str ⟨#[116,101,120,116]⟩,num 0]):=by
 obtain⟨r,hr,h⟩:=C4 hG tA (gP kr) MK;have e:gh (j0 tA) (kN tA) tA.pr=(bs [116,101,120,116],0):=by have h1:j0 tA=0:=kr;have h2:kN tA=true:=kr;have h3:tA.pr=[116,101,120,116]:=kr;rw [h1,h2,h3];rfl
 rw [e] at hr;subst hr;exact h
theorem aj2 (hG:bJ.g=some 0):dz ak 11 [.agg [num 9,str ⟨#[]⟩,str ⟨#[88]⟩,.slice [],.slice []]] (.fZ [str ⟨#[]⟩,num 1]):=by
 obtain⟨r,hr,h⟩:=C4 hG tX (gP kr) MK;have e:gh (j0 tX) (kN tX) tX.pr=(⟨#[]⟩,1):=by have h1:j0 tX=0:=kr;have h2:kN tX=false:=kr;rw [h1,h2];rfl
 rw [e] at hr;subst hr;exact h
def dA:Dc:=⟨0,⟨#[78]⟩,false,false,⟨#[]⟩,[],.mk 1 ⟨#[]⟩ ⟨#[]⟩ [] [],.mk 0 ⟨#[]⟩ ⟨#[]⟩ [] [],.mk 2 ⟨#[]⟩ ⟨#[]⟩ [] [],.mk 0 ⟨#[]⟩ ⟨#[]⟩ ⟨#[]⟩ 0 [] [] [],⟨#[]⟩,⟨#[]⟩⟩
def mA:Md:=⟨⟨#[109,47,118,49]⟩,[],[dA]⟩
theorem aj3:mA.wt<=1048576:=gP kr
theorem aj4:yZ mA=0:=aeV _ kr kr kr kr kr
theorem aj5:qP mA=(0,0):=by unfold qP;rw [g5 (by rw [aj4];simp)];kernel_rfl
theorem aj6:mA.decls.all sy=true:=kr
theorem aoQ:DcK dA := {
 k:=.inl rfl
 nm:=by decide
 pl:=by decide
 pk:=fun p hp=>by cases hp
 wl:=fun _=>⟨rT kr kr,rT kr kr⟩
 wt:=fun _=>rT kr kr
 wx:=fun h=>by cases h
 md:=fun h=>by cases h
 nt:=by decide
 zl:=gP kr
 zu:=gP kr }
theorem aoR:MdK mA := {
 p:=by decide
 il:=by decide
 dl:=by decide
 im:=fun x hx=>by cases hx
 dk:=fun d hd=>by rcases ei.1 hd with rfl;exact aoQ }
theorem aj7:nQ dA=false:=by
 have h:sd dA.lower dA.upper=false:=cU fun e=>by have:=yJ Ty.kind e;exact absurd this (by decide)
 unfold nQ;rw [h];rfl
theorem aaY:Bb nQ mA=[109,111,100,117,108,101,32,109,47,118,49,10,116,121,112,101,32,78,32,60,58,32,97,110,121,32,61,32,105,110,116,10]:=by have h:Bb nQ mA=[109,111,100,117,108,101,32,109,47,118,49,10]++(A9 (nQ dA) dA++[]):=kr;have h2:A9 false dA=[116,121,112,101,32,78,32,60,58,32,97,110,121,32,61,32,105,110,116,10]:=kr;rw [h,aj7,h2];rfl
theorem aoS (hG:bJ.g=some 0):dz ak 15 [.agg [str ⟨#[109,47,118,49]⟩,.slice [],.slice [.agg [num 0,str ⟨#[78]⟩,bl false,bl false,str ⟨#[]⟩,.slice [],num 1,str ⟨#[]⟩,str ⟨#[]⟩,.slice [],.slice [],num 0,str ⟨#[]⟩,str ⟨#[]⟩,.slice [],.slice [],num 2,str ⟨#[]⟩,str ⟨#[]⟩,.slice [],.slice [],num 0,str ⟨#[]⟩,str ⟨#[]⟩,str ⟨#[]⟩,num 0,.slice [],.slice [],.slice [],str ⟨#[]⟩,str ⟨#[]⟩]]]] (.fZ [str ⟨#[109,111,100,117,108,101,32,109,47,118,49,10,116,121,112,101,32,78,32,60,58,32,97,110,121,32,61,32,105,110,116,10]⟩,num 0]):=by
 obtain⟨r,hr,h⟩:=Dq hG mA aj3 fun _ _=>⟨aoR,by rw [aaY];decide⟩;have e:gh (qP mA).2 (mA.decls.all sy) (Bb nQ mA)=(bs [109,111,100,117,108,101,32,109,47,118,49,10,116,121,112,101,32,78,32,60,58,32,97,110,121,32,61,32,105,110,116,10],0):=by rw [aj5,aj6,aaY];rfl
 rw [e] at hr;subst hr;exact h
theorem VL (hG:bJ.g=some 0) (hP:bJ.uO 1=some jg):dz ak 9 [] (bl true) :=
 cB (jQ (aoJ hG) (jQ (aoL hG) (jQ (aoO hG hP) (jQ (aoS hG) (jQ (aoP hG) (jQ (aj2 hG) bG)))))) (cq hG) 2000 kr
end Go.Proofs.YtfbbfmcggbapoaaGreatDoor
end
section
namespace Go.Proofs.YtfbbfmcggbapoaaGreatDoor
open Go.Eng
section
section
variable [bJ] {F:Addr->Option Value} {hg:Gl F} {H:Type} {enc:g9×Value->H} {w:World} {sp:Nat->Bool} {held:Bool} {f:Nat} {cs:List Value} {d:DataW H} {p:List MemPlace}
theorem aj8 (hF:F=w.cell?) (h:DataW.trod enc ak w 0 sp held f 123 cs=some (d,p)):∃ x:Pm,Rd F hg (cH x).cells cs/\x.wt<=Rows.uptoBulk d:=by cases f with|zero=>simp [DataW.trod] at h|succ f =>obtain⟨hl,d0,p0,h0,d1,p1,h1,d2,p2,h2,rfl⟩:=kF Tryz.underlying123 h;simp only [c3,c9,c25] at h0 h1 h2;rw [aid] at hl;obtain⟨n,hn,s0⟩:=lq (F:=F) (hg:=hg) h0;obtain⟨v,hv,-⟩:=C8 (F:=F) (hg:=hg) h1;obtain⟨t,ht,bt⟩:=C9 (hg:=hg) hF _ h2;rw [aF] at ht;refine⟨⟨n,v,t⟩,?_,?_⟩;(·show Rd F hg ([str n,num v]++au t) (cs.drop 0);exact ef (a:=[str n]) hn (ef (a:=[num v]) hv (uK ht hl)));simp only [Rows.uptoBulk,Rows.uptoBulkAll,Pm.wt];omega
theorem aj9 (h:DataW.trod enc ak w 0 sp held f 84 cs=some (d,p)):∃ x:Im,Rd F hg (eI x).cells cs/\x.wt<=Rows.uptoBulk d:=by cases f with|zero=>simp [DataW.trod] at h|succ f =>obtain⟨hl,d0,p0,h0,d1,p1,h1,rfl⟩:=kF Tryz.underlying84 h;simp only [c9] at h0 h1;rw [c84] at hl;obtain⟨n,hn,s0⟩:=lq (F:=F) (hg:=hg) h0;obtain⟨v,hv,s1⟩:=lq (F:=F) (hg:=hg) h1;refine⟨⟨n,v⟩,?_,?_⟩;(·exact ef (a:=[str n]) (off:=0) hn (uK (a:=[str v]) hv hl));simp only [Rows.uptoBulk,Rows.uptoBulkAll,Im.wt];omega
theorem aka (hF:F=w.cell?) (h:DataW.trod enc ak w 0 sp held f 80 cs=some (d,p)):∃ x:Dc,Rd F hg (ct x).cells cs/\x.wt<=Rows.uptoBulk d/\C7 x.expr:=by cases f with|zero=>simp [DataW.trod] at h|succ f =>obtain⟨hl,d0,p0,h0,d1,p1,h1,d2,p2,h2,d3,p3,h3,d4,p4,h4,d5,p5,h5,d6,p6,h6,d7,p7,h7,d8,p8,h8,d9,p9,h9,d10,p10,sZ,d11,p11,VZ,rfl⟩:=kF Tryz.underlying80 h;simp only [c3,c4,c9,c25,c29,c78] at h0 h1 h2 h3 h4 h5 h6 h7 h8 h9 sZ VZ;rw [c80] at hl;obtain⟨k,hk,-⟩:=C8 (F:=F) (hg:=hg) h0;obtain⟨n,hn,s1⟩:=lq (F:=F) (hg:=hg) h1;obtain⟨x,hx⟩:=Oi (F:=F) (hg:=hg) h2;obtain⟨y,hy⟩:=Oi (F:=F) (hg:=hg) h3;obtain⟨o,ho,s4⟩:=lq (F:=F) (hg:=hg) h4;obtain⟨ps,nL,bps⟩:=Aj (F:=F) (hg:=hg) hF Tryz.underlying78 aid (fun f' _ {cs d p} h=>aj8 hF h) h5;obtain⟨lo,qu,blo⟩:=C9 (hg:=hg) hF _ h6;obtain⟨up,hup,bup⟩:=C9 (hg:=hg) hF _ h7;obtain⟨ty,hty,bty⟩:=C9 (hg:=hg) hF _ h8;obtain⟨e,he,be,rg⟩:=aal (hg:=hg) hF _ h9;obtain⟨m,hm,s10⟩:=lq (F:=F) (hg:=hg) sZ;obtain⟨t,ht,s11⟩:=lq (F:=F) (hg:=hg) VZ;rw [aF] at qu hup hty;rw [aS] at he;refine⟨⟨k,n,x,y,o,ps,lo,up,ty,e,m,t⟩,?_,?_,rg⟩;(·show Rd F hg ([num k,str n,bl x,bl y,str o,.slice (ps.map cH)]++au lo++au up++au ty++aH e++[str m,str t]) (cs.drop 0);simp only [ay];exact ef (a:=[num k]) hk (ef (a:=[str n]) hn (ef (a:=[bl x]) hx (ef (a:=[bl y]) hy (ef (a:=[str o]) ho (ef (a:=[.slice (ps.map cH)]) nL (ef qu (ef hup (ef hty (ef he (ef (a:=[str m]) hm (uK (a:=[str t]) ht hl))))))))))));simp only [Rows.uptoBulk,Rows.uptoBulkAll,Dc.wt];omega
theorem akb (hF:F=w.cell?) (h:DataW.trod enc ak w 0 sp held f 33 cs=some (d,p)):∃ x:Md,Rd F hg (jJ x).cells cs/\x.wt<=Rows.uptoBulk d/\∀ d∈x.decls,C7 d.expr:=by cases f with|zero=>simp [DataW.trod] at h|succ f =>obtain⟨hl,d0,p0,h0,d1,p1,h1,d2,p2,h2,rfl⟩:=kF Tryz.underlying33 h;simp only [c9,c30,c31] at h0 h1 h2;rw [c33] at hl;obtain⟨n,hn,s0⟩:=lq (F:=F) (hg:=hg) h0;obtain⟨is,his,bis⟩:=Aj (F:=F) (hg:=hg) hF Tryz.underlying30 c84 (fun f' _ {cs d p} h=>aj9 h) h1;obtain⟨ds,XB,bds⟩:=Aj (F:=F) (hg:=hg) (α := {t:Dc // C7 t.expr}) (row:=fun t=>ct t.1) (g:=fun t=>t.1.wt) hF Tryz.underlying31 c80 (fun f' hf' {cs d p} h=>by obtain⟨t,h1,h2,h3⟩:=aka hF h;exact⟨⟨t,h3⟩,h1,h2⟩) h2;(have eks:ds.map (fun t=>ct t.1)=(ds.map Subtype.val).map ct:=by rw [avP];rfl);rw [eks] at XB;(have ebk:aU (fun t : {t:Dc // C7 t.expr}=>t.1.wt) ds=aU Dc.wt (ds.map Subtype.val):=by rw [ju]);rw [ebk] at bds;refine⟨⟨n,is,ds.map Subtype.val⟩,?_,?_,?_⟩;(·exact ef (a:=[str n]) (off:=0) hn (ef (a:=[.slice (is.map eI)]) his (uK (a:=[.slice ((ds.map Subtype.val).map ct)]) XB hl)));(·simp only [Rows.uptoBulk,Rows.uptoBulkAll,Md.wt];omega);intro k hk;obtain⟨s,-,rfl⟩:=dS.1 (show k∈ds.map Subtype.val from hk);exact s.2
end
end
end Go.Proofs.YtfbbfmcggbapoaaGreatDoor
end
section
namespace Go.Proofs.YtfbbfmcggbapoaaGreatDoor.lawPrinterPrints
open Go.Eng
open Go.ChangeShapes Go.WideShapes Go.ChangeAt Go.RowKit
theorem contract (H:Type) (enc:g9×Value->H) (W:World) (args:Array Value) (ds gs:List (DataW H)) (before:List MemPlace) (base:Nat)
  (iq:∀ (j:Nat) t v,Tryz.f3.params[j]?=some t->args[j]?=some v->Value.okWide ak W .any base t v)
  (hW:DataW.Whole enc ak Tryz.f3.params.toList Rows.printerPrintsSpec.vars false W args.toList ds gs before) (hb:Rows.uptoBulkAll (ds++gs)<=1048576) (hL:laidMetH ak Rows.printerPrintsUptoRow.laid W) (hS:W.ShapedOpen ak) :
  Calls ak 3 args W fun e W'=>∃ v,e = .returned v/\Rows.printerPrintsSpec.post enc ak Tryz.f3 false true false false W args v W':=by
 have hW':=hW;have bH:=hW.lt;obtain⟨p,q,Xj,hV,rfl,hfz,o7⟩:=hW;have hA:DataW.TrodAll enc ak W 0 (fun _=>true) true Tryz.f3.params.toList args.toList ds p:=Xj;rw [Tryz.params3] at hA;obtain⟨v0,V7,d0,ds0,p0,q0,pP,rfl,rfl,h0,r0⟩:=trodAll_cons hA;obtain⟨v1,vs1,d1,ds1,p1,q1,rfl,rfl,rfl,h1,r1⟩:=trodAll_cons r0;obtain⟨v2,vs2,d2,ds2,p2,q2,rfl,rfl,rfl,h2,r2⟩:=trodAll_cons r1;obtain⟨rfl,rfl,rfl⟩:=trodAll_nil r2;obtain rfl:args = #[v0,v1,v2]:=by cases args;simp_all
 obtain⟨rfl,rfl⟩:=trodVars_none hV;rw [Tryz.params3] at iq;clear iq;clear Xj hA r0 r1 r2 pP hV;simp only [ai] at hW' bH;simp only [dD,ai,Rows.uptoBulkAll] at hb;have h0':=h0;have h1':=h1;have h2':=h2;obtain⟨f0,h0⟩:=h0;obtain⟨f1,h1⟩:=h1;obtain⟨f2,h2⟩:=h2;have main:Calls ak 3 #[v0,v1,v2] W fun e W'=>e = .returned (.bool true)/\Below W.heap.size W W':=by obtain⟨n,hn⟩:=QD hS;(have go:∀ (G:bJ) (hG:G.g=some 0) (hP:G.uO 1=some jg) (hg:@Gl G W.cell?),Calls ak 3 #[v0,v1,v2] W fun e W'=>e = .returned (.bool true)/\Below W.heap.size W W':=fun G hG hP hg=>by have haw:dz ak 9 [] (bl true):=VL hG hP;obtain⟨x0,MZ,b0⟩:=C9 (F:=W.cell?) (hg:=hg) rfl _ h0;obtain⟨x1,nS,b1⟩:=aal (F:=W.cell?) (hg:=hg) rfl _ h1;obtain⟨x2,ob,b2⟩:=akb (F:=W.cell?) (hg:=hg) rfl h2;(obtain⟨rr,ug,hc⟩:∃ r_,r_=bl true/\dz ak 3 [cA x0,ca x1,jJ x2] r_:=by obtain⟨r_,h1,h2⟩:=lawPrints_ok hG hP haw x0 x1 x2 (by omega) (by have:=b1.1;omega) (by have:=b2.1;omega) b1.2 b2.2;exact⟨r_,h1,h2⟩);subst ug;refine (hc.2 W.cell? hg W #[v0,v1,v2] (fun _ _ h=>h) ?_).mono fun o W' h=>?_;(·exact .cons (adT MZ) (.cons (adU nS) (.cons (Hd (by simp [jJ]) ob) (.nil _))));obtain⟨F',x,rfl,-,-,-,⟨Ib,hx⟩,QY⟩:=h;obtain rfl:=fL hx;exact⟨rfl,QY⟩);exact go (gOf n) rfl rfl (aih hn (adS hL))
 refine main.mono fun e W' ⟨he,QY⟩=>?_;subst he;have VM:laidOutB ak=true:=kr
 refine⟨_,rfl,QE (pa:=p0++(p1++(p2++[]))) (pv:=[]) hW' (fun _ _ _=>trodAll_cons_mk (shut_bool Tryz.underlying4 _) trodAll_mk0) (fun sp M0=>?_) (fun _ _=>rfl) (by simp)
  QY (ok_one kr rfl (okWide_bool_mk Tryz.underlying4 _))⟩
 refine trodAll_cons_mk (WideElems.Trod_stays VM kr (qB kr) h0' (fun x hx=>QY.same (bH x (by simp [hx]))) (fun x hx=>M0 x (by simp [hx])))
  (trodAll_cons_mk (WideElems.Trod_stays VM kr (qB kr) h1' (fun x hx=>QY.same (bH x (by simp [hx]))) (fun x hx=>M0 x (by simp [hx])))
  (trodAll_cons_mk (WideElems.Trod_stays VM kr (qB kr) h2' (fun x hx=>QY.same (bH x (by simp [hx]))) (fun x hx=>M0 x (by simp [hx])))
  trodAll_mk0))
end Go.Proofs.YtfbbfmcggbapoaaGreatDoor.lawPrinterPrints
end
section
namespace Go.Proofs.YtfbbfmcggbapoaaGreatDoor
section
open Go.ChangeShapes Go.WideShapes Go.ChangeAt Go.RowKit
theorem own:ownKnob ak.godebug=none:=kr
def aaZ (cs:Array Value):Obj->Obj
 | .cells _ t frozen=>.cells cs t frozen
 | o=>o
def aoT:List Nat:=[0,1,28,2,29,14,24,3,30,22,20,15,25,17,4,8,31,27,13,23,21,19,16,7,26,12,18,6,11,5,10,9]
def aoU:List Nat:=[0,1,56,2,57,49,28,3,61,58,42,50,38,29,17,4,62,47,59,36,45,43,51,22,53,39,33,30,24,18,12,5,63,55,48,27,60,41,37,16,46,35,44,21,52,32,23,11,54,26,40,15,34,20,31,10,25,14,19,9,13,8,7,6]
def akc:List Nat:=[1,10,100,1000,10000,100000,1000000,10000000,100000000,1000000000,10000000000,100000000000,1000000000000,10000000000000,100000000000000,1000000000000000,10000000000000000,100000000000000000,1000000000000000000,10000000000000000000]
def aoV:List Nat:=[128,191,160,191,128,159,144,191,128,143,0,0,0,0,0,0,0,0,0,0,0,0,0,0,0,0,0,0,0,0,0,0]
def YL (l:List Nat):Obj->Obj:=aaZ ⟨l.map fun n=>Value.int .u8 (Int.ofNat n)⟩
noncomputable def zd (os:Os):World :=
 { World.holding ak os ⟨#[],#[],[]⟩ with heap:=(((((World.holding ak os ⟨#[],#[],[]⟩).heap.modify 4 (YL Pinned.utf8FirstZ)).modify 5 (YL aoV)).modify 1 (aaZ ⟨akc.map fun n=>Value.int .u64 (Int.ofNat n)⟩)).modify 2 (YL aoT)).modify 3 (YL aoU) }
end
end Go.Proofs.YtfbbfmcggbapoaaGreatDoor
end
