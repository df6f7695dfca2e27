import Derived.Test.YtnboooapeopjoaaGreatDoorJ5
import Derived.WalkKit
import Derived.ProofKit
import Derived.OpenShut
import Derived.WideKeyArgs
import Derived.Deep.DeepHandedRow
open Array renaming forIn_toList→aqv,getElem?_eq_getElem→ch,length_toList→jY,toList_append→jZ
open Bool renaming and_eq_true→aL,eq_iff_iff→mB,false_eq_true→cf,not_eq_true'→aql,not_true→aZ,or_eq_false_iff→apZ,true_and→aY
open ByteArray renaming data_append→wJ
open Decidable renaming not_not→apU
open Go.Proofs.Tryz renaming prog→af
open Int renaming cast_ofNat_Int→ct,le_refl→apC
open List renaming all_cons→cZ,all_nil→dY,any_eq_false→apB,append_assoc→Cq,append_nil→jv,cons_append→au,drop_eq_getElem_cons→dp,drop_eq_nil_of_le→eI,ext_getElem?→dy,foldl_cons→aM,foldl_nil→ba,forIn_cons→aqg,forIn_nil→aqa,getElem?_cons_succ→dx,getElem?_eq_getElem→ak,getElem?_eq_some_iff→az,getElem?_map→ae,getElem?_take→iZ,head?_cons→aqe,headD_cons→cr,length_cons→ay,length_map→ab,length_nil→aI,length_take→cd,map_cons→cR,map_map→uN,map_nil→cP,map_take→ap2,mem_append→ew,mem_append_left→hX,mem_append_right→gC,mem_cons→cb,mem_cons_of_mem→bP,mem_cons_self→b9,mem_flatMap→eM,mem_iff_getElem?→cq,mem_map→dv,mem_of_getElem?→aB,nil_append→ax,not_mem_nil→tv,replicate_succ→aD,replicate_zero→aE,take_add_one→br,take_length→ai,take_of_length_le→aX,take_succ_cons→gq,take_zero→e8
open Nat renaming add_zero→kC,le_of_ble_eq_true→jd,le_refl→aw,lt_succ_self→lR,zero_add→bE,zero_le→bn
open Option renaming bind_some→eL,getD_some→agG,map_eq_some_iff→bA
open Option.some renaming inj→kN
open Prod.mk renaming inj→rj
set_option linter.all false
section
namespace Go.Proofs.YtnboooapeopjoaaGreatDoor
open Go.Eng
variable [bg]
open Nat renaming reduceAdd → zA, reduceLT → zB, reduceLeDiff → zC, reduceMul → zD, reduceEqDiff → zE, reduceSub → zF
set_option maxHeartbeats 4000000
set_option maxRecDepth 100000
theorem Dc.Nw (d:Dc):d.expr.types.length<d.wt∧d.expr.labels.length<d.wt∧d.expr.kids.length<d.wt:=by have h1:=d.expr.sX;have h2:=d.expr.lK;have h3:=d.expr.iW;have h4:d.wt=1+d.name.size+d.note.size+bd Pm.wt d.params+d.lower.wt+d.upper.wt+d.type.wt+d.expr.wt+d.mod.size+d.target.size:=rfl;omega
theorem Dc.Nx {d:Dc} (uL:d.wt=1+d.name.size+d.note.size+bd Pm.wt d.params+d.lower.wt+d.upper.wt+d.type.wt+d.expr.wt+d.mod.size+d.target.size) (hw:d.wt≤1048576) {u:Ty} (hu:u∈[d.lower,d.upper,d.type]++d.params.map Pm.bound):u.wt≤1048576:=by
 rcases ew.1 hu with hu | hu
 ·simp only [cb,tv,or_false] at hu;rcases hu with rfl | rfl | rfl <;> omega
 obtain⟨p,hp,rfl⟩:=dv.1 hu;obtain⟨i,hi⟩:=cq.1 hp;have h1:=cu Pm.wt hi;have h2:p.wt=1+p.name.size+p.bound.wt:=rfl;omega
def yP (d:Dc) (j:Nat):List Ty:=[d.lower,d.upper,d.type]++(d.params.take j).map Pm.bound
theorem Ny {d:Dc} {j:Nat} {p:Pm} (h:d.params[j]?=some p):yP d (j+1)=yP d j++[p.bound]:=by unfold yP; rw [br,h]; simp
theorem Se (d:Dc):yP d d.params.length=[d.lower,d.upper,d.type]++d.params.map Pm.bound:=by unfold yP; rw [ai]
theorem Sf (d:Dc) {j:Nat} (h:j≤d.params.length):(yP d j).length=j+3:=by unfold yP; simp; omega
theorem Vm (hG:bg.g=some 1) (d:Dc) (bs:List Dc) (hw:d.wt≤1048576) (S4:bs.length≤1048576):∃ r_,(fun w=>w=num (wO bs d)) r_∧bR af 78 [aR d,.slice (bs.map aR)] r_:=by
 refine j3 tt_ok [] 90 [.tmp 4] (fn:=Tryz.f78) Tryz.func78 rfl Tryz.call78 ⟨rfl,rfl,by simp⟩ fun K hK=>?_;have uL:d.wt=1+d.name.size+d.note.size+bd Pm.wt d.params+d.lower.wt+d.upper.wt+d.type.wt+d.expr.wt+d.mod.size+d.target.size:=rfl;obtain⟨h1,h2,h3⟩:=d.Nw;have hp:d.params.length≤1048576:=by have:=cx Pm.wt (fun l=>by unfold Pm.wt; omega) d.params; omega
 obtain⟨acc,nJ⟩:∃ x,x=([d.lower,d.upper,d.type]++d.params.map Pm.bound):=⟨_,rfl⟩;have aeC:acc.length=d.params.length+3:=by rw [nJ]; simp <;> omega
 have my:wO bs d=(if Hi d=false then 1 else if 8<d.params.length∨65536<d.note.size then 7 else if Rb d=false then 4 else if (bs.any fun x=>decide (x.name=d.name))=true then 5 else if yK (d.params.map Pm.name)=true then 5 else if fh vM ([d.lower,d.upper,d.type]++d.params.map Pm.bound)≠0 then fh vM ([d.lower,d.upper,d.type]++d.params.map Pm.bound) else Tf d.expr):=rfl;have ef:∀ u∈acc,u.wt≤1048576:=by rw [nJ]; exact fun u hu=>Dc.Nx uL hw hu
 simp only [dL,aR,aq,aH];have ox:af.underlying 9=some .string:=by kernel_rfl
 have sl:∀ (a:ByteArray) (ty:TypeId),j5 af (Builtin.len_ #[9] ty) [.sc (.string a)]=some (num a.size):=fun a ty=>jI (P:=af) (tt:=tt) (T:=9) a ox ty;simp only [ag,aj,ab,sl,go_sem];refine cF (by have h:=HO d hp (by omega) (by omega) (by omega); simp only [dL,aR,aq,aH] at h; exact h) ?_;rintro _ rfl;simp only [ag,aj,ab,sl,go_sem];refine bY (fun uv=>?_) (fun uv=>?_);·(have bU:1=wO bs d:=by rw [my,if_pos (by simpa using uv)]);simp only [ag,aj,ab,sl,go_sem];first | exact hK _ (congrArg num bU) | exact hK _ (congrArg num my.symm)
 rw [if_neg (by simpa using uv)] at my;simp only [ag,aj,ab,sl,go_sem];refine bY (fun tQ=>?_) (fun tQ=>?_);·(have bU:7=wO bs d:=by rw [my,if_pos (.inl (by have:=of_decide_eq_true tQ; omega))]);simp only [ag,aj,ab,sl,go_sem];first | exact hK _ (congrArg num bU) | exact hK _ (congrArg num my.symm)
 simp only [ag,aj,ab,sl,go_sem];refine bY (fun pq=>?_) (fun pq=>?_);·(have bU:7=wO bs d:=by rw [my,if_pos (by first | exact .inl (by have:=of_decide_eq_true tQ; omega) | exact .inr (by have:=of_decide_eq_true pq; omega))]);simp only [ag,aj,ab,sl,go_sem];first | exact hK _ (congrArg num bU) | exact hK _ (congrArg num my.symm)
 rw [if_neg (by have h1_:=of_decide_eq_false tQ; have h2_:=of_decide_eq_false pq; omega)] at my;simp only [ag,aj,ab,sl,go_sem];refine cF (by have h:=Nv hG d hp (by omega); simp only [dL,aR,aq,aH] at h; exact h) ?_;rintro _ rfl;simp only [ag,aj,ab,sl,go_sem];refine bY (fun lD=>?_) (fun lD=>?_);·(have bU:4=wO bs d:=by rw [my,if_pos (by simpa using lD)]);simp only [ag,aj,ab,sl,go_sem];first | exact hK _ (congrArg num bU) | exact hK _ (congrArg num my.symm)
 rw [if_neg (by simpa using lD)] at my;simp only [ag,aj,ab,sl,go_sem];refine cS (by have h:=R9 d 135 (fun x=>decide (x.name=d.name)) bs (fun x _=>aab d x) S4; simp only [dL,fA,aR,aq,aH] at h; exact h) ?_;rintro _ rfl;simp only [ag,aj,ab,sl,go_sem];refine bY (fun BG=>?_) (fun BG=>?_);·(have bU:5=wO bs d:=by rw [my,if_pos BG]);simp only [ag,aj,ab,sl,go_sem];first | exact hK _ (congrArg num bU) | exact hK _ (congrArg num my.symm)
 rw [if_neg (by rw [BG]; simp)] at my;simp only [ag,aj,ab,sl,go_sem];refine ja tt_ok [] (fun a:Nat=>[(2,.ptr 0 0),(4,num 0),(5,.mp 1),(39,.slice (d.params.map dT)),(40,num d.params.length),(41,num a)]) (fun a:Nat=>[.box [num d.kind,str d.name,bl d.exported,bl d.deprecated,str d.note,.slice (d.params.map dT),num d.lower.kind,str d.lower.mod,str d.lower.name,.slice (bc d.lower.args),.slice (cB d.lower.bD),num d.upper.kind,str d.upper.mod,str d.upper.name,.slice (bc d.upper.args),.slice (cB d.upper.bD),num d.type.kind,str d.type.mod,str d.type.name,.slice (bc d.type.args),.slice (cB d.type.bD),num d.expr.kind,str d.expr.mod,str d.expr.name,str d.expr.text,num d.expr.num,.slice (bc d.expr.types),.slice (d.expr.labels.map cg),.slice (c8 d.expr.kids),str d.mod,str d.target],.map (js strVal 0 (eP [] ((d.params.take a).map Pm.name))) (eP [] ((d.params.take a).map Pm.name)).length]) (fun a=>d.params.length-a) (fun a=>a≤d.params.length) (0) 2 (ea (by omega) (by simp only [ag,aj,ab,sl,e8,eP,ba,js,dY,aI,ct,go_sem] <;> rfl)) (bn _) ?_;intro i hi;try dsimp only at hi
 try dsimp only
 have wM:=fun n=>((NG.eP (l:=(d.params.take i).map Pm.name) NG.nil).1).below n;intro Z1 eh;simp only [wM,ag,aj,ab,sl,go_sem];refine bY (fun Be=>?_) (fun Be=>?_);·(have ca:i<d.params.length:=by simpa using Be);obtain⟨p,hx⟩:∃ p,d.params[i]?=some p:=⟨_,ak ca⟩;have Ll:=G3 Pm.name [] hx;have EU:=fun B0 B2=>UU (eP [] ((d.params.take i).map Pm.name)) p.name (mem:=[B0,.map (js strVal 0 (eP [] ((d.params.take i).map Pm.name))) (eP [] ((d.params.take i).map Pm.name)).length,B2]) (b:=1) rfl;have kM:=bx i (by omega);have akk:=fun n=>((NG.eP (l:=(d.params.take (i+1)).map Pm.name) NG.nil).1).below n;simp only [wM,ae,hx,dT,aq,EU,kM,ag,aj,ab,sl,go_sem];refine eh _ ⟨i+1,?_,?_,ea (by omega) (by (simp only [← Ll,kM,akk,wM,go_sem]))⟩;(·exact ca);omega
 have ig:i=d.params.length:=by have:=of_decide_eq_false Be; omega
 subst ig;rw [ai];obtain⟨G,hGr⟩:∃ x,x=eP [] (d.params.map Pm.name):=⟨_,rfl⟩;have lf:=JG (d.params.map Pm.name);rw [← hGr,ab] at lf;rw [← hGr];have hlen:=fun B0=>UW (mem:=[B0,.map (js strVal 0 G) G.length]) (b:=1) G G.length rfl;have qZ:=fun n=>(hGr ▸ (NG.eP (l:=d.params.map Pm.name) NG.nil).1:NG G).below n;simp only [wM,hlen,qZ,ag,aj,ab,sl,go_sem];refine bY (fun Kj=>?_) (fun Kj=>?_);·(have Fa:yK (d.params.map Pm.name)=true:=by rw [← lf.2]; simpa using Kj);(have bU:5=wO bs d:=by rw [my,if_pos Fa]);simp only [wM,hlen,qZ,ag,aj,ab,sl,go_sem];first | exact hK _ (congrArg num bU) | exact hK _ (congrArg num my.symm)
 have Fa:yK (d.params.map Pm.name)=false:=by rw [← lf.2]; simpa using Kj
 rw [if_neg (by rw [Fa]; simp)] at my;simp only [wM,hlen,qZ,ag,aj,ab,sl,go_sem];refine ja tt_ok [] (fun a:Nat×Nat=>[(2,.ptr 0 0),(4,num 0),(8,.ms 2 a.2 0 (a.1+3)),(63,.slice (d.params.map dT)),(64,num d.params.length),(65,num a.1)]) (fun a:Nat×Nat=>[.box [num d.kind,str d.name,bl d.exported,bl d.deprecated,str d.note,.slice (d.params.map dT),num d.lower.kind,str d.lower.mod,str d.lower.name,.slice (bc d.lower.args),.slice (cB d.lower.bD),num d.upper.kind,str d.upper.mod,str d.upper.name,.slice (bc d.upper.args),.slice (cB d.upper.bD),num d.type.kind,str d.type.mod,str d.type.name,.slice (bc d.type.args),.slice (cB d.type.bD),num d.expr.kind,str d.expr.mod,str d.expr.name,str d.expr.text,num d.expr.num,.slice (bc d.expr.types),.slice (d.expr.labels.map cg),.slice (c8 d.expr.kids),str d.mod,str d.target],.map (js strVal 0 G) G.length,.rows a.2 5 (bc (yP d a.1))]) (fun a=>d.params.length-a.1) (fun a=>a.1≤d.params.length) ((0,0)) 3 (ea (by omega) (by simp only [wM,hlen,qZ,ag,aj,ab,sl,yP,e8,cP,jv,bc,aG,aq,qZ,ct,go_sem] <;> rfl)) (bn _) ?_;rintro⟨j,dV⟩ hj;try dsimp only at hj
 try dsimp only
 intro Z2 mR;simp only [wM,hlen,qZ,qZ,ag,aj,ab,sl,go_sem];refine bY (fun aam=>?_) (fun aam=>?_);·(have ca:j<d.params.length:=by simpa using aam);obtain⟨p,hx⟩:∃ p,d.params[j]?=some p:=⟨_,ak ca⟩;have kM:=bx j (by omega);(have JC:j+3≤34359738367:=by omega);(have akm:j≤34359738364:=by omega);have OP:yP d (j+1)=yP d j++[p.bound]:=Ny hx;have TQ:=Sf d (j:=j) (by omega);have mg:c5 [V.agg [num p.bound.kind,str p.bound.mod,str p.bound.name,.slice (bc p.bound.args),.slice (cB p.bound.bD)]] 0 5=true:=rfl;simp only [wM,hlen,qZ,qZ,ae,hx,dT,aq,kM,JC,akm,TQ,mg,au,ax,ag,aj,ab,sl,go_sem];refine mR _ ⟨(j+1,dV+1),?_,?_,ea (by omega) (by (simp [OP,TQ,dM,aG,aq,vt,lk,fX,iw,aA,aJ,qZ]))⟩;(·exact ca);dsimp only; omega
 have ig:j=d.params.length:=by have:=of_decide_eq_false aam; omega
 subst ig;have akn:yP d d.params.length=acc:=by rw [nJ]; exact Se d
 rw [akn,← aeC];simp only [wM,hlen,qZ,qZ,ag,ag,aj,ab,sl,go_sem];refine fQ tt_ok [] [77] 3 [2,14,18,29,33,42,54,66,75,76] (fun vs=>((acc.length:Int)-Go.Eng.intOf (vs.headD .undef)).toNat) (fun vs=>∃ i:Nat,vs=[num i]∧i≤acc.length∧fh vM acc=fh vM (acc.drop i)) (by omega) (by simp only [wM,hlen,qZ,qZ,ag,ag,aj,ab,sl,go_sem]) (⟨0,rfl,bn _,rfl⟩) fun vs hI Z3 xx=>?_;obtain⟨i,rfl,hi,hinv⟩:=hI;simp only [wM,hlen,qZ,qZ,ag,ag,aj,ab,sl,go_sem];refine bY (fun J9=>?_) (fun J9=>?_);·(have ca:i<acc.length:=by simpa using J9);obtain⟨u,hu⟩:∃ u,acc[i]?=some u:=⟨_,ak ca⟩;(have ga:((i:Nat):Int)<((acc.length:Nat):Int):=by omega);have kM:=bx i (by omega);have wS:=Dd vM hu;simp only [wM,hlen,qZ,qZ,ag,ga,bo,hu,aG,aq,kM,ag,aj,ab,sl,go_sem];refine cF (by have h:=wv hG u (by have:=u.ee; have:=ef u (aB hu); omega) (Ty.aeb (by have:=ef u (aB hu); omega)); rw [aG] at h; simp only [aq] at h; exact⟨_,rfl,h⟩) ?_;rintro _ rfl;simp only [wM,hlen,qZ,qZ,ag,ga,bo,hu,aG,aq,kM,ag,aj,ab,sl,go_sem];refine bY (fun aan=>?_) (fun aan=>?_);(·(have ep:vM u≠0:=by simpa using aan);(have hz:fh vM ([d.lower,d.upper,d.type]++d.params.map Pm.bound)=vM u:=by rw [← nJ,hinv,wS,if_neg ep]);(have bU:vM u=wO bs d:=by rw [my,if_pos (by rw [hz]; exact ep),hz]);simp only [wM,hlen,qZ,qZ,ag,ga,bo,hu,aG,aq,kM,ag,aj,ab,sl,go_sem];first | exact hK _ (congrArg num bU) | exact hK _ (congrArg num my.symm));(have hz:vM u=0:=by simpa using aan);simp only [wM,hlen,qZ,qZ,ag,ga,bo,hu,aG,aq,kM,ag,aj,ab,sl,go_sem];refine xx _ (lO (by omega) (by simp only [wM,hlen,qZ,qZ,ag,ga,bo,hu,aG,aq,kM,ag,aj,ab,sl,go_sem]) ?_ ?_) <;> simp only [eW,lk,reduceIte,zE];(·exact⟨i+1,rfl,ca,by rw [hinv,wS,if_pos hz]⟩);simp only [Go.Eng.intOf,cr]; omega
 have ig:¬ i<acc.length:=by simpa using J9
 have hz:fh vM ([d.lower,d.upper,d.type]++d.params.map Pm.bound)=0:=by rw [← nJ,hinv,eI (by omega)]; rfl
 rw [if_neg fun h_=>h_ hz] at my;simp only [wM,hlen,qZ,qZ,ag,ag,aj,ab,sl,go_sem];refine cF (by have h:=ET hG d.expr (by omega); rw [bj] at h; simp only [aH] at h; exact⟨_,rfl,h⟩) ?_;rintro _ rfl;simp only [wM,hlen,qZ,qZ,ag,ag,aj,ab,sl,go_sem];first | exact hK _ (congrArg num bU) | exact hK _ (congrArg num my.symm)
section
attribute [local irreducible] runM fH nV
theorem De (l:List Dc) (i:Nat) {d:Dc} (h:l[i]?=some d):(l.map aR)[i]?=some (.agg (fA d)):=by rw [ae,h]; rfl
theorem BH (l:List Pm) (i:Nat) {p:Pm} (h:l[i]?=some p):(l.map dT)[i]?=some (.agg ([str p.name,num p.gz]++aq p.bound)):=by rw [ae,h]; rfl

theorem Nz (m:Md) (hm:m.cM≤1048576):bR af 129 [kn m] (num m.size):=by
 unfold Md.cM at hm;have lf:=cx Dc.cM Dc.fY m.decls;have hle:∀ i,bd Dc.size (m.decls.take i)≤1048576:=fun i=>by have h1:=gv Dc.cM m.decls i;(have h2:∀ l:List Dc,bd Dc.size l≤bd Dc.cM l:=fun l=>by induction l with | nil=>simp [bd] | cons a r ih=>have:=Dc.size_le a; simp only [bd]; omega);have:=h2 (m.decls.take i); omega
 refine jA tt_ok (fn:=Tryz.f129) Tryz.func129 rfl Tryz.call129 ?_;simp only [dL,cH,Tryz.ntmps129,ay,aI,zA,zF,aD,aE];rw [pY];simp only [qD];refine ah tt_ok fun K hK=>?_;simp only [go_sem];refine hK _ ?_;refine ah tt_ok fun K hK=>?_;simp only [ab,go_sem];refine hK _ ?_;have kM:=k6 (1+(m.imports.length:Int)) (1+m.imports.length) (by omega) (by omega);rw [kM];refine bC ?_;refine ah tt_ok fun K hK=>?_;simp only [ab,go_sem];refine hK _ ?_;refine bX (df (fun N st=>∃ (i:Nat),N=m.decls.length-i∧i≤m.decls.length ∧ st = { fr:=[.undef,.undef,.undef,num ((1+m.imports.length+bd Dc.size (m.decls.take i):Nat)),.undef,.undef,.undef,.undef,.undef,.undef,.undef,.undef,.undef,.slice (m.decls.map aR),num m.decls.length,num i]++List.replicate 56 .undef,mem:=[] }) m.decls.length ?_ ?_);·exact⟨0,(false::false::false::true::(rp 9 false [true,true,true])),by omega,by simp only [aP,aA,aK,aJ,zB,er],rfl,0,by omega,by omega,rfl⟩
 rintro N' st ⟨i,rfl,hi,rfl⟩;simp only [dL,aD,aE];by_cases ca:i<m.decls.length;·have hd:=iA ca;refine ah tt_ok fun K hK=>?_;simp only [hd,go_sem];refine hK _ ?_;refine bC (aV rfl (cn ?_));refine bC (bX ?_);obtain⟨d,OK⟩:∃ d,m.decls[i]?=some d:=⟨_,ak ca⟩;have hds:=cu Dc.cM OK;have qc:d.cM=1+d.params.length+bd (fun p=>p.bound.size) d.params+d.lower.size+d.upper.size+d.type.size+d.expr.cM:=rfl;have Cx:=fj Dc.size OK;have mY:=d.size_le;have hT:=n7 d.type (by omega);have hL:=n7 d.lower (by omega);have hU:=n7 d.upper (by omega);have hE:=C4 d.expr (by omega);have hC:=M7 d (by omega);have hse:=Ex.l8 _ d.expr (aw _);have hln:=hle (i+1);have XD:=hle i;rw [aG] at hT hL hU;rw [bj] at hE;rw [vT] at hC;simp only [dL,aq,aH,fA] at hT hL hU hE hC;have my:=De m.decls i OK;simp only [dL,aq,aH,fA] at my;have kZ:=bx i (by omega);have hw3:=k6 (1+(d.params.length:Int)) (1+d.params.length) (by omega) (by omega);have hw4:=k6 (((1+m.imports.length+bd Dc.size (m.decls.take i):Nat):Int)+((1+d.params.length:Nat):Int)) (1+m.imports.length+bd Dc.size (m.decls.take i)+(1+d.params.length)) (by omega) (by omega);obtain⟨S,hS⟩:∃ S,S=1+m.imports.length+bd Dc.size (m.decls.take i)+(1+d.params.length):=⟨_,rfl⟩;rw [← hS] at hw4;refine ah tt_ok fun K hK=>?_;simp only [my,go_sem];refine hK _ ?_;refine ah tt_ok fun K hK=>?_;simp only [ab,hw3,hw4,go_sem];refine hK _ ?_;refine ah tt_ok fun K hK=>?_;simp only [go_sem];refine hK _ ?_;refine bX ?_;by_cases h0:d.kind=0;(·have d0:decide (d.kind=0)=true:=decide_eq_true h0;refine ah tt_ok fun K hK=>?_;simp only [d0,go_sem];refine hK _ ?_;refine aV rfl ?_;show eg _ _ _ _ _ _;refine ah tt_ok fun K hK=>?_;simp only [go_sem];refine .inl ⟨_,_,by simp only [go_sem,ai],hT,?_⟩;(try simp only [go_sem]);refine hK _ ?_;have Vn:=k6 ((S:Int)+(d.type.size:Int)) (S+d.type.size) (by omega) (by omega);rw [Vn];cases o8:d.clear with | true =>(have hdz:d.size=1+d.params.length+d.type.size:=by unfold Dc.size; rw [if_pos h0,if_pos o8,kC]);rw [o8] at hC;refine ah tt_ok fun K hK=>?_;simp only [go_sem];refine .inl ⟨_,_,by simp only [go_sem,ai],hC,?_⟩;(try simp only [go_sem]);refine hK _ ?_;refine aV rfl (cn ?_);show eg _ _ _ _ _ _;refine a8 tt_ok fun K hK=>?_;simp only [go_sem];refine hK _ ?_;rw [kZ];(have mo:S+d.type.size=1+m.imports.length+bd Dc.size (m.decls.take (i+1)):=by omega);rw [mo];exact⟨m.decls.length-(i+1),by omega,0,(false::false::false::true::(rp 9 false [true,true,true])),by omega,by simp only [aP,aA,aK,aJ,zB,er],rfl,i+1,rfl,ca,by simp [rp,aP]⟩ | false =>(have hdz:d.size=1+d.params.length+(d.type.size+(d.lower.size+d.upper.size)):=by unfold Dc.size; rw [if_pos h0,if_neg (by rw [o8]; simp)]);rw [o8] at hC;refine ah tt_ok fun K hK=>?_;simp only [go_sem];refine .inl ⟨_,_,by simp only [go_sem,ai],hC,?_⟩;(try simp only [go_sem]);refine hK _ ?_;refine aV rfl ?_;show eg _ _ _ _ _ _;refine l4 tt_ok cy [⟨.n,0,[],[],[]⟩,⟨.n,0,[],[],[]⟩,⟨.r,0,[],[],[]⟩,⟨.n,0,[],[],[]⟩,⟨.n,0,[],[],[]⟩,⟨.r,0,[],[],[]⟩,⟨.n,0,[],[],[]⟩,⟨.n,0,[],[],[]⟩,⟨.n,0,[],[],[]⟩,⟨.n,0,[],[],[]⟩] 0 (by kernel_rfl) fun K hK=>?_;simp only [go_sem,List.replicate];refine⟨_,_,by simp only [go_sem,ai],.inl (hL),?_⟩;(try simp only [go_sem,List.replicate]);refine⟨_,_,by simp only [go_sem,ai],.inl (hU),?_⟩;(try simp only [go_sem,List.replicate]);refine hK _ ?_;have Vo:=k6 ((d.lower.size:Int)+(d.upper.size:Int)) (d.lower.size+d.upper.size) (by omega) (by omega);rw [Vo];have Xs:=k6 (((S+d.type.size:Nat):Int)+((d.lower.size+d.upper.size:Nat):Int)) (S+d.type.size+(d.lower.size+d.upper.size)) (by omega) (by omega);rw [Xs];show eg _ _ _ _ _ _;refine a8 tt_ok fun K hK=>?_;simp only [go_sem];refine hK _ ?_;rw [kZ];(have mo:S+d.type.size+(d.lower.size+d.upper.size)=1+m.imports.length+bd Dc.size (m.decls.take (i+1)):=by omega);rw [mo];exact⟨m.decls.length-(i+1),by omega,0,(false::false::false::true::(rp 9 false [true,true,true])),by omega,by simp only [aP,aA,aK,aJ,zB,er],rfl,i+1,rfl,ca,by simp [rp,aP]⟩);have d0:decide (d.kind=0)=false:=decide_eq_false h0;refine ah tt_ok fun K hK=>?_;simp only [d0,go_sem];refine hK _ ?_;refine aV rfl ?_;show eg _ _ _ _ _ _;by_cases h1:d.kind=1;(·have d1:decide (d.kind=1)=true:=decide_eq_true h1;(have hdz:d.size=1+d.params.length+(d.type.size+d.expr.size+bd (fun p=>p.bound.size) d.params):=by unfold Dc.size; rw [if_neg h0,if_pos h1]);refine ah tt_ok fun K hK=>?_;simp only [d1,go_sem];refine hK _ ?_;refine aV rfl ?_;show eg _ _ _ _ _ _;refine m7 tt_ok cy [⟨.n,0,[],[],[]⟩,⟨.n,0,[],[],[]⟩,⟨.r,0,[],[],[]⟩,⟨.n,0,[],[],[]⟩,⟨.n,0,[],[],[]⟩,⟨.r,0,[],[],[]⟩,⟨.n,0,[],[],[]⟩,⟨.n,0,[],[],[]⟩,⟨.n,0,[],[],[]⟩,⟨.n,0,[],[],[]⟩] 0 (by kernel_rfl) fun K hK=>?_;simp only [go_sem,List.replicate];refine⟨_,_,by simp only [go_sem,ai],.inl (hT),?_⟩;(try simp only [go_sem,List.replicate]);refine⟨_,_,by simp only [go_sem,ai],.inl (hE),?_⟩;(try simp only [go_sem,List.replicate]);refine hK _ ?_;have Vn:=k6 ((d.type.size:Int)+(d.expr.size:Int)) (d.type.size+d.expr.size) (by omega) (by omega);rw [Vn];have Vo:=k6 ((S:Int)+((d.type.size+d.expr.size:Nat):Int)) (S+(d.type.size+d.expr.size)) (by omega) (by omega);rw [Vo];obtain⟨S1,hS1⟩:∃ S1,S1=S+(d.type.size+d.expr.size):=⟨_,rfl⟩;rw [← hS1];refine ah tt_ok fun K hK=>?_;simp only [ab,go_sem];refine hK _ ?_;refine bX (df (fun N st=>∃ (j:Nat),N=d.params.length-j∧j≤d.params.length ∧ st = { fr:=[.undef,.undef,.undef,num ((S1+bd (fun p=>p.bound.size) (d.params.take j):Nat)),.undef,.undef,.undef,.undef,.undef,.undef,.undef,.undef,.undef,.slice (m.decls.map aR),num m.decls.length,num i]++List.replicate 42 .undef++[.slice (d.params.map dT),num d.params.length,num j]++List.replicate 11 .undef,mem:=[] }) d.params.length ?_ ?_);(·exact⟨0,(false::false::false::true::(rp 9 false [true,true,true]))++List.replicate 42 false++[true,true,true],by omega,by simp only [aD,aE,au,ax,aP,aA,aK,aJ,zB,er],rfl,0,by omega,by omega,rfl⟩);rintro N' st ⟨j,rfl,hj,rfl⟩;simp only [dL,aD,aE];by_cases EV:j<d.params.length;(·have NZ:=iA EV;obtain⟨p,hp⟩:∃ p,d.params[j]?=some p:=⟨_,ak EV⟩;have tL:=cu (fun p:Pm=>p.bound.size) hp;have hpt:=fj (fun p:Pm=>p.bound.size) hp;have y8:=gv (fun p:Pm=>p.bound.size) d.params (j+1);have hP:=n7 p.bound (by omega);rw [aG] at hP;simp only [aq] at hP;have hpc:=BH d.params j hp;simp only [dL,aq] at hpc;have Xs:=k6 (((S1+bd (fun p=>p.bound.size) (d.params.take j):Nat):Int)+(p.bound.size:Int)) (S1+bd (fun p=>p.bound.size) (d.params.take (j+1))) (by omega) (by omega);have hw8:=bx j (by omega);refine ah tt_ok fun K hK=>?_;simp only [NZ,go_sem];refine hK _ ?_;refine bC (aV rfl (cn ?_));refine bC (bX ?_);refine ah tt_ok fun K hK=>?_;simp only [hpc,go_sem];refine hK _ ?_;refine a8 tt_ok fun K hK=>?_;simp only [go_sem];refine .inl ⟨_,_,by simp only [go_sem,ai],hP,?_⟩;(try simp only [go_sem]);refine hK _ ?_;rw [Xs];show eg _ _ _ _ _ _;refine a8 tt_ok fun K hK=>?_;simp only [go_sem];refine hK _ ?_;rw [hw8];exact⟨d.params.length-(j+1),by omega,0,(false::false::false::true::(rp 9 false [true,true,true]))++List.replicate 42 false++[true,true,true],by omega,by simp only [aD,aE,au,ax,aP,aA,aK,aJ,zB,er],rfl,j+1,rfl,EV,by simp [rp,aP]⟩);have NZ:=iB EV;(have XS:j=d.params.length:=by omega);subst XS;refine ah tt_ok fun K hK=>?_;simp only [NZ,go_sem];refine hK _ ?_;refine bC (aV rfl (eC ?_));(try rw [ai]);show eg _ _ _ _ _ _;refine a8 tt_ok fun K hK=>?_;simp only [go_sem];refine hK _ ?_;rw [kZ];(have mo:S1+bd (fun p=>p.bound.size) d.params=1+m.imports.length+bd Dc.size (m.decls.take (i+1)):=by omega);rw [mo];exact⟨m.decls.length-(i+1),by omega,0,(false::false::false::true::(rp 9 false [true,true,true])),by omega,by simp only [aP,aA,aK,aJ,zB,er],rfl,i+1,rfl,ca,by simp [rp,aP]⟩);have d1:decide (d.kind=1)=false:=decide_eq_false h1;(have hdz:d.size=1+d.params.length:=by unfold Dc.size; rw [if_neg h0,if_neg h1]; rfl);refine ah tt_ok fun K hK=>?_;simp only [d1,go_sem];refine hK _ ?_;refine aV rfl (cn ?_);show eg _ _ _ _ _ _;refine a8 tt_ok fun K hK=>?_;simp only [go_sem];refine hK _ ?_;rw [kZ];(have mo:S=1+m.imports.length+bd Dc.size (m.decls.take (i+1)):=by omega);rw [mo];exact⟨m.decls.length-(i+1),by omega,0,(false::false::false::true::(rp 9 false [true,true,true])),by omega,by simp only [aP,aA,aK,aJ,zB,er],rfl,i+1,rfl,ca,by simp [rp,aP]⟩
 have hd:=iB ca;refine ah tt_ok fun K hK=>?_;simp only [hd,go_sem];refine hK _ ?_;refine bC (aV rfl (eC ?_));have ju:i=m.decls.length:=by omega
 subst ju;show eg _ _ _ _ _ _;refine ah tt_ok fun K hK=>?_;simp only [go_sem];refine hK _ ?_;refine bW ⟨.inl rfl,?_⟩;try rw [ai]
 rfl
end
section
theorem Ak {α:Type} (l:List α) (f:α→V) (size:Nat) (hs:∀ a,(f a).cells.length=size) (i:Nat) (hi:i≤l.length) (mem:List bm):cutAt mem size 0 (some (i:Int)) (.slice (l.map f))=some (.slice ((l.take i).map f)):=by
 unfold cutAt;have h1:c5 (l.map f) (0:Int).toNat size=true:=by unfold c5; split;(·rename_i h; simp at h; obtain⟨t,-,rfl⟩:=h; simp [hs]);rfl
 simp only [agG];rw [if_pos ⟨apC _,by omega,by simpa using hi,h1⟩];simp [ap2]
def nM (i:Nat) (r:Nat×Int):Nat×Int:=if r.2=0 then (0,0) else (r.1+i,r.2)
theorem NA {α:Type} (f:List α→α→Int):∀ (l b:List α),(kz f b l).2=0→kz f b l=(0,0)
 | [],_,_=>rfl
 | x :: r,b,h=>by
  unfold kz at h ⊢
  split at h
  ·rename_i h1
   rw [if_pos h1]
   split at h
   ·rename_i h2; rw [if_pos h2]
   rename_i h2; exact absurd h h2
  rename_i h1; exact absurd h h1
theorem yy {α:Type} {f:List α→α→Int} {b l:List α}:nM 0 (kz f b l)=kz f b l:=by
 unfold nM;split;·rename_i h; rw [NA f _ _ h]
 rfl
theorem Km {α:Type} (f:List α→α→Int) {l:List α} {i:Nat} {x:α} (h:l[i]?=some x):kz f (l.take i) (l.drop i)=if f (l.take i) x=0 then nM 1 (kz f (l.take (i+1)) (l.drop (i+1))) else (0,f (l.take i) x):=by have h1:=az.1 h;rw [dp h1.1,h1.2,br,h];rfl
theorem HP {α:Type} (f:List α→α→Int) {l:List α} {i:Nat} {x:α} (h:l[i]?=some x) (hz:f (l.take i) x=0):nM i (kz f (l.take i) (l.drop i))=nM (i+1) (kz f (l.take (i+1)) (l.drop (i+1))):=by
 rw [Km f h,if_pos hz];unfold nM;by_cases h2:(kz f (l.take (i+1)) (l.drop (i+1))).2=0;·simp [h2]
 simp [h2]; omega
theorem wz {α:Type} (f:List α→α→Int) {l:List α} {i:Nat} {x:α} {e:Int} (h:l[i]?=some x) (he:f (l.take i) x=e) (ep:e≠0):(nM i (kz f (l.take i) (l.drop i))).2=e:=by rw [Km f h,he,if_neg ep];unfold nM;rw [if_neg ep]
theorem NB {α:Type} (f:List α→α→Int) {l:List α} {i:Nat} {x:α} {e:Int} (h:l[i]?=some x) (he:f (l.take i) x=e) (ep:e≠0):nM i (kz f (l.take i) (l.drop i))=(i,e):=by rw [Km f h,he,if_neg ep];unfold nM;rw [if_neg ep]; simp
section
attribute [local go_sem] ab bN
theorem Vp (hG:bg.g=some 1) (m:Md) (hw:m.wt≤1048576):∃ r_,(fun w=>w=num (xk m)) r_∧bR af 77 [kn m] r_:=by
 refine j3 tt_ok [] 59 [.tmp 2] (fn:=Tryz.f77) Tryz.func77 rfl Tryz.call77 ⟨rfl,rfl,by simp⟩ fun K hK=>?_;have hmw:m.wt=1+m.path.size+bd Im.wt m.imports+bd Dc.wt m.decls:=rfl;have hmb:=m.iW;have ga:m.imports.length≤1048576:=by have:=cx Im.wt (fun l=>by unfold Im.wt; omega) m.imports; omega
 have my:xk m=(if ec m.path=false then 4 else if 16<m.imports.length∨64<m.decls.length∨4096<m.size then 7 else (kz (Cj m.path) [] m.imports).2):=rfl;simp only [pY,qD];simp only [go_sem];refine cF (lJ hG m.path (by omega)) ?_;rintro _ rfl;simp only [go_sem];refine bY (fun hc5=>?_) (fun hc5=>?_);·(have bU:4=xk m:=by rw [my,if_pos (by simpa using hc5)]);simp only [go_sem];exact hK _ (congrArg num bU)
 rw [if_neg (by simpa using hc5)] at my;simp only [go_sem];refine bY (fun tQ=>?_) (fun tQ=>?_);·(have bU:7=xk m:=by rw [my,if_pos (.inl (by have:=of_decide_eq_true tQ; omega))]);simp only [go_sem];exact hK _ (congrArg num bU)
 simp only [go_sem];refine bY (fun Kn=>?_) (fun Kn=>?_);·(have bU:7=xk m:=by rw [my,if_pos (.inr (.inl (by have:=of_decide_eq_true Kn; omega)))]);simp only [go_sem];exact hK _ (congrArg num bU)
 simp only [go_sem];refine cF (by have h:=Nz m (by omega); rw [pY] at h; simp only [qD] at h; exact⟨_,rfl,h⟩) ?_;rintro _ rfl;simp only [go_sem];refine bY (fun qE=>?_) (fun qE=>?_);·(have bU:7=xk m:=by rw [my,if_pos (.inr (.inr (by have:=of_decide_eq_true qE; omega)))]);simp only [go_sem];exact hK _ (congrArg num bU)
 rw [if_neg (by have h1_:=of_decide_eq_false tQ; have h2_:=of_decide_eq_false Kn; have h3_:=of_decide_eq_false qE; omega)] at my;simp only [go_sem];refine fQ tt_ok [] [29] 1 [1,5,10,27,28] (fun vs=>((m.imports.length:Int)-Go.Eng.intOf (vs.headD .undef)).toNat) (fun vs=>∃ i:Nat,vs=[num i]∧i≤m.imports.length∧kz (Cj m.path) [] m.imports=nM i (kz (Cj m.path) (m.imports.take i) (m.imports.drop i))) (by omega) (by simp only [go_sem]) (⟨0,rfl,bn _,yy.symm⟩) fun vs hI Z1 eh=>?_;obtain⟨i,rfl,hi,hinv⟩:=hI;simp only [go_sem];refine bY (fun Bv=>?_) (fun Bv=>?_);·(have ca:i<m.imports.length:=by simpa using Bv);obtain⟨y,hx⟩:∃ y,m.imports[i]?=some y:=⟨_,ak ca⟩;have kM:=bx i (by omega);have hyw:=cu Im.wt hx;have hyd:y.wt=1+y.path.size+y.alias.size:=rfl;have hcut:=Ak m.imports cz 2 (fun _=>rfl) i (by omega);simp only [ae,hx,cz,hcut,kM,go_sem];refine cF (lJ hG y.path (by omega)) ?_;rintro _ rfl;simp only [ae,hx,cz,hcut,kM,go_sem];refine bY (fun aeF=>?_) (fun aeF=>?_);(·(have hz:(kz (Cj m.path) [] m.imports).2=4:=by rw [hinv]; exact wz (Cj m.path) hx (by unfold Cj; clear my hK; simp_all) (by decide));(have bU:4=xk m:=by rw [my,hz]);simp only [ae,hx,cz,hcut,kM,go_sem];exact hK _ (congrArg num bU));simp only [ae,hx,cz,hcut,kM,go_sem];refine cF (jo hG _) ?_;rintro _ rfl;simp only [ae,hx,cz,hcut,kM,go_sem];refine bY (fun akr=>?_) (fun akr=>?_);(·(have hz:(kz (Cj m.path) [] m.imports).2=4:=by rw [hinv]; exact wz (Cj m.path) hx (by unfold Cj; clear my hK; simp_all) (by decide));(have bU:4=xk m:=by rw [my,hz]);simp only [ae,hx,cz,hcut,kM,go_sem];exact hK _ (congrArg num bU));simp only [ae,hx,cz,hcut,kM,go_sem];refine bY (fun aks=>?_) (fun aks=>?_);(·(have hz:(kz (Cj m.path) [] m.imports).2=14:=by rw [hinv]; exact wz (Cj m.path) hx (by unfold Cj; clear my hK; simp_all) (by decide));(have bU:14=xk m:=by rw [my,hz]);simp only [ae,hx,cz,hcut,kM,go_sem];exact hK _ (congrArg num bU));simp only [ae,hx,cz,hcut,kM,go_sem];refine cS (Sb _ (fun n hn=>rfl) y 131 (fun x=>decide (x.path=y.path)||decide (x.alias=y.alias)) (m.imports.take i) (fun x _=>aac _ (fun n hn=>rfl) y x) (by rw [cd]; omega)) ?_;rintro _ rfl;simp only [ae,hx,cz,hcut,kM,go_sem];refine bY (fun Sg=>?_) (fun Sg=>?_);(·(have hz:(kz (Cj m.path) [] m.imports).2=5:=by rw [hinv]; exact wz (Cj m.path) hx (by unfold Cj; clear my hK; simp_all) (by decide));(have bU:5=xk m:=by rw [my,hz]);simp only [ae,hx,cz,hcut,kM,go_sem];exact hK _ (congrArg num bU));simp only [ae,hx,cz,hcut,kM,go_sem];refine eh _ (lO (by omega) (by simp only [ae,hx,cz,hcut,kM,go_sem]) ?_ ?_) <;> simp only [eW,lk,reduceIte,zE];(·exact⟨i+1,rfl,ca,hinv.trans (HP (Cj m.path) hx (by unfold Cj; simp_all))⟩);simp only [Go.Eng.intOf,cr]; omega
 have ig:¬ i<m.imports.length:=by simpa using Bv
 have hz:(kz (Cj m.path) [] m.imports).2=0:=by rw [hinv,eI (by omega)]; rfl
 have bU:0=xk m:=by rw [my,hz]
 simp only [go_sem];exact hK _ (congrArg num bU)
end
section
attribute [local go_sem] ab
theorem oq (hG:bg.g=some 1) (m:Md) (hw:m.wt≤1048576):∃ r_,(fun w=>w = .eV [num (rU m).1,num (rU m).2]) r_∧bR af 31 [kn m] r_:=by
 refine j3 tt_ok [] 32 [.tmp 2,.tmp 3] (fn:=Tryz.f31) Tryz.func31 rfl Tryz.call31 ⟨rfl,rfl,by simp⟩ fun K hK=>?_;have hmw:m.wt=1+m.path.size+bd Im.wt m.imports+bd Dc.wt m.decls:=rfl;have lf:m.decls.length≤1048576:=by have:=cx Dc.wt (fun l=>by unfold Dc.wt; omega) m.decls; omega
 simp only [pY,qD];simp only [go_sem];refine cF (by have h:=Vp hG m hw; rw [pY] at h; simp only [qD] at h; exact h) ?_;rintro _ rfl;simp only [go_sem];refine bY (fun mV=>?_) (fun mV=>?_);·(have ep:xk m≠0:=by simpa using mV);(have bU:rU m=(-1,xk m):=by unfold rU; rw [if_pos ep]);simp only [go_sem];exact hK _ (by rw [bU] <;> rfl)
 have Pr:xk m=0:=by simpa using mV
 have hcm:rU m=((((kz wO [] m.decls).1:Nat):Int),(kz wO [] m.decls).2):=by unfold rU; rw [if_neg (by simp [Pr])]
 simp only [go_sem];refine fQ tt_ok [] [16] 1 [1,11,14,15] (fun vs=>((m.decls.length:Int)-Go.Eng.intOf (vs.headD .undef)).toNat) (fun vs=>∃ i:Nat,vs=[num i]∧i≤m.decls.length∧kz wO [] m.decls=nM i (kz wO (m.decls.take i) (m.decls.drop i))) (by omega) (by simp only [go_sem]) (⟨0,rfl,bn _,yy.symm⟩) fun vs hI Z1 eh=>?_;obtain⟨i,rfl,hi,hinv⟩:=hI;simp only [go_sem];refine bY (fun uy=>?_) (fun uy=>?_);·(have ca:i<m.decls.length:=by simpa using uy);obtain⟨d,hx⟩:∃ d,m.decls[i]?=some d:=⟨_,ak ca⟩;have kM:=bx i (by omega);have hdw:=cu Dc.wt hx;have hcut:=Ak m.decls aR 31 (fun _=>rfl) i (by omega);simp only [ae,hx,aR,aq,aH,au,ax,hcut,kM,go_sem];refine fO tt_ok cy [⟨.r,0,[],[],[]⟩,⟨.n,0,[],[],[]⟩,⟨.r,0,[],[],[]⟩,⟨.n,0,[],[],[]⟩,⟨.r,0,[],[],[]⟩,⟨.n,0,[],[],[]⟩,⟨.n,0,[],[],[]⟩] 0 (by kernel_rfl) ?_;simp only [ae,hx,aR,aq,aH,au,ax,hcut,kM,go_sem];refine cG (by have h:=Vm hG d (m.decls.take i) (by omega) (by rw [cd]; omega); simp only [dL,aR,aq,aH] at h; exact h) ?_;rintro _ rfl;simp only [ae,hx,aR,aq,aH,au,ax,hcut,kM,go_sem];refine bY (fun Bf=>?_) (fun Bf=>?_);(·(have ep:wO (m.decls.take i) d≠0:=by simpa using Bf);(have bU:rU m=((i:Int),wO (m.decls.take i) d):=by rw [hcm,hinv,NB wO hx rfl ep]);simp only [ae,hx,aR,aq,aH,au,ax,hcut,kM,go_sem];exact hK _ (by rw [bU] <;> rfl));(have hz:wO (m.decls.take i) d=0:=by simpa using Bf);simp only [ae,hx,aR,aq,aH,au,ax,hcut,kM,go_sem];refine eh _ (lO (by omega) (by simp only [ae,hx,aR,aq,aH,au,ax,hcut,kM,go_sem]) ?_ ?_) <;> simp only [eW,lk,reduceIte,zE];(·exact⟨i+1,rfl,ca,hinv.trans (HP wO hx hz)⟩);simp only [Go.Eng.intOf,cr]; omega
 have ig:¬ i<m.decls.length:=by simpa using uy
 have bU:rU m=(0,0):=by rw [hcm,hinv,eI (by omega)]; rfl
 simp only [go_sem];exact hK _ (by rw [bU] <;> rfl)
end
end
theorem nz {α:Type} (f:α→Int):∀ l:List α,fh f l=0→∀ x∈l,f x=0
 | [],_,x,h=>by cases h
 | u :: r,h,x,hx=>by
  unfold fh at h
  by_cases hu:f u=0
  ·rw [if_pos hu] at h
   cases hx with
   | head=>exact hu
   | tail _ hx=>exact nz f r h x hx
  rw [if_neg hu] at h; exact absurd h hu
theorem BI {α:Type} (f:List α→α→Int):∀ (l b:List α),(kz f b l).2=0→∀ x∈l,∃ c,f c x=0
 | [],_,_,x,h=>by cases h
 | u :: r,b,h,x,hx=>by
  unfold kz at h
  by_cases hu:f b u=0
  ·rw [if_pos hu] at h
   by_cases h2:(kz f (b++[u]) r).2=0
   ·cases hx with
    | head=>exact⟨b,hu⟩
    | tail _ hx=>exact BI f r _ h2 x hx
   rw [if_neg h2] at h; exact absurd h h2
  rw [if_neg hu] at h; exact absurd h hu
theorem HQ (m:Md) (h:(rU m).2=0):∀ d∈m.decls,∃ c,wO c d=0:=by
 unfold rU at h;by_cases h1:xk m≠0;·rw [if_pos h1] at h; exact absurd h h1
 rw [if_neg h1] at h; exact BI wO _ _ h
theorem LF (c:List Dc) (d:Dc) (h:wO c d=0):Tf d.expr=0:=by
 unfold wO at h;split at h;·cases h
 split at h;·cases h
 split at h;·cases h
 split at h;·cases h
 split at h;·cases h
 split at h;·next h1=>exact absurd h h1
 exact h
theorem HR (e:Ex) (h:Tf e=0):∀ y∈e.nodes,yL y=0:=by
 unfold Tf at h;split at h;·cases h
 exact nz _ _ h
theorem aeH (y:Ex) (h:yL y=0) (hk:y.kind=13):y.kids.length≤y.labels.length+1:=by
 unfold yL at h;rw [hk,show oB 13=some ⟨⟨#[118]⟩,1,true,1⟩ from rfl] at h;dsimp only at h;split at h;·cases h
 next h1 =>
 have h2:sj y ⟨#[118]⟩ 1 true 1=true:=by cases hf:sj y ⟨#[118]⟩ 1 true 1;(·exact absurd hf h1);rfl
 unfold sj at h2;simp only [aL,aql] at h2;have h9:=h2.1.2;unfold q9 A3 at h9;rw [hk] at h9;simp at h9;omega
theorem PR (m:Md) (h:(rU m).2=0):∀ d∈m.decls,tr d.expr:=fun d hd y hy hk=>by obtain⟨c,hc⟩:=HQ m h d hd;exact aeH y (HR _ (LF c d hc) y hy) hk
theorem Vq (l:List Dc):bd Dc.size l≤bd Dc.cM l:=by induction l with | nil=>exact aw _ | cons x r ih=>have:=Dc.size_le x; simp only [bd] at *; omega
theorem W0 (m:Md) (h1:ec m.path=true) (h2:Nat.ble m.imports.length 16=true) (h3:Nat.ble m.decls.length 64=true) (h4:Nat.ble (1+m.imports.length+bd Dc.cM m.decls) 4096=true)
  (h5:(kz (Cj m.path) [] m.imports).2=0):xk m=0:=by
 have h2:=jd h2;have h3:=jd h3;have h4:=jd h4;have h6:=Vq m.decls;have h7:m.size≤4096:=by unfold Md.size; omega
 unfold xk;rw [if_neg (by rw [h1]; simp),if_neg (by omega),h5]
def noZ:List UInt8→Bool
 | []=>true
 | b :: l=>!(b==32&&l.head?==some 122)&&noZ l
theorem LG (r:List UInt8):∀ l,noZ l=true→Lib.index l (32 :: 122 :: r) = -1
 | [],_=>rfl
 | b :: l,h=>by
  unfold noZ at h
  simp only [aL] at h
  have hp:(32 :: 122 :: r:List UInt8).isPrefixOf (b :: l)=false:=by
   cases l with
   | nil=>simp [List.isPrefixOf]
   | cons c l =>
    have h1:=h.1
    simp only [aqe] at h1
    simp only [List.isPrefixOf]
    by_cases hb:b=32
    ·subst hb
     by_cases hc:c=122
     ·subst hc; exact absurd h1 (by decide)
     rw [show ((122:UInt8)==c)=false from by rw [beq_eq_false_iff_ne]; exact fun h=>hc h.symm]; simp
    rw [show ((32:UInt8)==b)=false from by rw [beq_eq_false_iff_ne]; exact fun h=>hb h.symm]; simp
  unfold Lib.index
  rw [hp,LG r l h.2]
  simp
theorem aap (s:ByteArray):kwB (zz s)=false:=by
 unfold kwB;have e:(⟨#[32]⟩++zz s++⟨#[32]⟩:ByteArray).data.toList=32 :: 122 :: (s.data.toList++[32]):=by rw [wJ,wJ,jZ,jZ,EK]; rfl
 rw [e];unfold Lib.contains;rw [LG _ _ (by kernel_rfl)];rfl
def zOk (s:ByteArray):Prop:=gy s=true∧s.size≤20
theorem Vr {s:ByteArray} (h:zOk s):gy (zz s)=true:=by
 obtain⟨h,hs⟩:=h;unfold gy at h ⊢;simp only [aL,decide_eq_true_eq] at h;obtain⟨⟨⟨⟨h1,h2⟩,h3⟩,h4⟩,h5⟩:=h;have e0:ff (zz s) 0=122:=by (have:(zz s)[0]?=some 122:=by (have h0:(zz s).data.toList[0]?=some 122:=by rw [EK]; rfl);obtain⟨c,hc⟩:=ft (s:=zz s) (i:=0) (by rw [zi]; omega);have:=rV hc;rw [h0] at this;rw [hc]; exact this.symm);rw [fM this]; rfl
 rw [zi,e0,aap];have e4:lP oK (zz s)=true:=by unfold lP at h4 ⊢;rw [EK,cZ,h4]; rfl
 rw [e4];simp only [aL,decide_eq_true_eq];exact⟨⟨⟨⟨by omega,by omega⟩,by decide⟩,trivial⟩,rfl⟩
theorem Vs {s:ByteArray} (h:zOk s):vH (zz s)=true:=by unfold vH; rw [Vr h]; simp
theorem Vt {k k0:Int} {m:ByteArray} (h:vH m=true) (hz:k=k0→m≠⟨#[]⟩→zOk m):vH (zM k k0 m)=true:=by
 unfold zM;split;·rename_i h2; exact Vs (hz h2.1 h2.2)
 exact h
theorem Sh {t:Ty} (h:vM t=0):∀ u∈t.nodes,MV u=0:=by
 unfold vM at h;split at h;·cases h
 exact nz _ _ h
theorem aeI {t:Ty} (h:MV t=0):(t.kind=9→t.mod=⟨#[]⟩)∧(t.kind=10∨t.kind=9→t.bD=[]):=by
 unfold MV at h;split at h;·cases h
 rename_i h1;have hs:Zp t=true:=by simpa using h1
 unfold Zp at hs;have he:∀ s,jB s=true→s=⟨#[]⟩:=fun s h=>of_decide_eq_true h;have k:∀ n:Int,t.kind=n→(n=9∨n=10)→(n=9→t.mod=⟨#[]⟩)∧t.bD=[]:=by intro n hk hn;rw [hk] at hs;(rcases hn with rfl | rfl);(·simp at hs; exact⟨fun _=>he _ hs.2.1.1,hs.2.2⟩);simp at hs; exact⟨fun h=>absurd h (by decide),hs.2⟩
 refine⟨fun h9=>(k 9 h9 (.inl rfl)).1 rfl,fun h=>?_⟩;rcases h with h | h
 ·exact (k 10 h (.inr rfl)).2
 exact (k 9 h (.inl rfl)).2
theorem aeJ {t:Ty} (h:vM t=0):nmT t:=fun u hu=>aeI (Sh h u hu)
theorem aaq (f:Lb→Bool) (l:List Lb) (h:∀ x,f (x.res gZ)=f x):(l.map (Lb.res gZ)).any f=l.any f:=by rw [List.any_map]; congr 1; funext x; exact h x
theorem ahe {x:Ex} {fl:ByteArray} (hz:x.kind=4→x.mod≠⟨#[]⟩→zOk x.mod) (h:A4 x fl=false):A4 x.jf fl=false:=by
 have hl:x.jf.labels.any (vW fl)=x.labels.any (vW fl):=by rw [x.Bt]; exact aaq _ _ fun l=>rfl
 have hm:m1 x fl=false→m1 x.jf fl=false:=by unfold m1;rw [x.zj];intro h;cases hf:tp fl ⟨#[109]⟩ with | false=>rfl | true =>rw [hf] at h;(have:vH x.mod=true:=by simpa using h);rw [Vt this hz]; rfl
 unfold A4 at h ⊢;simp only [apZ] at h ⊢;obtain⟨⟨⟨h1,h2⟩,h3⟩,h4⟩:=h;refine⟨⟨⟨hm h1,?_⟩,?_⟩,by rw [hl]; exact h4⟩;·unfold m2 at h2 ⊢; rw [x.Bs,x.wo]; exact h2
 unfold m3 at h3 ⊢; rw [x.Bs,x.HE]; exact h3
theorem aku {k:Int} {f:Fo} (hf:oB k=some f) (hk:k≠8):tp f.fl ⟨#[116]⟩=false:=by
 unfold oB at hf;by_cases h0:k=0;·rw [if_pos h0] at hf; cases hf; kernel_rfl
 rw [if_neg h0] at hf;by_cases h1:k=1;·rw [if_pos h1] at hf; cases hf; kernel_rfl
 rw [if_neg h1] at hf;by_cases h2:k=2;·rw [if_pos h2] at hf; cases hf; kernel_rfl
 rw [if_neg h2] at hf;by_cases h3:k=3;·rw [if_pos h3] at hf; cases hf; kernel_rfl
 rw [if_neg h3] at hf;by_cases h4:k=4;·rw [if_pos h4] at hf; cases hf; kernel_rfl
 rw [if_neg h4] at hf;by_cases h5:k=5;·rw [if_pos h5] at hf; cases hf; kernel_rfl
 rw [if_neg h5] at hf;by_cases h6:k=6;·rw [if_pos h6] at hf; cases hf; kernel_rfl
 rw [if_neg h6] at hf;by_cases h7:k=7;·rw [if_pos h7] at hf; cases hf; kernel_rfl
 rw [if_neg h7] at hf;by_cases h8:k=8;·exact absurd h8 hk
 rw [if_neg h8] at hf;by_cases h9:k=9;·rw [if_pos h9] at hf; cases hf; kernel_rfl
 rw [if_neg h9] at hf;by_cases TD:k=10;·rw [if_pos TD] at hf; cases hf; kernel_rfl
 rw [if_neg TD] at hf;by_cases XZ:k=11;·rw [if_pos XZ] at hf; cases hf; kernel_rfl
 rw [if_neg XZ] at hf;by_cases h12:k=12;·rw [if_pos h12] at hf; cases hf; kernel_rfl
 rw [if_neg h12] at hf;by_cases tO:k=13;·rw [if_pos tO] at hf; cases hf; kernel_rfl
 rw [if_neg tO] at hf;by_cases Xo:k=14;·rw [if_pos Xo] at hf; cases hf; kernel_rfl
 rw [if_neg Xo] at hf;by_cases h15:k=15;·rw [if_pos h15] at hf; cases hf; kernel_rfl
 rw [if_neg h15] at hf;by_cases ZS:k=16;·rw [if_pos ZS] at hf; cases hf; kernel_rfl
 rw [if_neg ZS] at hf;cases hf
theorem aeK {x:Ex} (h:yL x=0):(x.kind=3→x.mod=⟨#[]⟩)∧(x.kind=3∨x.kind=4→x.labels=[])∧(x.kind≠8→∀ l∈x.labels,jc l.ty=true)∧∀ t∈x.own,nmT t:=by
 unfold yL at h;split at h;·cases h
 rename_i f hf;split at h;·cases h
 rename_i h1;have B4:sj x f.fl f.ty f.lb f.kd=true:=by simpa using h1
 unfold sj at B4;simp only [aL] at B4;obtain⟨⟨⟨⟨⟨⟨⟨⟨⟨h1,h2⟩,h3⟩,h4⟩,h5⟩,h6⟩,h7⟩,h8⟩,h9⟩,TD⟩:=B4;refine⟨fun hk=>?_,fun hk=>?_,fun hk l hl=>?_,fun t ht=>?_⟩;·rw [hk,show oB 3=some ⟨⟨#[110]⟩,0,false,0⟩ from rfl] at hf;cases hf;unfold q1 at h1;rw [show tp ⟨#[110]⟩ ⟨#[109]⟩=false from by kernel_rfl] at h1;(have:jB x.mod=true:=by simpa using h1);exact of_decide_eq_true this
 ·(have hlb:f.lb=false:=by (rcases hk with hk | hk <;> rw [hk] at hf);(·rw [show oB 3=some ⟨⟨#[110]⟩,0,false,0⟩ from rfl] at hf; cases hf; rfl);rw [show oB 4=some ⟨⟨#[109,110]⟩,-1,false,0⟩ from rfl] at hf; cases hf; rfl);unfold q8 at h8;rw [hlb] at h8;(have:¬ 0<x.labels.length:=by simpa using h8);exact List.eq_nil_of_length_eq_zero (by omega)
 ·(have hb:nx f.fl l=false:=by have:=TD;rw [aql] at this;exact (apB.1 this l hl) |> fun h=>by simpa using h);unfold nx at hb;simp only [apZ] at hb;have h2:=hb.1.2;have ht:tp f.fl ⟨#[116]⟩=false:=aku hf hk;rw [ht] at h2;simpa using h2
 have h':=h;split at h';·cases h'
 split at h';·cases h'
 split at h';·rename_i h4; exact absurd h' h4
 split at h';·cases h'
 exact aeJ (nz _ _ h' t ht)
theorem EW {a b:Bool} (h:(a&&b)=true):a=true∧b=true:=by simpa using h
theorem Vu {c:List Dc} {d:Dc} (h:wO c d=0):Hi d=true∧Rb d=true∧(∀ t∈d.tys,vM t=0)∧Tf d.expr=0:=by
 have hx:=LF c d h;unfold wO at h;split at h;·cases h
 rename_i h1;split at h;·cases h
 split at h;·cases h
 rename_i h3;split at h;·cases h
 split at h;·cases h
 split at h;·rename_i h4; exact absurd h h4
 rename_i h4;exact⟨by simpa using h1,by simpa using h3,fun t ht=>nz _ _ (apU.1 h4) t ht,hx⟩
def Im.jf (x:Im):Im := { x with alias:=zz x.alias }
def Md.jf (m:Md):Md:=⟨m.path,m.imports.map Im.jf,m.decls.map Dc.jf⟩
theorem fw {α:Type} {g h:α→Nat}:∀ {l:List α},(∀ x∈l,g x≤h x)→bd g l≤bd h l
 | [],_=>aw _
 | a :: r,e=>by
  have h1:=e a (b9 ..)
  have h2:=fw (l:=r) fun x hx=>e x (bP _ hx)
  simp only [bd]; omega
theorem aeL {m:Md} (h:(rU m).2=0):xk m=0∧(kz wO [] m.decls).2=0:=by
 unfold rU at h;split at h;·rename_i h1; exact absurd h h1
 rename_i h1; exact⟨apU.1 h1,h⟩
theorem wA (m:Md):∀ (l:List Dc) (i:Nat),eK m i l=none→∀ k d,l[k]?=some d→sk (Xm m (i+k)) d=0
 | [],_,_,k,d,h=>by simp at h
 | e :: r,i,h,k,d,hd=>by
  unfold eK at h
  split at h
  ·rename_i h0
   cases k with
   | zero=>cases hd; exact h0
   | succ k =>
    have:=wA m r (i+1) h k d (by simpa using hd)
    rwa [show i+(k+1)=i+1+k by omega]
  cases h
theorem wB (m:Md):∀ (l:List Dc) (i:Nat) (p:Nat×Int),eK m i l=some p→p.2≠0
 | [],_,_,h=>by cases h
 | e :: r,i,p,h=>by
  unfold eK at h
  split at h
  ·exact wB m r _ p h
  rename_i h0; cases h; exact h0
theorem LH:∀ {l:List Dc},¬ 0≤zh (fun d=>!oE d) l→∀ d∈l,oE d=true
 | [],_,d,h=>by cases h
 | e :: r,h,d,hd=>by
  unfold zh at h
  by_cases he:(!oE e)=true
  ·rw [if_pos he] at h; exact absurd (by decide) h
  rw [if_neg he] at h
  have h2:¬ 0≤zh (fun d=>!oE d) r:=by
   intro h3
   rw [if_neg (by omega)] at h
   omega
  rcases cb.1 hd with rfl | hd
  ·simpa using he
  exact LH h2 d hd
theorem NC {m:Md} (h:(km m).2.2=0):(rU m).2=0∧(∀ d∈m.decls,oE d=true)∧eK m 0 m.decls=none∧km m=(⟨m.path,m.imports,eT m 0 m.decls⟩,0,0):=by
 by_cases h1:(rU m).2≠0;·rw [s7 h1] at h; exact absurd h h1
 by_cases h2:0≤zh (fun d=>!oE d) m.decls;·rw [wk h1 h2] at h; cases h
 cases h3:eK m 0 m.decls with | some p=>rw [wm h1 h2 h3] at h; exact absurd h (wB m _ _ _ h3) | none=>exact⟨apU.1 h1,LH h2,rfl,s8 h1 h2 h3⟩
mutual
def Ty.w2:Ty→Nat
 | .mk _ m n ts fs=>2+m.size+n.size+HS ts+HT fs
def HS:List Ty→Nat
 | []=>0
 | t :: r=>t.w2+HS r
def Fd.w2:Fd→Nat
 | .mk n (.mk _ m n' ts fs) _=>2+n.size+m.size+n'.size+HS ts+HT fs
def HT:List Fd→Nat
 | []=>0
 | f :: r=>f.w2+HT r
end
theorem Fd.BJ (f:Fd):f.w2=f.name.size+f.ty.w2:=by obtain⟨n',⟨k,m,n,ts,fs⟩,o⟩:=f;simp only [Fd.w2,Ty.w2,Fd.name,Fd.ty]; omega
theorem Df (ts:List Ty):HS ts=bd Ty.w2 ts:=by induction ts with | nil=>rfl | cons t r ih=>simp [HS,bd,ih]
theorem Dg (ts:List Fd):HT ts=bd Fd.w2 ts:=by induction ts with | nil=>rfl | cons t r ih=>simp [HT,bd,ih]
theorem Ty.BJ (t:Ty):t.w2=2+t.mod.size+t.name.size+bd Ty.w2 t.args+bd Fd.w2 t.bD:=by obtain⟨k,m,n,ts,fs⟩:=t;simp only [Ty.w2,Df,Dg,Ty.mod,Ty.name,Ty.args,Ty.bD]
def Lb.w2 (l:Lb):Nat:=1+l.name.size+l.var.size+l.ty.w2
mutual
def Ex.w2:Ex→Nat
 | .mk _ m n t _ ts ls ks=>2+m.size+n.size+t.size+bd Ty.w2 ts+bd Lb.w2 ls+LI ks
def LI:List Ex→Nat
 | []=>0
 | e :: r=>e.w2+LI r
end
theorem HU (ts:List Ex):LI ts=bd Ex.w2 ts:=by induction ts with | nil=>rfl | cons t r ih=>simp [LI,bd,ih]
theorem Ex.BJ (t:Ex):t.w2=2+t.mod.size+t.name.size+t.text.size+bd Ty.w2 t.types+bd Lb.w2 t.labels+bd Ex.w2 t.kids:=by obtain⟨k,m,n,x,i,ts,ls,ks⟩:=t;rw [Ex.w2,HU]; rfl
def Pm.w2 (p:Pm):Nat:=1+p.name.size+p.bound.w2
def Im.w2 (i:Im):Nat:=2+i.path.size+i.alias.size
def Dc.w2 (d:Dc):Nat:=2+d.name.size+d.note.size+bd Pm.w2 d.params+d.lower.w2+d.upper.w2+d.type.w2+d.expr.w2+d.mod.size+d.target.size
def Md.w2 (m:Md):Nat:=1+m.path.size+bd Im.w2 m.imports+bd Dc.w2 m.decls
theorem EX (k k0:Int) (m:ByteArray):(zM k k0 m).size≤m.size+1:=by
 unfold zM; split;·rw [zi]; exact aw _
 omega
theorem Fd.BK (f:Fd):(f.res gZ).wt=f.name.size+f.ty.jf.wt:=by rw [Fd.kO,Fd.A7,Fd.A8]; rfl
theorem Ty.BK:∀ (N:Nat) (t:Ty),t.size≤N→t.jf.wt≤t.w2∧t.wt≤t.w2:=by intro N;induction N with | zero=>intro t h; have:=t.size_pos; omega | succ N ih =>intro t h;have Me:∀ x∈t.args,x.jf.wt≤x.w2∧x.wt≤x.w2:=fun x hx=>ih x (by have:=t.s9 (hX _ hx); omega);have Rw:∀ f∈t.bD,f.ty.jf.wt≤f.ty.w2∧f.ty.wt≤f.ty.w2:=fun f hf=>ih f.ty (by have:=t.s9 (gC _ (dv.2 ⟨f,hf,rfl⟩)); omega);have h1:=fw (l:=t.args) (g:=fun x=>Ty.wt (Ty.jf x)) (h:=Ty.w2) fun x hx=>(Me x hx).1;have h2:=fw (l:=t.args) (g:=Ty.wt) (h:=Ty.w2) fun x hx=>(Me x hx).2;(have h3:=fw (l:=t.bD) (g:=fun x=>Fd.wt (Fd.res gZ x)) (h:=Fd.w2) fun x hx=>by rw [Fd.BK,Fd.BJ]; have:=(Rw x hx).1; omega);(have h4:=fw (l:=t.bD) (g:=Fd.wt) (h:=Fd.w2) fun x hx=>by rw [Fd.kO,Fd.BJ]; have:=(Rw x hx).2; omega);have h5:=EX t.kind 10 t.mod;rw [Ty.kO,Ty.kO t,Ty.BJ,t.zj,t.wo,t.RJ,t.RL,gD,gD];omega
theorem Ty.kA (t:Ty):t.jf.wt≤t.w2∧t.wt≤t.w2:=Ty.BK _ t (aw _)
theorem Lb.kA (l:Lb):(l.res gZ).wt≤l.w2∧l.wt≤l.w2:=by have:=l.ty.kA;have e:(l.res gZ).wt=1+l.name.size+l.var.size+l.ty.jf.wt:=rfl;rw [e]; unfold Lb.wt Lb.w2; omega
theorem Ex.BK:∀ (N:Nat) (x:Ex),x.size≤N→x.jf.wt≤x.w2∧x.wt≤x.w2:=by intro N;induction N with | zero=>intro t h; have:=t.size_pos; omega | succ N ih =>intro x h;have hk:∀ k∈x.kids,k.jf.wt≤k.w2∧k.wt≤k.w2:=fun k hk=>ih k (by have:=x.J5 hk; omega);have h1:=fw (l:=x.types) (g:=fun x=>Ty.wt (Ty.jf x)) (h:=Ty.w2) fun x _=>x.kA.1;have h2:=fw (l:=x.types) (g:=Ty.wt) (h:=Ty.w2) fun x _=>x.kA.2;have h3:=fw (l:=x.labels) (g:=fun x=>Lb.wt (Lb.res gZ x)) (h:=Lb.w2) fun x _=>x.kA.1;have h4:=fw (l:=x.labels) (g:=Lb.wt) (h:=Lb.w2) fun x _=>x.kA.2;have h5:=fw (l:=x.kids) (g:=fun x=>Ex.wt (Ex.jf x)) (h:=Ex.w2) fun x hx=>(hk x hx).1;have h6:=fw (l:=x.kids) (g:=Ex.wt) (h:=Ex.w2) fun x hx=>(hk x hx).2;have h7:=EX x.kind 4 x.mod;rw [Ex.kO,Ex.kO x,Ex.BJ,x.zj,x.wo,x.HE,x.Nk,x.Bt,x.RO,gD,gD,gD];omega
theorem Ex.kA (x:Ex):x.jf.wt≤x.w2∧x.wt≤x.w2:=Ex.BK _ x (aw _)
theorem Pm.kA (p:Pm):p.jf.wt≤p.w2∧p.wt≤p.w2:=by have:=p.bound.kA;have e:p.jf.wt=1+p.name.size+p.bound.jf.wt:=rfl;rw [e]; unfold Pm.wt Pm.w2; omega
theorem Im.kA (x:Im):x.jf.wt≤x.w2∧x.wt≤x.w2:=by have e:x.jf.wt=1+x.path.size+(zz x.alias).size:=rfl;rw [e,zi]; unfold Im.wt Im.w2; omega
theorem Dc.kA (d:Dc):d.jf.wt≤d.w2∧d.wt≤d.w2:=by have h1:=fw (l:=d.params) (g:=fun x=>Pm.wt (Pm.jf x)) (h:=Pm.w2) fun x _=>x.kA.1;have h2:=fw (l:=d.params) (g:=Pm.wt) (h:=Pm.w2) fun x _=>x.kA.2;have h3:=d.lower.kA;have h4:=d.upper.kA;have h5:=d.type.kA;have h6:=d.expr.kA;have h7:=EX d.kind 2 d.mod;have e:d.jf.wt=1+d.name.size+d.note.size+bd Pm.wt (d.params.map Pm.jf)+d.lower.jf.wt+d.upper.jf.wt+d.type.jf.wt+d.expr.jf.wt+(zM d.kind 2 d.mod).size+d.target.size:=rfl;rw [e,gD]; unfold Dc.wt Dc.w2; omega
theorem Md.kA (m:Md):m.jf.wt≤m.w2∧m.wt≤m.w2:=by have h1:=fw (l:=m.imports) (g:=fun x=>Im.wt (Im.jf x)) (h:=Im.w2) fun x _=>x.kA.1;have h2:=fw (l:=m.imports) (g:=Im.wt) (h:=Im.w2) fun x _=>x.kA.2;have h3:=fw (l:=m.decls) (g:=fun x=>Dc.wt (Dc.jf x)) (h:=Dc.w2) fun x _=>x.kA.1;have h4:=fw (l:=m.decls) (g:=Dc.wt) (h:=Dc.w2) fun x _=>x.kA.2;have e:m.jf.wt=1+m.path.size+bd Im.wt (m.imports.map Im.jf)+bd Dc.wt (m.decls.map Dc.jf):=rfl;rw [e,gD,gD]; unfold Md.wt Md.w2; omega
section
theorem c3:af.cellsOf 3=1:=by kernel_rfl
theorem c4:af.cellsOf 4=1:=by kernel_rfl
theorem c9:af.cellsOf 9=1:=by kernel_rfl

section
variable {F:Addr→Option Value} {hg:Gl F} {H:Type} {enc:TypeId×Value→H} {w:World} {sp:Nat→Bool} {held:Bool} {f:Nat} {cs:List Value} {d:DataW H} {p:List MemPlace}
theorem tb {a:List V} {cs:List Value} {off n:Nat} (h1:Rd F hg a ((cs.drop off).take n)) (h:cs.length=off+n):Rd F hg a (cs.drop off):=by rwa [aX (by simp; omega)] at h1
theorem BL (h:DataW.trod enc af w 0 sp held f 3 cs=some (d,p)):∃ n:Int,Rd F hg [num n] cs∧1≤Rows.uptoBulk d:=by cases f with | zero=>simp [DataW.trod] at h | succ f=>obtain⟨n,rfl,rfl⟩:=trod_int Tryz.underlying3 h; exact⟨n,Jp rfl,by simp [Rows.uptoBulk]⟩
theorem kR (h:DataW.trod enc af w 0 sp held f 9 cs=some (d,p)):∃ s:ByteArray,Rd F hg [str s] cs∧s.size+1≤Rows.uptoBulk d:=by cases f with | zero=>simp [DataW.trod] at h | succ f =>obtain⟨n,rfl,rfl⟩:=trod_string Tryz.underlying9 h;exact⟨n,Jp rfl,by simp only [Rows.uptoBulk,jY]; exact aw _⟩
theorem LJ (h:DataW.trod enc af w 0 sp held f 4 cs=some (d,p)):∃ b:Bool,Rd F hg [bl b] cs:=by cases f with | zero=>simp [DataW.trod] at h | succ f=>obtain⟨n,rfl,-⟩:=trod_bool Tryz.underlying4 h; exact⟨n,Jp rfl⟩
theorem yz {T T':TypeId} {α:Type} {row:α→V} {g:α→Nat} {n:Nat} (hF:F=w.cell?) (hT:af.underlying T=some (.slice T')) (hn:af.cellsOf T'=n)
  (hr:∀ f',f'<f→∀ {cs:List Value} {d:DataW H} {p:List MemPlace},DataW.trod enc af w 0 sp held f' T' cs=some (d,p)→∃ a:α,Rd F hg (row a).cells cs∧g a≤Rows.uptoBulk d)
  (h:DataW.trod enc af w 0 sp held f T cs=some (d,p)):∃ l:List α,Rd F hg [.slice (l.map row)] cs∧bd g l+1≤Rows.uptoBulk d:=by cases f with | zero=>simp [DataW.trod] at h | succ f=>exact Qv hF hT hn (fun h=>hr f (lR f) h) h

end
theorem c38:af.cellsOf 38=1:=by kernel_rfl
theorem c39:af.cellsOf 39=1:=by kernel_rfl
theorem c41:af.cellsOf 41=5:=by kernel_rfl
theorem c94:af.cellsOf 94=7:=by kernel_rfl
theorem c42:af.cellsOf 42=1:=by kernel_rfl
theorem c43:af.cellsOf 43=1:=by kernel_rfl
theorem c45:af.cellsOf 45=8:=by kernel_rfl
theorem c22:af.cellsOf 22=1:=by kernel_rfl
theorem c23:af.cellsOf 23=1:=by kernel_rfl
theorem c25:af.cellsOf 25=3:=by kernel_rfl
theorem c37:af.cellsOf 37=1:=by kernel_rfl
theorem c47:af.cellsOf 47=31:=by kernel_rfl
theorem c49:af.cellsOf 49=7:=by kernel_rfl
theorem c97:af.cellsOf 97=8:=by kernel_rfl
theorem c35:af.cellsOf 35=2:=by kernel_rfl
section
variable [bg] {F:Addr→Option Value} {hg:Gl F} {H:Type} {enc:TypeId×Value→H} {w:World} {sp:Nat→Bool} {held:Bool} {f:Nat} {cs:List Value} {d:DataW H} {p:List MemPlace}
theorem Dh (hF:F=w.cell?):∀ (f:Nat) {cs:List Value} {d:DataW H} {p:List MemPlace},DataW.trod enc af w 0 sp held f 41 cs=some (d,p)→∃ t:Ty,Rd F hg (cD t).cells cs∧t.w2≤Rows.uptoBulk d:=by intro f;induction f using Nat.strongRecOn with | ind f ih =>intro cs d p h;cases f with | zero=>simp [DataW.trod] at h | succ f =>obtain⟨hl,d0,p0,h0,d1,p1,h1,d2,p2,h2,d3,p3,h3,d4,p4,h4,rfl⟩:=kq Tryz.underlying41 h;simp only [c3,c9,c38,c39] at h0 h1 h2 h3 h4;rw [c41] at hl;obtain⟨k,hk,-⟩:=BL (F:=F) (hg:=hg) h0;obtain⟨m,hm,s1⟩:=kR (F:=F) (hg:=hg) h1;obtain⟨n,hn,s2⟩:=kR (F:=F) (hg:=hg) h2;obtain⟨ts,Cx,bts⟩:=yz (F:=F) (hg:=hg) hF Tryz.underlying38 c41 (fun f' hf' {cs d p} h=>ih f' (by omega) h) h3;obtain⟨fs,hfs,bfs⟩:=yz (F:=F) (hg:=hg) (α:=Fd) (row:=mw) (g:=Fd.w2) hF Tryz.underlying39 c94 (fun f' hf' {cs d p} h=>by cases f' with | zero=>simp [DataW.trod] at h | succ f' =>obtain⟨hl,d0,p0,h0,d1,p1,h1,d2,p2,h2,rfl⟩:=kq Tryz.underlying94 h;simp only [c4,c9,c41] at h0 h1 h2;rw [c94] at hl;obtain⟨n,hn,s0⟩:=kR (F:=F) (hg:=hg) h0;obtain⟨t,ht,bt⟩:=ih f' (by omega) h1;obtain⟨b,hb⟩:=LJ (F:=F) (hg:=hg) h2;rw [aG] at ht;refine⟨.mk n t b,?_,?_⟩;(·rw [cp];show Rd F hg ([str n]++aq t++[bl b]) (cs.drop 0);rw [Cq];exact dX hn (dX ht (tb hb hl)));rw [Fd.BJ]; simp only [Rows.uptoBulk,Rows.uptoBulkAll,Fd.ty,Fd.name]; omega) h4;refine⟨.mk k m n ts fs,?_,?_⟩;(·rw [aG];simp only [aq,Ty.kind,Ty.mod,Ty.name,Ty.args,Ty.bD,dM,kx];exact dX (off:=0) hk (dX hm (dX hn (dX Cx (dX hfs (Qu hl))))));simp only [Rows.uptoBulk,Rows.uptoBulkAll,Ty.w2,Df,Dg]; omega
theorem aeM (hF:F=w.cell?) (h:DataW.trod enc af w 0 sp held f 97 cs=some (d,p)):∃ x:Lb,Rd F hg (cg x).cells cs∧x.w2≤Rows.uptoBulk d:=by cases f with | zero=>simp [DataW.trod] at h | succ f =>obtain⟨hl,d0,p0,h0,d1,p1,h1,d2,p2,h2,d3,p3,h3,rfl⟩:=kq Tryz.underlying97 h;simp only [c4,c9,c41] at h0 h1 h2 h3;rw [c97] at hl;obtain⟨n,hn,s0⟩:=kR (F:=F) (hg:=hg) h0;obtain⟨v,hv,s1⟩:=kR (F:=F) (hg:=hg) h1;obtain⟨t,ht,bt⟩:=Dh (hg:=hg) hF _ h2;obtain⟨b,hb⟩:=LJ (F:=F) (hg:=hg) h3;rw [aG] at ht;refine⟨⟨n,v,t,b⟩,?_,?_⟩;(·show Rd F hg ([str n,str v]++aq t++[bl b]) (cs.drop 0);rw [Cq];exact dX (a:=[str n]) hn (dX (a:=[str v]) hv (dX (b:=[bl b]) ht (tb hb hl))));simp only [Rows.uptoBulk,Rows.uptoBulkAll,Lb.w2]; omega
theorem aeN (hF:F=w.cell?):∀ (f:Nat) {cs:List Value} {d:DataW H} {p:List MemPlace},DataW.trod enc af w 0 sp held f 45 cs=some (d,p)→∃ t:Ex,Rd F hg (cK t).cells cs∧t.w2≤Rows.uptoBulk d:=by intro f;induction f using Nat.strongRecOn with | ind f ih =>intro cs d p h;cases f with | zero=>simp [DataW.trod] at h | succ f =>obtain⟨hl,d0,p0,h0,d1,p1,h1,d2,p2,h2,d3,p3,h3,d4,p4,h4,d5,p5,h5,d6,p6,h6,d7,p7,h7,rfl⟩:=kq Tryz.underlying45 h;simp only [c3,c9,c38,c42,c43] at h0 h1 h2 h3 h4 h5 h6 h7;rw [c45] at hl;obtain⟨k,hk,-⟩:=BL (F:=F) (hg:=hg) h0;obtain⟨m,hm,s1⟩:=kR (F:=F) (hg:=hg) h1;obtain⟨n,hn,s2⟩:=kR (F:=F) (hg:=hg) h2;obtain⟨x,hx,s3⟩:=kR (F:=F) (hg:=hg) h3;obtain⟨i,hi,-⟩:=BL (F:=F) (hg:=hg) h4;obtain⟨ts,Cx,bts⟩:=yz (F:=F) (hg:=hg) hF Tryz.underlying38 c41 (fun f' _ {cs d p} h=>Dh hF f' h) h5;obtain⟨ls,hls,bls⟩:=yz (F:=F) (hg:=hg) hF Tryz.underlying42 c97 (fun f' _ {cs d p} h=>aeM hF h) h6;obtain⟨ks,T1,bks⟩:=yz (F:=F) (hg:=hg) hF Tryz.underlying43 c45 (fun f' hf' {cs d p} h=>ih f' (by omega) h) h7;refine⟨.mk k m n x i ts ls ks,?_,?_⟩;(·rw [bj];simp only [aH,Ex.kind,Ex.mod,Ex.name,Ex.text,Ex.num,Ex.types,Ex.labels,Ex.kids,dM,lB];exact dX (off:=0) hk (dX hm (dX hn (dX hx (dX hi (dX Cx (dX hls (dX T1 (Qu hl)))))))));simp only [Rows.uptoBulk,Rows.uptoBulkAll,Ex.w2,HU]; omega
theorem aeO (hF:F=w.cell?) (h:DataW.trod enc af w 0 sp held f 49 cs=some (d,p)):∃ x:Pm,Rd F hg (dT x).cells cs∧x.w2≤Rows.uptoBulk d:=by cases f with | zero=>simp [DataW.trod] at h | succ f =>obtain⟨hl,d0,p0,h0,d1,p1,h1,d2,p2,h2,rfl⟩:=kq Tryz.underlying49 h;simp only [c3,c9,c41] at h0 h1 h2;rw [c49] at hl;obtain⟨n,hn,s0⟩:=kR (F:=F) (hg:=hg) h0;obtain⟨v,hv,-⟩:=BL (F:=F) (hg:=hg) h1;obtain⟨t,ht,bt⟩:=Dh (hg:=hg) hF _ h2;rw [aG] at ht;refine⟨⟨n,v,t⟩,?_,?_⟩;(·show Rd F hg ([str n,num v]++aq t) (cs.drop 0);exact dX (a:=[str n]) hn (dX (a:=[num v]) hv (tb ht hl)));simp only [Rows.uptoBulk,Rows.uptoBulkAll,Pm.w2]; omega
theorem aeP (h:DataW.trod enc af w 0 sp held f 35 cs=some (d,p)):∃ x:Im,Rd F hg (cz x).cells cs∧x.w2≤Rows.uptoBulk d:=by cases f with | zero=>simp [DataW.trod] at h | succ f =>obtain⟨hl,d0,p0,h0,d1,p1,h1,rfl⟩:=kq Tryz.underlying35 h;simp only [c9] at h0 h1;rw [c35] at hl;obtain⟨n,hn,s0⟩:=kR (F:=F) (hg:=hg) h0;obtain⟨v,hv,s1⟩:=kR (F:=F) (hg:=hg) h1;refine⟨⟨n,v⟩,?_,?_⟩;(·exact dX (a:=[str n]) (off:=0) hn (tb (a:=[str v]) hv hl));simp only [Rows.uptoBulk,Rows.uptoBulkAll,Im.w2]; omega
theorem aeQ (hF:F=w.cell?) (h:DataW.trod enc af w 0 sp held f 47 cs=some (d,p)):∃ x:Dc,Rd F hg (aR x).cells cs∧x.w2≤Rows.uptoBulk d:=by cases f with | zero=>simp [DataW.trod] at h | succ f =>obtain⟨hl,d0,p0,h0,d1,p1,h1,d2,p2,h2,d3,p3,h3,d4,p4,h4,d5,p5,h5,d6,p6,h6,d7,p7,h7,d8,p8,h8,d9,p9,h9,d10,p10,TD,d11,p11,XZ,rfl⟩:=kq Tryz.underlying47 h;simp only [c3,c4,c9,c41,c45,c37] at h0 h1 h2 h3 h4 h5 h6 h7 h8 h9 TD XZ;rw [c47] at hl;obtain⟨k,hk,-⟩:=BL (F:=F) (hg:=hg) h0;obtain⟨n,hn,s1⟩:=kR (F:=F) (hg:=hg) h1;obtain⟨x,hx⟩:=LJ (F:=F) (hg:=hg) h2;obtain⟨y,hy⟩:=LJ (F:=F) (hg:=hg) h3;obtain⟨o,ho,s4⟩:=kR (F:=F) (hg:=hg) h4;obtain⟨ps,tL,bps⟩:=yz (F:=F) (hg:=hg) hF Tryz.underlying37 c49 (fun f' _ {cs d p} h=>aeO hF h) h5;obtain⟨lo,oS,blo⟩:=Dh (hg:=hg) hF _ h6;obtain⟨up,hup,bup⟩:=Dh (hg:=hg) hF _ h7;obtain⟨ty,hty,bty⟩:=Dh (hg:=hg) hF _ h8;obtain⟨e,he,be⟩:=aeN (hg:=hg) hF _ h9;obtain⟨m,hm,s10⟩:=kR (F:=F) (hg:=hg) TD;obtain⟨t,ht,s11⟩:=kR (F:=F) (hg:=hg) XZ;rw [aG] at oS hup hty;rw [bj] at he;refine⟨⟨k,n,x,y,o,ps,lo,up,ty,e,m,t⟩,?_,?_⟩;(·show Rd F hg ([num k,str n,bl x,bl y,str o,.slice (ps.map dT)]++aq lo++aq up++aq ty++aH e++[str m,str t]) (cs.drop 0);simp only [Cq];exact dX (a:=[num k]) hk (dX (a:=[str n]) hn (dX (a:=[bl x]) hx (dX (a:=[bl y]) hy (dX (a:=[str o]) ho (dX (a:=[.slice (ps.map dT)]) tL (dX oS (dX hup (dX hty (dX he (dX (a:=[str m]) hm (tb (a:=[str t]) ht hl))))))))))));simp only [Rows.uptoBulk,Rows.uptoBulkAll,Dc.w2]; omega
theorem adL (hF:F=w.cell?) (h:DataW.trod enc af w 0 sp held f 25 cs=some (d,p)):∃ x:Md,Rd F hg (kn x).cells cs∧x.w2≤Rows.uptoBulk d:=by cases f with | zero=>simp [DataW.trod] at h | succ f =>obtain⟨hl,d0,p0,h0,d1,p1,h1,d2,p2,h2,rfl⟩:=kq Tryz.underlying25 h;simp only [c9,c22,c23] at h0 h1 h2;rw [c25] at hl;obtain⟨n,hn,s0⟩:=kR (F:=F) (hg:=hg) h0;obtain⟨is,his,bis⟩:=yz (F:=F) (hg:=hg) hF Tryz.underlying22 c35 (fun f' _ {cs d p} h=>aeP h) h1;obtain⟨ds,hds,bds⟩:=yz (F:=F) (hg:=hg) hF Tryz.underlying23 c47 (fun f' _ {cs d p} h=>aeQ hF h) h2;refine⟨⟨n,is,ds⟩,?_,?_⟩;(·exact dX (a:=[str n]) (off:=0) hn (dX (a:=[.slice (is.map cz)]) his (tb (a:=[.slice (ds.map aR)]) hds hl)));simp only [Rows.uptoBulk,Rows.uptoBulkAll,Md.w2]; omega
end
end
end Go.Proofs.YtnboooapeopjoaaGreatDoor
end

section
namespace Go.Proofs.YtnboooapeopjoaaGreatDoor
open Go.Eng
set_option maxHeartbeats 4000000
set_option maxRecDepth 100000
section
open Go.ChangeShapes Go.WideShapes Go.ChangeAt Go.RowKit
@[reducible] def gOf (n:Int):bg := { n:=n,κ:=fun _=>none,ok:=fun j b hb=>(by cases hb),g:=some 1,Xx:=fun _=>none }
theorem Si {W:World} {v:Value} (fU:Cell.ok af W .any 0 3 v):∃ n:Int,v = .int .i64 n:=by unfold Cell.ok at fU;rw [Tryz.underlying3] at fU;cases v with | int k n=>exact⟨n,by rw [show k = .i64 from fU.1]⟩ | _=>exact fU.elim
theorem MF {W:World} (hS:W.ShapedOpen af):∃ n:Int,W.cell? ⟨1,0,none⟩=some (.int .i64 n):=by
 have h0:(((begin af (fun _ _=>0) default).world.heap[1]?).bind Obj.row?)=some (#[.int .i64 0],3):=by kernel_rfl
 obtain⟨cs,hc,hz,hr⟩:=hS.1 1 _ _ (of_decide_eq_true (by kernel_rfl)) h0;obtain⟨ts,h1,-,h3⟩:=hr (by kernel_rfl);obtain rfl:[3]=ts:=kN ((show af.cellTypes af.depth 3=some [3] by kernel_rfl).symm.trans h1);have hz':cs.size=1:=hz;obtain⟨v,hv⟩:∃ v,cs[0]?=some v:=⟨cs[0],ch (by omega)⟩;obtain⟨u,hu,fU⟩:=h3 0 v hv;obtain rfl:3=u:=by simpa using hu
 obtain⟨n,rfl⟩:=Si fU;exact⟨n,by simp [World.cell?,hc,hv]⟩
theorem Uv {F:Addr→Option Value} [bg] {hg:Gl F} {cs:List V} {v:Value} (ep:cs.length≠1) (h:Rd F hg cs v.cells.toList):dh ⟨F,fun _ _=>none,hg⟩ (.agg cs) v:=by cases v with | agg xs=>exact .agg _ _ _ (by simpa [Value.cells] using h.1.1) fun i c x hc hx=>h.1.2 i c x hc (by simpa [Value.cells] using hx) | _=>exact absurd h.1.1 (by simpa [Value.cells] using ep)
theorem MG {H:Type} {enc:TypeId×Value→H} {P:Program} {f:Func} {s:ChangeSpec} {apart fresh handsOn again:Bool} {W W':World} {args:Array Value} {v:Value} {ds gs:List (DataW H)} {before pa pv:List MemPlace}
  (hW:DataW.Whole enc P f.params.toList s.vars apart W args.toList ds gs before)
  (bU:∀ (b:Nat) (sp:Nat→Bool) (hd:Bool),DataW.TrodAll enc P W' b sp hd f.resultTypes.toList (v.resultList f.resultTypes.size) (s.fn H (ds++gs)).results [])
  (oY:∀ sp:Nat→Bool,(∀ p∈before,sp p.block=true)→DataW.TrodAll enc P W' 0 sp true f.params.toList args.toList (s.fn H (ds++gs)).args pa)
  (Xt:∀ sp:Nat→Bool,(∀ p∈before,sp p.block=true)→DataW.TrodVars enc P W' sp s.vars (s.fn H (ds++gs)).vars pv)
  (tL:before=pa++pv) (hb:Below W.heap.size W W')
  (fU:∀ (j:Nat) (t:TypeId) (r:Value),f.resultTypes[j]?=some t→(v.resultList f.resultTypes.size)[j]?=some r→Value.okWide P W' .any 0 t r) :
  s.post enc P f apart fresh handsOn again W args v W':=by
 have ca:=hW.lt;refine⟨ds,gs,before,[],pa,pv,hW,bU _ _ _,oY _ (fun p hp=>by simpa using ca p hp),Xt _ (fun p hp=>by simpa using ca p hp),hb.frame _,fun _=>?_⟩;obtain⟨_,_,_,_,_,hz,hn⟩:=hW;refine⟨fU,_,_,([]++pa)++pv,⟨[]++pa,pv,trodAll_append (oY _ (fun _ _=>rfl)) (bU _ _ _),Xt _ (fun _ _=>rfl),rfl,fun b off hp=>?_,fun ha=>?_⟩,fun p hp _=>?_⟩;·(have Mg:MemPlace.cell b off∈before:=by rw [tL]; simpa using hp);rw [hb.frozen (show (⟨b,off,none⟩:Addr).block<W.heap.size from ca _ Mg)];exact hz b off Mg
 ·have:=hn ha;rw [tL] at this;simpa using this
 rw [tL];simpa using hp
theorem akw {F:Addr→Option Value} [bg] {hg:Gl F} {rows:List V} {a:Option Addr} {l c:Nat} (h:Rd F hg [.slice rows] (Value.slice a l c).cells.toList):dh ⟨F,fun _ _=>none,hg⟩ (.slice rows) (.slice a l c):=h.1.2 0 _ _ rfl rfl
theorem abo {P:Program} {W:World} {base:Nat} {T:TypeId} {v:Value} (hT:P.underlying T=some (.int .u8)) (h:Value.okWide P W .any base T v):∃ c:Nat,c<256∧v = .int .u8 (c:Int):=by unfold Value.okWide at h;rw [hT] at h;unfold Cell.okWide at h;rw [hT] at h;cases v with | int k n =>simp only [Cell.ok,hT] at h;obtain⟨rfl,h1,h2⟩:=h;(have h3:(IntKind.u8).min=0:=by decide);(have h4:(IntKind.u8).max=255:=by decide);rw [h3] at h1; rw [h4] at h2;exact⟨n.toNat,by omega,by rw [Int.toNat_of_nonneg h1]⟩ | _=>simp [Cell.ok,hT] at h
end
end Go.Proofs.YtnboooapeopjoaaGreatDoor
end

section
namespace Go.Proofs.YtnboooapeopjoaaGreatDoor
open Go.Eng
variable [bg]
open Nat renaming reduceAdd → zA, reduceLT → zB, reduceLeDiff → zC, reduceMul → zD, reduceEqDiff → zE, reduceSub → zF
set_option maxHeartbeats 4000000
set_option maxRecDepth 100000
def pZ (vs:List ByteArray) (t:Ty):Prop:=∀ u∈t.nodes,(u.kind=10→ec u.mod=true)∧(u.kind=9→jg u.name vs=true)
theorem LK {vs:List ByteArray} {t:Ty} (h:(t.kind=10→ec t.mod=true)∧(t.kind=9→jg t.name vs=true)) (hp:∀ p∈t.parts,pZ vs p):pZ vs t:=fun u hu=>by
 rw [t.eD] at hu;rcases cb.1 hu with rfl | hu
 ·exact h
 obtain⟨p,Mg,hu⟩:=eM.1 hu;exact hp p Mg u hu
def LL (x:Ex) (i:Nat):List ByteArray :=
 (if x.kind=8∧i+1=x.kids.length then x.labels.map Lb.name else [])++(if x.kind=10∧i=1 then [x.name] else [])++(if x.kind=13∧0<i then [(x.labels[i-1]?).elim ⟨#[]⟩ Lb.var] else [])++(if x.kind=15∧i=2 then [x.name,x.text] else [])
mutual
def Ex.EY (vs:List ByteArray):Ex→List ByteArray→Prop
 | .mk k m n t i ts ls ks,loc=>(k=3→jg n loc=true)∧(k=4→ec m=true)∧(∀ u∈(ts++if k=8 then ls.map Lb.ty else []),pZ vs u)∧(k=13→ks.length≤ls.length+1)∧qI vs (fun j=>loc++LL (.mk k m n t i ts ls ks) j) 0 ks
def qI (vs:List ByteArray) (lo:Nat→List ByteArray):Nat→List Ex→Prop
 | _,[]=>True
 | i,x :: r=>x.EY vs (lo i)∧qI vs lo (i+1) r
end
theorem Ex.LM (vs:List ByteArray) (x:Ex) (loc:List ByteArray):x.EY vs loc=((x.kind=3→jg x.name loc=true)∧(x.kind=4→ec x.mod=true)∧(∀ u∈x.own,pZ vs u)∧(x.kind=13→x.kids.length≤x.labels.length+1)∧qI vs (fun j=>loc++LL x j) 0 x.kids):=by obtain⟨k,m,n,t,i,ts,ls,ks⟩:=x; rw [Ex.EY]; rfl
theorem Di {vs:List ByteArray} {lo:Nat→List ByteArray}:∀ {ks:List Ex} {i j:Nat} {k:Ex},qI vs lo i ks→ks[j]?=some k→k.EY vs (lo (i+j))
 | [],_,_,_,_,h=>by simp at h
 | a :: r,i,0,k,h,hk=>by rw [qI] at h; cases hk; exact h.1
 | a :: r,i,j+1,k,h,hk=>by
  rw [qI] at h
  have:=Di (j:=j) h.2 (by simpa using hk)
  rwa [show i+1+j=i+(j+1) by omega] at this
def Cn (path:ByteArray) (bf:List ByteArray) (x:Ex):Prop:=∀ u∈x.nodes,u.kind=4→u.mod=path→jg u.name bf=true
theorem Sj {path:ByteArray} {bf:List ByteArray} {x k:Ex} (h:Cn path bf x) (hk:k∈x.kids):Cn path bf k:=fun u hu=>h u (by rw [x.eD]; exact bP _ (eM.2 ⟨k,hk,hu⟩))
theorem ND {path:ByteArray} {bf:List ByteArray} {x:Ex} (h:Cn path bf x):x.kind=4→x.mod=path→jg x.name bf=true:=h x (by rw [x.eD]; exact b9 ..)
structure Good (X:Rv) (bf:List ByteArray):Prop where
 mp:ec X.mp=true
 al:∀ s,Ff X s=0→ec (Da X s)=true∧Da X s≠X.mp
 bf:∀ s,yN X s=0→jg s bf=true
def yQ (t:Ty):Prop:=∀ u∈t.nodes,u.kind≠9
theorem Dj {t p:Ty} (h:yQ t) (hp:p∈t.parts):yQ p:=fun u hu=>h u (by rw [t.eD]; exact bP _ (eM.2 ⟨p,hp,hu⟩))
theorem NF {t:Ty} (h:yQ t):t.kind≠9:=h t (by rw [t.eD]; exact b9 ..)
theorem oG {α:Type} {f:Bool→α→Bool} {P:α→Prop}:∀ {l:List α} {e:Bool},(∀ x∈l,∀ e,f e x=true→e=true∧P x)→l.foldl f e=true→e=true∧∀ x∈l,P x
 | [],e,_,h=>⟨h,fun x hx=>by cases hx⟩
 | a :: r,e,hl,h=>by
  obtain⟨h1,h2⟩:=oG (l:=r) (e:=f e a) (fun x hx=>hl x (bP _ hx)) h
  obtain⟨h4,h5⟩:=hl a (b9 ..) e h1
  refine⟨h4,fun x hx=>?_⟩
  rcases cb.1 hx with rfl | hx
  ·exact h5
  exact h2 x hx
theorem tc (vs:List ByteArray):∀ (N:Nat) (t:Ty),t.size≤N→∀ e,t.fold (gQ vs) (sQ vs) e=true→e=true∧yQ t:=by intro N;induction N with | zero=>intro t h; have:=t.size_pos; omega | succ N ih =>intro t hN e he;have Me:∀ x∈t.args,x∈t.parts:=fun x hx=>hX _ hx;have Rw:∀ f∈t.bD,f.ty∈t.parts:=fun f hf=>gC _ (dv.2 ⟨f,hf,rfl⟩);(have hn:∀ u:Ty,vZ (gQ vs) u=some u.mod:=fun u=>by unfold vZ gQ; split <;> rfl);rw [Ty.fold_eq,hn] at he;dsimp only at he;obtain⟨f1,f2⟩:=oG (P:=fun f:Fd=>yQ f.ty) (fun f hf e h=>ih f.ty (by have:=t.s9 (Rw f hf); omega) e h) he;obtain⟨a1,a2⟩:=oG (P:=yQ) (fun x hx e h=>ih x (by have:=t.s9 (Me x hx); omega) e h) f1;(have hs:e=true∧t.kind≠9:=by by_cases hk:t.kind=10∨t.kind=9;(·rw [if_pos hk] at a1;unfold sQ at a1;obtain⟨h1,h2⟩:=EW a1;unfold qT at h2;exact⟨h1,by simpa using (EW h2).1⟩);rw [if_neg hk] at a1;exact⟨a1,fun h=>hk (.inr h)⟩);refine⟨hs.1,fun u hu=>?_⟩;rw [t.eD] at hu;(rcases cb.1 hu with rfl | hu);(·exact hs.2);obtain⟨p,hp,hu⟩:=eM.1 hu;(rcases ew.1 hp with hp | hp);(·exact a2 p hp u hu);obtain⟨f,hf,rfl⟩:=dv.1 hp;exact f2 f hf u hu
def Ko (x:Ex):Prop:=∀ u∈x.nodes,∀ t∈u.own,yQ t
theorem Sk {x k:Ex} (h:Ko x) (hk:k∈x.kids):Ko k:=fun u hu=>h u (by rw [x.eD]; exact bP _ (eM.2 ⟨k,hk,hu⟩))
theorem NH {x:Ex} (h:Ko x):∀ t∈x.own,yQ t:=h x (by rw [x.eD]; exact b9 ..)
theorem HV {vs:List ByteArray} {lo:Nat→List ByteArray}:∀ {ks:List Ex} {i:Nat} {e:Bool},
  (∀ k∈ks,∀ loc e,k.fold (gQ vs) hQ (sQ vs) vQ loc e=true→e=true∧Ko k)→eS (gQ vs) hQ (sQ vs) vQ lo i ks e=true→e=true∧∀ k∈ks,Ko k
 | [],i,e,_,h=>by
  rw [eS] at h
  exact⟨h,fun k hk=>by cases hk⟩
 | k :: r,i,e,hk,h=>by
  rw [eS] at h
  obtain⟨h1,h2⟩:=HV (ks:=r) (fun k iQ=>hk k (bP _ iQ)) h
  obtain⟨k1,k2⟩:=hk k (b9 ..) _ _ h1
  refine⟨k1,fun y hy=>?_⟩
  rcases cb.1 hy with rfl | hy
  ·exact k2
  exact h2 y hy
theorem Vv (vs:List ByteArray):∀ (N:Nat) (x:Ex),x.size≤N→∀ loc e,x.fold (gQ vs) hQ (sQ vs) vQ loc e=true→e=true∧Ko x:=by intro N;induction N with | zero=>intro t h; have:=t.size_pos; omega | succ N ih =>intro x hN loc e he;(have hH:∀ u:Ex,mq hQ loc u=(u.kind,u.mod):=fun u=>by unfold mq hQ; split <;> rfl);rw [Ex.fold_eq] at he;obtain⟨k1,k2⟩:=HV (fun k hk loc e h=>ih k (by have:=x.J5 hk; omega) loc e h) he;rw [hH] at k1;obtain⟨l1,l2⟩:=oG (P:=fun l:Lb=>yQ l.ty) (fun l _ e h0=>tc vs l.ty.size l.ty (aw _) e h0) k1;obtain⟨t1,t2⟩:=oG (P:=yQ) (fun t _ e h0=>tc vs t.size t (aw _) e h0) l1;(have hv:e=true:=by by_cases hk:x.kind=3∨x.kind=4;(·rw [if_pos hk] at t1;unfold vQ at t1;exact (EW t1).1);rw [if_neg hk] at t1;exact t1);refine⟨hv,fun u hu=>?_⟩;rw [x.eD] at hu;(rcases cb.1 hu with rfl | hu);(·intro t ht;unfold Ex.own at ht;(rcases ew.1 ht with ht | ht);(·exact t2 t ht);split at ht;(·rename_i hk;obtain⟨l,hl,rfl⟩:=dv.1 ht;exact l2 l (by rw [if_pos hk]; exact hl));cases ht);obtain⟨k,hk,hu⟩:=eM.1 hu;exact k2 k hk u hu
theorem foldl_zero {α:Type} {f:Int→α→Int} {P:α→Prop}:∀ {l:List α} {e:Int},(∀ x∈l,∀ e,f e x=0→e=0∧P x)→l.foldl f e=0→e=0∧∀ x∈l,P x
 | [],e,_,h=>⟨h,fun x hx=>by cases hx⟩
 | a :: r,e,hl,h=>by
  obtain⟨h1,h2⟩:=foldl_zero (l:=r) (e:=f e a) (fun x hx=>hl x (bP _ hx)) h
  obtain⟨h4,h5⟩:=hl a (b9 ..) e h1
  refine⟨h4,fun x hx=>?_⟩
  rcases cb.1 hx with rfl | hx
  ·exact h5
  exact h2 x hx
theorem xF {X:Rv} {bf:List ByteArray} (G:Good X bf) (vs:List ByteArray):∀ (N:Nat) (t:Ty),t.size≤N→yQ t→∀ e,t.fold (gR X vs) (sR X vs) e=0→e=0∧pZ vs (t.res (gR X vs)):=by intro N;induction N with | zero=>intro t h; have:=t.size_pos; omega | succ N ih =>intro t hN hs e he;have Me:∀ x∈t.args,x∈t.parts:=fun x hx=>hX _ hx;have Rw:∀ f∈t.bD,f.ty∈t.parts:=fun f hf=>gC _ (dv.2 ⟨f,hf,rfl⟩);have h9:=NF hs;rw [Ty.fold_eq] at he;rw [Ty.l9];cases hg:vZ (gR X vs) t with | none =>rw [hg] at he;dsimp only at he ⊢;unfold sR at he;refine⟨(RM.1 he).1,LK ⟨fun h=>absurd h (by show ¬ (9:Int)=10; decide),fun _=>?_⟩ fun p hp=>by cases hp⟩;unfold vZ at hg;split at hg;(·unfold gR at hg;split at hg;(·split at hg;(·rename_i hv; exact hv);cases hg);cases hg);cases hg | some m =>rw [hg] at he;dsimp only at he ⊢;obtain⟨f1,f2⟩:=foldl_zero (P:=fun f:Fd=>pZ vs (f.ty.res (gR X vs))) (fun f hf e h=>ih f.ty (by have:=t.s9 (Rw f hf); omega) (Dj hs (Rw f hf)) e h) he;obtain⟨a1,a2⟩:=foldl_zero (P:=fun x:Ty=>pZ vs (x.res (gR X vs))) (fun x hx e h=>ih x (by have:=t.s9 (Me x hx); omega) (Dj hs (Me x hx)) e h) f1;(have hz:(t.kind=10→ec m=true)∧e=0:=by by_cases hk:t.kind=10∨t.kind=9;(·rw [if_pos hk] at a1;unfold sR at a1;obtain⟨k1,k2⟩:=RM.1 a1;refine⟨fun _=>?_,k1⟩;unfold vZ at hg;rw [if_pos hk] at hg;unfold gR at hg;unfold tE at k2;by_cases hm:t.mod=⟨#[]⟩;(·rw [if_pos hm] at hg;split at hg;(·cases hg);cases hg; exact G.mp);rw [if_neg hm] at hg k2;cases hg;exact (G.al _ k2).1);rw [if_neg hk] at a1;exact⟨fun h=>absurd (.inl h) hk,a1⟩);refine⟨hz.2,LK ⟨hz.1,fun h=>absurd h h9⟩ fun p hp=>?_⟩;(rcases ew.1 hp with hp | hp);(·obtain⟨x,hx,rfl⟩:=dv.1 (show p∈t.args.map (Ty.res (gR X vs)) from hp);exact a2 x hx);have Mg:p∈(t.bD.map (Fd.res (gR X vs))).map Fd.ty:=hp;rw [uN] at Mg;obtain⟨f,hf,rfl⟩:=dv.1 Mg;show pZ vs (f.res (gR X vs)).ty;rw [Fd.A8];exact f2 f hf
theorem Vw {x:Ex} {loc wC:List ByteArray} {i:Nat} (h:∀ s,jg s loc=true→jg s wC=true):∀ s,jg s (oH x.kind x.labels x.name x.text x.kids.length loc i)=true→jg s (wC++LL x i)=true:=by
 intro s hs;rw [nW] at hs ⊢;have h':∀ {s},s∈loc→s∈wC:=fun {s} hs=>nW.1 (h s (nW.2 hs));unfold oH at hs;unfold LL;simp only [ew];split at hs;·rename_i hc;(rcases ew.1 hs with hs | hs);(·exact .inr (.inl (.inl (.inl (by rw [if_pos hc]; exact List.mem_reverse.1 hs)))));exact .inl (h' hs)
 split at hs;·rename_i hc;(rcases cb.1 hs with rfl | hs);(·exact .inr (.inl (.inl (.inr (by rw [if_pos hc]; exact b9 ..)))));exact .inl (h' hs)
 split at hs;·rename_i hc;(rcases cb.1 hs with rfl | hs);(·exact .inr (.inl (.inr (by rw [if_pos hc]; exact b9 ..))));exact .inl (h' hs)
 split at hs;·rename_i hc;(rcases cb.1 hs with rfl | hs);(·exact .inr (.inr (by rw [if_pos hc]; simp)));(rcases cb.1 hs with rfl | hs);(·exact .inr (.inr (by rw [if_pos hc]; simp)));exact .inl (h' hs)
 exact .inl (h' hs)
theorem LN {X:Rv} {bf vs:List ByteArray} {lo lo':Nat→List ByteArray} (oS:∀ i s,jg s (lo i)=true→jg s (lo' i)=true):∀ {ks:List Ex} {i:Nat} {e:Int},
  (∀ k∈ks,∀ loc wC e,(∀ s,jg s loc=true→jg s wC=true)→k.fold (gR X vs) (hR X) (sR X vs) (vR X) loc e=0→e=0∧(k.res (gR X vs) (hR X) loc).EY vs wC∧Cn X.mp bf (k.res (gR X vs) (hR X) loc)) →
  eS (gR X vs) (hR X) (sR X vs) (vR X) lo i ks e=0→e=0∧qI vs lo' i (dW (gR X vs) (hR X) lo i ks)∧∀ k∈dW (gR X vs) (hR X) lo i ks,Cn X.mp bf k
 | [],i,e,_,h=>by
  rw [eS] at h
  rw [dW]
  exact⟨h,by rw [qI]; trivial,fun k hk=>by cases hk⟩
 | k :: r,i,e,hk,h=>by
  rw [eS] at h
  obtain⟨h1,h2,h3⟩:=LN oS (ks:=r) (fun k iQ=>hk k (bP _ iQ)) h
  obtain⟨k1,k2,k3⟩:=hk k (b9 ..) _ _ _ (oS i) h1
  rw [dW]
  refine⟨k1,by rw [qI]; exact⟨k2,h2⟩,fun y hy=>?_⟩
  rcases cb.1 hy with rfl | hy
  ·exact k3
  exact h3 y hy
theorem aas {X:Rv} {bf:List ByteArray} (G:Good X bf) (vs:List ByteArray):∀ (N:Nat) (x:Ex),x.size≤N→nmX x→tr x→Ko x→∀ loc wC e,(∀ s,jg s loc=true→jg s wC=true) →
  x.fold (gR X vs) (hR X) (sR X vs) (vR X) loc e=0→e=0∧(x.res (gR X vs) (hR X) loc).EY vs wC∧Cn X.mp bf (x.res (gR X vs) (hR X) loc):=by intro N;induction N with | zero=>intro t h; have:=t.size_pos; omega | succ N ih =>intro x hN hn tO hs loc wC e XB he;obtain⟨n3,aor,nl8,-⟩:=RP hn;have h8:=ZL X loc x;rw [Ex.fold_eq] at he;obtain⟨k',m',iQ⟩:∃ k' m',mq (hR X) loc x=(k',m'):=⟨_,_,rfl⟩;have bU:=Ex.l9 (gR X vs) (hR X) x loc;rw [iQ] at bU he h8;dsimp only at bU he h8;obtain⟨y,hy⟩:∃ y,y=x.res (gR X vs) (hR X) loc:=⟨_,rfl⟩;rw [← hy] at bU ⊢;(have yk:y.kind=k':=by rw [bU]; rfl);(have ym:y.mod=m':=by rw [bU]; rfl);(have yn:y.name=x.name:=by rw [bU]; rfl);(have yt:y.text=x.text:=by rw [bU]; rfl);(have yty:y.types=x.types.map (Ty.res (gR X vs)):=by rw [bU]; rfl);(have yl:y.labels=Tg (gR X vs) k' x.labels:=by rw [bU]; rfl);(have yks:y.kids=dW (gR X vs) (hR X) (Th (hR X) x loc) 0 x.kids:=by rw [bU]; rfl);(have ykl:y.kids.length=x.kids.length:=by rw [yks,jV]);(have yln:y.labels.map Lb.name=x.labels.map Lb.name:=by rw [yl]; unfold Tg; split;(·rw [uN]; rfl);rfl);(have ylv:∀ i,(y.labels[i]?).elim ⟨#[]⟩ Lb.var=(x.labels[i]?).elim ⟨#[]⟩ Lb.var:=fun i=>by rw [yl]; unfold Tg; split;(·rw [ae]; cases x.labels[i]? <;> rfl);rfl);(have yll:y.labels.length=x.labels.length:=by have:=congrArg List.length yln;simpa using this);(have oS:∀ i s,jg s (Th (hR X) x loc i)=true→jg s (wC++LL y i)=true:=fun i s h=>by refine Vw (x:=y) XB s ?_;(have e:oH y.kind y.labels y.name y.text y.kids.length loc i=Th (hR X) x loc i:=by unfold Th oH;rw [iQ,yln,ylv,yk,yn,yt,ykl]);rw [e]; exact h);obtain⟨c1,c2,c3⟩:=LN (bf:=bf) (lo':=fun j=>wC++LL y j) oS (fun k hk loc wC e pC h=>ih k (by have:=x.J5 hk; omega) (U9 hn hk) (Bp tO hk) (Sk hs hk) loc wC e pC h) he;have own:=NH hs;have lt:=fun (l:Lb) (hl:l∈(if k'=8 then x.labels else [])) (e:Int) (h0:l.ty.fold (gR X vs) (sR X vs) e=0)=>xF G vs l.ty.size l.ty (aw _) (own l.ty (by unfold Ex.own;split at hl;(·rename_i hk; rw [if_pos (h8.1 hk)]; exact gC _ (dv.2 ⟨l,hl,rfl⟩));cases hl)) e h0;obtain⟨l1,l2⟩:=foldl_zero (P:=fun l:Lb=>pZ vs (l.ty.res (gR X vs))) lt c1;obtain⟨t1,t2⟩:=foldl_zero (P:=fun t:Ty=>pZ vs (t.res (gR X vs))) (fun t ht e h0=>xF G vs t.size t (aw _) (own t (hX _ ht)) e h0) l1;(have hv:e=0∧(k'=3→jg x.name loc=true)∧(k'=4→ec m'=true)∧(k'=4→m'=X.mp→jg x.name bf=true):=by unfold mq at iQ;by_cases hk:x.kind=3∨x.kind=4;(·rw [if_pos hk] at t1 iQ;unfold vR at t1;obtain⟨v1,v2⟩:=RM.1 t1;refine⟨v1,?_⟩;unfold hR at iQ;unfold vE at v2;by_cases hm:x.mod=⟨#[]⟩;(·rw [if_pos hm] at iQ v2;by_cases hl:jg x.name loc=true;(·rw [if_pos hl] at iQ v2;obtain⟨rfl,rfl⟩:=rj iQ;(have h4:¬ x.kind=4:=fun h=>by rw [if_pos h] at v2; cases v2);exact⟨fun _=>hl,fun h=>absurd h h4,fun h=>absurd h h4⟩);rw [if_neg hl] at iQ v2;obtain⟨rfl,rfl⟩:=rj iQ;exact⟨fun h=>absurd h (by decide),fun _=>G.mp,fun _ _=>G.bf _ v2⟩);rw [if_neg hm] at iQ v2;obtain⟨rfl,rfl⟩:=rj iQ;obtain⟨g1,g2⟩:=G.al _ v2;exact⟨fun h=>absurd (n3 h) hm,fun _=>g1,fun _ h=>absurd h g2⟩);rw [if_neg hk] at t1 iQ;obtain⟨rfl,rfl⟩:=rj iQ;exact⟨t1,fun h=>absurd (.inl h) hk,fun h=>absurd (.inr h) hk,fun h=>absurd (.inr h) hk⟩);refine⟨hv.1,?_,fun u hu h4 hm=>?_⟩;(·rw [Ex.LM];refine⟨fun h=>?_,fun h=>?_,fun u hu=>?_,fun h=>?_,?_⟩;(·rw [yn]; exact XB _ (hv.2.1 (yk ▸ h)));(·rw [ym]; exact hv.2.2.1 (yk ▸ h));(·unfold Ex.own at hu;rw [yty,yk,yl] at hu;(rcases ew.1 hu with hu | hu);(·obtain⟨t,ht,rfl⟩:=dv.1 hu;exact t2 t ht);split at hu;(·rename_i hk;unfold Tg at hu;rw [if_pos hk,uN] at hu;obtain⟨l,hl,rfl⟩:=dv.1 hu;exact l2 l (by rw [if_pos hk]; exact hl));cases hu);(·rw [ykl,yll];refine xz tO ?_;rw [yk] at h;have:=iQ;unfold mq at this;split at this;(·rename_i fN;have h2:=aej X loc x fN;rw [this] at h2;exact absurd h h2);obtain⟨rfl,-⟩:=rj this; exact h);rw [yks]; exact c2);rw [y.eD] at hu;(rcases cb.1 hu with rfl | hu);(·rw [yk] at h4;rw [ym] at hm;rw [yn]; exact hv.2.2.2 h4 hm);obtain⟨k,hk,hu⟩:=eM.1 hu;rw [yks] at hk;exact c3 k hk u hu h4 hm
theorem HW {X:Rv}:∀ (ps:List Pm) (vs:List ByteArray) (e:Int),gW (gR X) (sR X) vs ps e=0→(∀ vs e,∀ p∈ps,p.bound.fold (gR X vs) (sR X vs) e=0→e=0)→e=0
 | [],vs,e,h,_=>h
 | p :: r,vs,e,h,hp=>by
  rw [gW] at h
  exact hp _ _ p (b9 ..) (HW r _ _ h fun vs e q hq=>hp vs e q (bP _ hq))
theorem aat {X:Rv} {bf:List ByteArray} (G:Good X bf) (d:Dc) (hf:∃ c,wO c d=0) (hs:oE d=true) (tO:tr d.expr) (h0:sk X d=0) :
  pZ (eX d) (eE X d).lower∧pZ (eX d) (eE X d).upper∧pZ (eX d) (eE X d).type∧(eE X d).expr.EY (eX d) []∧Cn X.mp bf (eE X d).expr∧((eE X d).kind=2→ec (eE X d).mod=true):=by
 obtain⟨c,hc⟩:=hf;obtain⟨-,-,f3,f4⟩:=Vu hc;unfold oE at hs;have E9:=(EW hs).2;unfold ZJ at E9;obtain⟨x1,x2⟩:=Vv (eX d) d.expr.size d.expr (aw _) _ _ E9;obtain⟨a1,a2⟩:=tc (eX d) d.type.size d.type (aw _) _ x1;obtain⟨b1,b2⟩:=tc (eX d) d.upper.size d.upper (aw _) _ a1;obtain⟨c1,c2⟩:=tc (eX d) d.lower.size d.lower (aw _) _ b1;have tL:∀ (ps:List Pm) (vs:List ByteArray) (e:Bool),gW gQ sQ vs ps e=true→e=true∧∀ p∈ps,yQ p.bound:=by intro ps;induction ps with | nil=>intro vs e h; exact⟨h,fun p hp=>by cases hp⟩ | cons p r ih =>intro vs e h;rw [gW] at h;obtain⟨h1,h2⟩:=ih _ _ h;obtain⟨h3,h4⟩:=tc vs p.bound.size p.bound (aw _) _ h1;refine⟨h3,fun q hq=>?_⟩;(rcases cb.1 hq with rfl | hq);(·exact h4);exact h2 q hq
 obtain⟨-,p2⟩:=tL d.params [] _ c1;unfold sk at h0;obtain⟨y1,y2,y3⟩:=aas G (eX d) d.expr.size d.expr (aw _) (fun u hu=>aeK (HR _ f4 u hu)) tO x2 [] [] _ (fun s h=>h) h0;obtain⟨e1,e2⟩:=xF G (eX d) d.type.size d.type (aw _) a2 _ y1;obtain⟨g1,g2⟩:=xF G (eX d) d.upper.size d.upper (aw _) b2 _ e1;obtain⟨i1,i2⟩:=xF G (eX d) d.lower.size d.lower (aw _) c2 _ g1;have hz:=HW d.params [] _ i1 fun vs e p hp h=>(xF G vs p.bound.size p.bound (aw _) (p2 p hp) e h).1;refine⟨i2,g2,e2,y2,y3,fun hk=>?_⟩;have hk:d.kind=2:=hk;rw [if_pos hk] at hz;show ec (if d.kind=2 then Da X d.mod else d.mod)=true;rw [if_pos hk];exact (G.al _ hz).1
theorem Vx {m:Md} (h:xk m=0):∀ x∈m.imports,ec x.path=true∧x.path≠m.path:=by
 unfold xk at h;split at h;·cases h
 split at h;·cases h
 intro x hx;obtain⟨c,hc⟩:=BI _ _ _ h x hx;unfold Cj at hc;split at hc;·cases hc
 rename_i h1;split at hc;·cases hc
 rename_i h2;refine⟨?_,h2⟩;cases hb:ec x.path with | true=>rfl | false=>exact absurd (.inl hb) h1
theorem Vy {m:Md} (h:xk m=0):ec m.path=true:=by
 unfold xk at h;split at h;·cases h
 rename_i h1;simpa using h1
theorem LO:∀ (l:List Im) (g:List (ByteArray×ByteArray)) (s p:ByteArray),nL s (l.foldl (fun g x=>JP x.alias x.path g) g)=some p→nL s g=some p∨∃ x∈l,x.path=p
 | [],_,_,_,h=>.inl h
 | x :: r,g,s,p,h=>by
  rw [aM] at h
  rcases LO r _ s p h with h | ⟨y,hy,e⟩
  ·rw [Rf] at h
   split at h
   ·cases h; exact .inr ⟨x,b9 ..,rfl⟩
   exact .inl h
  exact .inr ⟨y,bP _ hy,e⟩
theorem Sl:∀ (l:List Dc) (s:ByteArray) (n:Nat),0≤yM l s→yM l s<n→jg s ((l.take n).map Dc.name)=true
 | [],s,n,h,_=>absurd h (by unfold yM; decide)
 | d :: r,s,0,h,h2=>by omega
 | d :: r,s,n+1,h,h2=>by
  rw [gq,cR,nW]
  unfold yM at h h2
  by_cases hd:d.name=s
  ·rw [hd]; exact b9 ..
  rw [if_neg hd] at h h2
  by_cases hi:yM r s<0
  ·rw [if_pos hi] at h; exact absurd h (by decide)
  rw [if_neg hi] at h2
  exact bP _ (nW.1 (Sl r s n (by omega) (by omega)))
theorem aau {m:Md} (h:xk m=0) (i:Nat):Good (Xm m i) ((m.decls.take i).map Dc.name):=by
 refine⟨Vy h,fun s hs=>?_,fun s hs=>?_⟩;·unfold Ff at hs;split at hs;(·rename_i h2;cases hg:nL s (dw (Xm m i).cE) with | none=>rw [hg] at h2; cases h2 | some p =>(rcases LO m.imports [] s p hg with h3 | ⟨x,hx,rfl⟩);(·cases h3);unfold Da;rw [hg];exact Vx h x hx);cases hs
 unfold yN at hs;split at hs;·cases hs
 rename_i h1;split at hs;·cases hs
 rename_i h2;exact Sl m.decls s i (by show 0≤yM (Xm m i).decls s; omega) (by show yM (Xm m i).decls s<_; have:((Xm m i).idx:Int)=(i:Int):=rfl; omega)
theorem uM (m:Md):∀ (l:List Dc) (i k:Nat),(eT m i l)[k]?=(l[k]?).map fun d=>eE (Xm m (i+k)) d
 | [],i,k=>by rw [eT]; simp
 | d :: r,i,0=>by rw [eT]; rfl
 | d :: r,i,k+1=>by
  rw [eT,dx,dx,uM m r (i+1) k,show i+1+k=i+(k+1) by omega]
theorem wD (G:List ByteArray→Ty→Option ByteArray):∀ (l:List Pm) (vs:List ByteArray),(fK G vs l).map Pm.name=l.map Pm.name
 | [],_=>rfl
 | p :: r,vs=>by rw [fK,cR,cR,wD G r]
def aav (path:ByteArray) (bf:List ByteArray) (d:Dc):Prop:=pZ (eX d) d.lower∧pZ (eX d) d.upper∧pZ (eX d) d.type∧d.expr.EY (eX d) []∧Cn path bf d.expr∧(d.kind=2→ec d.mod=true)
theorem Vz (m:Md) (h:(km m).2.2=0):(km m).1.path=m.path∧(km m).1.imports=m.imports∧(km m).1.decls.length=m.decls.length ∧
  ∀ k d,(km m).1.decls[k]?=some d→aav m.path (((km m).1.decls.take k).map Dc.name) d:=by
 obtain⟨h1,h2,h3,h4⟩:=NC h;obtain⟨hh,-⟩:=aeL h1;rw [h4];refine⟨rfl,rfl,k9 ..,fun k d hd=>?_⟩;have hd':(eT m 0 m.decls)[k]?=some d:=hd;rw [uM] at hd';obtain⟨d0,Wf,rfl⟩:=bA.1 hd';rw [bE];have hm:=aB Wf;have he:=wA m m.decls 0 h3 k d0 Wf;rw [bE] at he;have hb:((eT m 0 m.decls).take k).map Dc.name=(m.decls.take k).map Dc.name:=by apply dy;intro j;rw [ae,ae,iZ,iZ];split;(·rw [uM];cases m.decls[j]? <;> rfl);rfl
 have hv:eX (eE (Xm m k) d0)=eX d0:=wD ..;obtain⟨g1,g2,g3,g4,g5,g6⟩:=aat (aau hh k) d0 (HQ m h1 d0 hm) (h2 d0 hm) (PR m h1 d0 hm) he;unfold aav;rw [hv];show _∧_∧_∧_∧Cn m.path (((eT m 0 m.decls).take k).map Dc.name) _∧_;rw [hb];exact⟨g1,g2,g3,g4,g5,g6⟩
section
attribute [local irreducible] runM fH nV de lI vl CO
abbrev Us:=ByteArray×ByteArray
def gA (u:Us):V:=.agg [str u.1,str u.2]
theorem yA {P:Program} {T:TypeId} (hT:P.underlying T=some .string) (d:Nat) (a b:ByteArray):cQ P (Op.equalIn (d+1) T (.string a) (.string b))=some (a==b):=by rw [Op.equalIn,dH,iK hT];rfl
theorem aky (a b c d:ByteArray):cQ af (Op.equal 80 (.agg #[.string a,.string b]) (.agg #[.string c,.string d]))=some (a==c&&b==d):=by
 show cQ af (Op.equalIn (9999+1) 80 _ _)=_;have h1:=yA Tryz.underlying9 9998 a c;have h2:=yA Tryz.underlying9 9998 b d;have hs:af.stoodInHeld 80=false:=by kernel_rfl
 have V9:∀ x y,cQ af (part 9 #[x,y] 0)=some x:=fun x y=>by kernel_rfl
 have N0:∀ x y,cQ af (part 9 #[x,y] 1)=some y:=fun x y=>by kernel_rfl
 rw [Op.equalIn,dH,iK Tryz.underlying80];dsimp only [eL];rw [dH];show ((some af).bind _)=_;rw [eL,if_neg (by rw [hs]; simp)];rw [← aqv];have n1:("Module" ≠ "_"):=by decide
 have n2:("Name" ≠ "_"):=by decide
 have q1:cQ af (Op.equalIn 9999 9 (Value.string a) (Value.string c))=some (a==c):=h1;have q2:cQ af (Op.equalIn 9999 9 (Value.string b) (Value.string d))=some (b==d):=h2;have pr:∀ {α:Type} (x:α),cQ af (pure x:Sem α)=some x:=fun x=>rfl;simp only [aqg,aqa,dH,if_pos n1,if_pos n2,V9,N0,eL,q1,pr];cases hac:(a==c);·simp [pr,eL]
 simp only [aZ,cf,if_false,pr,eL,dH,if_pos n2,N0,q2,aY];cases Lk:(b==d) <;> simp [pr,dH]
theorem aaw (u v:Us):(u.1==v.1&&u.2==v.2)=decide (u=v):=by rw [mB,aL,sO,sO,decide_eq_true_eq,Prod.ext_iff]
theorem la (x y:Operand) (u v:Us):eR af (re .eql 80 x y) (.agg [str u.1,str u.2]) (.agg [str v.1,str v.2])=some (bl (decide (u=v))):=by
 have:cQ af (do eqGuard .eql 80 x y (.agg #[.string u.1,.string u.2]) (.agg #[.string v.1,.string v.2]); binOp .eql 80 (.agg #[.string u.1,.string u.2]) (.agg #[.string v.1,.string v.2]))=some (.bool (decide (u=v))):=by (have hg:cQ af (eqGuard .eql 80 x y (.agg #[.string u.1,.string u.2]) (.agg #[.string v.1,.string v.2]))=some ():=by kernel_rfl);rw [dH,hg,eL];have hb:∀ u v:Array Value,binOp .eql 80 (.agg u) (.agg v)=(Op.equal 80 (.agg u) (.agg v) >>= fun r=>Pure.pure (Value.bool r)):=fun u v=>rfl;rw [hb,dH,aky,aaw]; rfl
 simp only [eR,fG,xL,re];rw [this]; rfl
def oM (a b:ByteArray):Bool:=Op.bytesLess a.toList b.toList
def pw (u v:Us):Bool:=oM u.1 v.1||decide (u.1=v.1)&&oM u.2 v.2
theorem VB (a b:Us):∃ r,(fun v=>v=bl (pw a b)) r∧bR af 152 [gA a,gA b] r:=by
 refine CP tt_ok (fn:=Tryz.f152) Tryz.func152 rfl Tryz.call152 ?_;simp only [dL,cH,Tryz.ntmps152,ay,aI,zA,zF,aD,aE];simp only [gA];refine bQ tt_ok 24 [0,0,2,2,2] [] rfl rfl fun K hK=>?_;simp only [go_sem,ai];refine hK _ _ rfl ?_;simp only [jk,zA,zE];refine bQ tt_ok 24 (0::0::0::0::2::(rp 19 1 [])) [(5,10),(11,16)] rfl rfl fun K hK=>?_;try simp only [dL]
 refine fI 6 fun K1 fq=>?_;simp only [go_sem,ai];refine fq _ ?_;refine sN 10 (by rfl) fun b Xp=>?_;cases b;·refine fI 6 fun K1 fq=>?_;simp only [go_sem,ai];refine fq _ ?_;refine sN 16 (by rfl) fun b xt=>?_;cases b;(·simp only [go_sem,ai];refine hK _ _ rfl ?_;simp only [jk,zA,zE];exact lr ⟨.inl rfl,_,congrArg bl (by simp_all [pw,oM,bN]),rfl⟩);simp only [go_sem,ai];refine hK _ _ rfl ?_;simp only [jk,zA,zE];exact lr ⟨.inl rfl,_,congrArg bl (by simp_all [pw,oM,bN]),rfl⟩
 refine fI 8 fun K1 fq=>?_;simp only [go_sem,ai];refine fq _ ?_;simp only [go_sem,ai];refine hK _ _ rfl ?_;simp only [jk,zA,zE];exact lr ⟨.inl rfl,_,congrArg bl (by simp_all [pw,oM,bN]),rfl⟩
end
end Go.Proofs.YtnboooapeopjoaaGreatDoor
end
