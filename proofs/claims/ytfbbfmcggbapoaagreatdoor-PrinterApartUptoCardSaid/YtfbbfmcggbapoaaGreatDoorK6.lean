import Derived.Test.YtfbbfmcggbapoaaGreatDoorK5
import Derived.ChangeArms
import Derived.WalkKit
import Derived.Lib.LaidTab
import Derived.Stop.LaidErr
import Derived.Test.YtfbbfmcggbapoaaGreatDoorRows
import Derived.ProofKit
import Derived.OpenShut
import Derived.WideKeyArgs
import Derived.Deep.DeepHandedRow
open Array renaming eq_empty_of_size_eq_zero→au1,getElem?_eq_getElem→bP,length_toList→fA
open Bool renaming and_eq_true→aJ,and_true→aU,false_eq_true→bu,false_or→bX,not_eq_false'→qM,not_eq_true'→ej,not_false→a8,not_not→asn,or_eq_false_iff→ez,or_eq_true→dN,true_and→a6
open ByteArray renaming ext→atL
open Go.Proofs.Tryz renaming prog→aj
open Int renaming cast_ofNat_Int→dY,reduceEq→iL,toNat_of_nonneg→auP
open List renaming all_eq_true→aN,any_eq_false→km,any_eq_true→tP,append_assoc→al,append_eq_nil_iff→auV,append_nil→ah,cons_append→aw,cons_ne_nil→ch,flatMap_append→lN,flatMap_cons→ab,flatMap_map→atP,flatMap_nil→ag,getElem?_cons_succ→cO,getElem?_eq_getElem→au,getElem?_eq_none→cH,getElem?_eq_some_iff→aA,getElem?_map→aq,getElem?_range→auc,head?_cons→aut,headD_cons→cg,length_append→ae,length_cons→af,length_map→ax,length_nil→ai,map_append→fF,map_congr_left→lM,map_cons→bm,map_map→aso,map_tail→atT,mem_append→eA,mem_append_left→dD,mem_append_right→eP,mem_cons→b8,mem_cons_of_mem→bj,mem_cons_self→cV,mem_flatMap→e9,mem_iff_getElem?→bB,mem_map→cQ,mem_map_of_mem→aud,mem_of_getElem?→aE,mem_of_mem_tail→aug,nil_append→aC,not_mem_nil→ef,pairwise_append→kM,pairwise_cons→aua,replicate_succ→aG,replicate_zero→aH,tail_cons→qL,takeWhile_append_of_pos→au0,take_add_one→bH,take_append_drop→nB,take_length→az,take_of_length_le→dX,take_zero→xV,zipWith_cons_cons→auU
open Nat renaming add_assoc→lT,add_zero→jW,eq_zero_or_pos→atC,le_refl→ay,le_trans→fU,lt_succ_self→nU,mod_lt→atE,zero_le→ck
open Option renaming any_eq_true→atO,getD_none→at0,map_some→b9,toList_some→auM
open Option.some renaming inj→gD,injEq→aB
open UInt8 renaming ofNat_toNat→at5
set_option linter.all false
section
namespace Go.Proofs.YtfbbfmcggbapoaaGreatDoor
open Go.Eng
variable [ba]
open Nat renaming reduceAdd → zA, reduceLT → zB, reduceLeDiff → zC, reduceMul → zD, reduceEqDiff → zE, reduceSub → zF
set_option maxHeartbeats 4000000
set_option maxRecDepth 100000
section
def B7 (B:bf) (v:Nat) (O:List UInt8):List bf:=[B,.nk 129 2 v O.length,.n7 5 v O]
def WR1 (x:V) (B:bf) (O X:List UInt8) (r:V) (m:List bf):Prop:=r=x∧∃ O' v',O'=O++X∧m=B7 B v' O'
def s1 (N:Nat) (j:Nat):Nat:=if j=0 then 1 else if j=1 then 2 else N+(j-2)
theorem J1 (N i j:Nat) (hi:i<2) (hj:j<2) (h:s1 N i=s1 N j):i=j:=by
 have h1:i=0∨i=1:=by omega
 have h2:j=0∨j=1:=by omega
 rcases h1 with rfl|rfl <;> rcases h2 with rfl|rfl <;> first|rfl|(simp [s1] at h)
theorem abB {x:V} {f:FuncId} {vs vs':List V} {O X:List UInt8} {v:Nat} (h:∃ r m,WG x 129 O X [] r m∧bo aj f vs (bM 129 v O []) r m) (hv:vs.all (aI 2)=true) (hx:aI 2 x=true) (MF:∀ N,tG (s1 N) vs=vs') (rj:∀ N,kX (s1 N) x=x) (B:bf) :
  ∃ r m,WR1 x B O X r m∧bo aj f vs' [B,.nk 129 2 v O.length,.n7 5 v O] r m:=by
 obtain⟨r,m,⟨rfl,O',v',rfl,rfl⟩,h⟩:=h;refine⟨_,_,⟨rfl,_,v',rfl,rfl⟩,?_⟩;have h2:=h.Jk (B7 B v O) (s1 (B7 B v O).length) 2 rfl hv rfl hx rfl (ay _) (fun i C hi=>?_) (J1 _) (fun j hj=>by unfold s1;rw [if_neg (by omega),if_neg (by omega)]);·rw [MF,rj] at h2;exact Hu h2 ((ah _).trans rfl)
 match i,hi with|0,hi=>cases hi;rfl|1,hi=>cases hi;rfl|i+2,hi=>cases hi
theorem J2 (v:Nat) (O:List UInt8) (h0:O≠[]) (B:bf):∃ r m,(r=str (bs O)∧m=[B,.nk 129 2 v O.length,.rv v 1 (kY O)])∧bo aj 85 [.ptr 1 0] [B,.nk 129 2 v O.length,.n7 5 v O] r m:=by
 refine⟨_,_,⟨rfl,rfl⟩,?_⟩;have h2:=(Dk (T:=129) v O h0).Jk (B7 B v O) (s1 (B7 B v O).length) 2 rfl rfl rfl rfl rfl (ay _) (fun i C hi=>?_) (J1 _) (fun j hj=>by unfold s1;rw [if_neg (by omega),if_neg (by omega)]);·exact Hu h2 ((ah _).trans rfl)
 match i,hi with|0,hi=>cases hi;rfl|1,hi=>cases hi;rfl|i+2,hi=>cases hi
def j8 (e:Int) (pl:Bool) (X:List UInt8):ByteArray×Int:=if e≠0 then (⟨#[]⟩,e) else if pl=false then (⟨#[]⟩,1) else if 65536<X.length then (⟨#[]⟩,7) else (bs X,0)
section
attribute [local go_sem] B7 ai
theorem xK (g:FuncId) (e:Int) (pl:Bool) (X:List UInt8) (C:List V) (hC:C.all (aI 1)=true) (hg:e=0→pl=true→X≠[]∧X.length≤34359738368∧∀ v O,O.length+X.length≤34359738368→∃ r m,WR1 (.dR []) (.box C) O X r m∧bo aj g [.ptr 1 0,.ptr 0 0] (B7 (.box C) v O) r m):∃ r_ m_,((fun r m=>r = .dR [str (j8 e pl X).1,num (j8 e pl X).2]∧m=[.box C])) r_ m_∧bo aj 34 [num e,bl pl,.ia (.func g) [] [.ptr 0 0]] ([.box C]) r_ m_:=by
 refine uJ tt_ok [5] 23 [.tmp 6,.tmp 7] (1) (ay _) (fn:=Tryz.f34) Tryz.func34 rfl Tryz.call34 ⟨rfl,rfl,by simp⟩ fun K hK=>?_;simp only [hC,go_sem];refine cC (fun kh=>?_) (fun kh=>?_)
 ·have he:e≠0:=by simpa using kh
  have hr:j8 e pl X=(⟨#[]⟩,e):=by unfold j8;rw [if_pos he]
  simp only [hC,go_sem]
  first
   | (rw [nZ];exact hK _ _ ⟨by rw [hr],rfl⟩)
   | exact hK _ _ ⟨by rw [hr],rfl⟩
 have he:e=0:=by simpa using kh
 simp only [hC,go_sem];refine cC (fun xE=>?_) (fun xE=>?_)
 ·have qU:pl=false:=by simpa using xE
  have hr:j8 e pl X=(⟨#[]⟩,1):=by unfold j8;rw [if_neg (by simp [he]),if_pos qU]
  simp only [hC,go_sem]
  first
   | (rw [nZ];exact hK _ _ ⟨by rw [hr],rfl⟩)
   | exact hK _ _ ⟨by rw [hr],rfl⟩
 have qU:pl=true:=by simpa using xE
 simp only [hC,go_sem];refine ae7 tt_ok 5 [5] rfl rfl rfl Xx rfl ?_;simp only [hC,go_sem];refine cW ((hg he qU).2.2 0 [] (by simpa using (hg he qU).2.1)) ?_;rintro _ _ ⟨rfl,O1,v1,ke,rfl⟩;rw [aC] at ke;simp only [hC,go_sem];refine cW (abB (VE (T:=129) v1 O1) rfl rfl (fun _=>rfl) (fun _=>rfl) _) ?_;rintro _ _ ⟨rfl,Ob,vb,nZ,rfl⟩;rw [ah,ke] at nZ;rw [ke];simp only [hC,go_sem];refine cC (fun JH=>?_) (fun JH=>?_)
 ·have hl:65536<X.length:=by have h0:=of_decide_eq_true JH;omega
  have hr:j8 e pl X=(⟨#[]⟩,7):=by unfold j8;rw [if_neg (by simp [he]),if_neg (by simp [qU]),if_pos hl]
  simp only [hC,go_sem]
  first
   | (rw [nZ];exact hK _ _ ⟨by rw [hr],rfl⟩)
   | exact hK _ _ ⟨by rw [hr],rfl⟩
 have hl:¬ 65536<X.length:=by have h0:=of_decide_eq_false JH;omega
 have hr:j8 e pl X=(bs X,0):=by unfold j8;rw [if_neg (by simp [he]),if_neg (by simp [qU]),if_neg hl]
 simp only [hC,go_sem];refine cW (J2 vb Ob (by rw [nZ];exact (hg he qU).1) _) ?_;rintro _ _ ⟨rfl,rfl⟩;simp only [hC,go_sem]
 first
  | (rw [nZ];exact hK _ _ ⟨by rw [hr],rfl⟩)
  | exact hK _ _ ⟨by rw [hr],rfl⟩
end
end
section
attribute [local irreducible] runM fq oS
theorem Dn (l:List Dc) (i:Nat) {d:Dc} (h:l[i]?=some d):(l.map dh)[i]?=some (.agg (eO d)):=by rw [aq,h];rfl
theorem Bz (l:List Pm) (i:Nat) {p:Pm} (h:l[i]?=some p):(l.map eu)[i]?=some (.agg ([str p.name,num p.eh]++aD p.bound)):=by rw [aq,h];rfl
theorem N2 (m:Md) (hm:m.dd≤1048576):bJ aj 205 [sx m] (num m.size):=by
 unfold Md.dd at hm;have CI:=ct Dc.dd Dc.gz m.decls;have hle:∀ i,aM Dc.size (m.decls.take i)≤1048576:=fun i=>by have h1:=gb Dc.dd m.decls i;(have h2:∀ l:List Dc,aM Dc.size l≤aM Dc.dd l:=fun l=>by induction l with|nil=>simp [aM]|cons a r ih=>have:=Dc.size_le a;simp only [aM];omega);have:=h2 (m.decls.take i);omega
 refine iN tt_ok (fn:=Tryz.f205) Tryz.func205 rfl Tryz.call205 ?_;simp only [cP,cK,Tryz.ntmps205,af,ai,zA,zF,aG,aH];rw [pP];simp only [qB];refine ak tt_ok fun K hK=>?_;simp only [go_sem];refine hK _ ?_;refine ak tt_ok fun K hK=>?_;simp only [ax,go_sem];refine hK _ ?_;have lQ:=lE (1+(m.imports.length:Int)) (1+m.imports.length) (by omega) (by omega);rw [lQ];refine bc ?_;refine ak tt_ok fun K hK=>?_;simp only [ax,go_sem];refine hK _ ?_;refine bC (cR (fun N st=>∃ (i:Nat),N=m.decls.length-i∧i≤m.decls.length ∧ st = { fr:=[.undef,.undef,.undef,num ((1+m.imports.length+aM Dc.size (m.decls.take i):Nat)),.undef,.undef,.undef,.undef,.undef,.undef,.undef,.undef,.undef,.slice (m.decls.map dh),num m.decls.length,num i]++List.replicate 56 .undef,mem:=[] }) m.decls.length ?_ ?_);·exact⟨0,(false::false::false::true::(rp 9 false [true,true,true])),by omega,by simp only [bg,aI,aV,aL,zB,gG],rfl,0,by omega,by omega,rfl⟩
 rintro N' st ⟨i,rfl,hi,rfl⟩;simp only [cP,aG,aH];by_cases bQ:i<m.decls.length;·have hd:=gx bQ;refine ak tt_ok fun K hK=>?_;simp only [hd,go_sem];refine hK _ ?_;refine bc (aO rfl (bZ ?_));refine bc (bC ?_);obtain⟨d,PO⟩:∃ d,m.decls[i]?=some d:=⟨_,au bQ⟩;have hds:=bU Dc.dd PO;have Fs:d.dd=1+d.params.length+aM (fun p=>p.bound.size) d.params+d.lower.size+d.upper.size+d.type.size+d.expr.dd:=rfl;have BV:=fb Dc.size PO;have iw:=d.size_le;have hT:=nA d.type (by omega);have hL:=nA d.lower (by omega);have hU:=nA d.upper (by omega);have hE:=Dd d.expr (by omega);have hC:=Nu d (by omega);have NN:=Ex.j7 _ d.expr (ay _);have hln:=hle (i+1);have BU:=hle i;rw [aT] at hT hL hU;rw [bn] at hE;rw [wu] at hC;simp only [cP,aD,aP,eO] at hT hL hU hE hC;have lU:=Dn m.decls i PO;simp only [cP,aD,aP,eO] at lU;have nr:=bN i (by omega);have hw3:=lE (1+(d.params.length:Int)) (1+d.params.length) (by omega) (by omega);have hw4:=lE (((1+m.imports.length+aM Dc.size (m.decls.take i):Nat):Int)+((1+d.params.length:Nat):Int)) (1+m.imports.length+aM Dc.size (m.decls.take i)+(1+d.params.length)) (by omega) (by omega);obtain⟨S,hS⟩:∃ S,S=1+m.imports.length+aM Dc.size (m.decls.take i)+(1+d.params.length):=⟨_,rfl⟩;rw [← hS] at hw4;refine ak tt_ok fun K hK=>?_;simp only [lU,go_sem];refine hK _ ?_;refine ak tt_ok fun K hK=>?_;simp only [ax,hw3,hw4,go_sem];refine hK _ ?_;refine ak tt_ok fun K hK=>?_;simp only [go_sem];refine hK _ ?_;refine bC ?_;by_cases h0:d.kind=0;(·have d0:decide (d.kind=0)=true:=decide_eq_true h0;refine ak tt_ok fun K hK=>?_;simp only [d0,go_sem];refine hK _ ?_;refine aO rfl ?_;show dS _ _ _ _ _ _;refine ak tt_ok fun K hK=>?_;simp only [go_sem];refine .inl ⟨_,_,by simp only [go_sem,az],hT,?_⟩;(try simp only [go_sem]);refine hK _ ?_;have V7:=lE ((S:Int)+(d.type.size:Int)) (S+d.type.size) (by omega) (by omega);rw [V7];cases mf:d.clear with|true =>(have hdz:d.size=1+d.params.length+d.type.size:=by unfold Dc.size;rw [if_pos h0,if_pos mf,jW]);rw [mf] at hC;refine ak tt_ok fun K hK=>?_;simp only [go_sem];refine .inl ⟨_,_,by simp only [go_sem,az],hC,?_⟩;(try simp only [go_sem]);refine hK _ ?_;refine aO rfl (bZ ?_);show dS _ _ _ _ _ _;refine aR tt_ok fun K hK=>?_;simp only [go_sem];refine hK _ ?_;rw [nr];(have oX:S+d.type.size=1+m.imports.length+aM Dc.size (m.decls.take (i+1)):=by omega);rw [oX];exact⟨m.decls.length-(i+1),by omega,0,(false::false::false::true::(rp 9 false [true,true,true])),by omega,by simp only [bg,aI,aV,aL,zB,gG],rfl,i+1,rfl,bQ,by simp [rp,bg]⟩|false =>(have hdz:d.size=1+d.params.length+(d.type.size+(d.lower.size+d.upper.size)):=by unfold Dc.size;rw [if_pos h0,if_neg (by rw [mf];simp)]);rw [mf] at hC;refine ak tt_ok fun K hK=>?_;simp only [go_sem];refine .inl ⟨_,_,by simp only [go_sem,az],hC,?_⟩;(try simp only [go_sem]);refine hK _ ?_;refine aO rfl ?_;show dS _ _ _ _ _ _;refine lz tt_ok cB [pN,pN,pR,pN,pN,pR,pN,pN,pN,pN] 0 kr fun K hK=>?_;simp only [go_sem,List.replicate];refine⟨_,_,by simp only [go_sem,az],.inl (hL),?_⟩;(try simp only [go_sem,List.replicate]);refine⟨_,_,by simp only [go_sem,az],.inl (hU),?_⟩;(try simp only [go_sem,List.replicate]);refine hK _ ?_;have V8:=lE ((d.lower.size:Int)+(d.upper.size:Int)) (d.lower.size+d.upper.size) (by omega) (by omega);rw [V8];have X8:=lE (((S+d.type.size:Nat):Int)+((d.lower.size+d.upper.size:Nat):Int)) (S+d.type.size+(d.lower.size+d.upper.size)) (by omega) (by omega);rw [X8];show dS _ _ _ _ _ _;refine aR tt_ok fun K hK=>?_;simp only [go_sem];refine hK _ ?_;rw [nr];(have oX:S+d.type.size+(d.lower.size+d.upper.size)=1+m.imports.length+aM Dc.size (m.decls.take (i+1)):=by omega);rw [oX];exact⟨m.decls.length-(i+1),by omega,0,(false::false::false::true::(rp 9 false [true,true,true])),by omega,by simp only [bg,aI,aV,aL,zB,gG],rfl,i+1,rfl,bQ,by simp [rp,bg]⟩);have d0:decide (d.kind=0)=false:=decide_eq_false h0;refine ak tt_ok fun K hK=>?_;simp only [d0,go_sem];refine hK _ ?_;refine aO rfl ?_;show dS _ _ _ _ _ _;by_cases h1:d.kind=1;(·have d1:decide (d.kind=1)=true:=decide_eq_true h1;(have hdz:d.size=1+d.params.length+(d.type.size+d.expr.size+aM (fun p=>p.bound.size) d.params):=by unfold Dc.size;rw [if_neg h0,if_pos h1]);refine ak tt_ok fun K hK=>?_;simp only [d1,go_sem];refine hK _ ?_;refine aO rfl ?_;show dS _ _ _ _ _ _;refine kx tt_ok cB [pN,pN,pR,pN,pN,pR,pN,pN,pN,pN] 0 kr fun K hK=>?_;simp only [go_sem,List.replicate];refine⟨_,_,by simp only [go_sem,az],.inl (hT),?_⟩;(try simp only [go_sem,List.replicate]);refine⟨_,_,by simp only [go_sem,az],.inl (hE),?_⟩;(try simp only [go_sem,List.replicate]);refine hK _ ?_;have V7:=lE ((d.type.size:Int)+(d.expr.size:Int)) (d.type.size+d.expr.size) (by omega) (by omega);rw [V7];have V8:=lE ((S:Int)+((d.type.size+d.expr.size:Nat):Int)) (S+(d.type.size+d.expr.size)) (by omega) (by omega);rw [V8];obtain⟨S1,hS1⟩:∃ S1,S1=S+(d.type.size+d.expr.size):=⟨_,rfl⟩;rw [← hS1];refine ak tt_ok fun K hK=>?_;simp only [ax,go_sem];refine hK _ ?_;refine bC (cR (fun N st=>∃ (j:Nat),N=d.params.length-j∧j≤d.params.length ∧ st = { fr:=[.undef,.undef,.undef,num ((S1+aM (fun p=>p.bound.size) (d.params.take j):Nat)),.undef,.undef,.undef,.undef,.undef,.undef,.undef,.undef,.undef,.slice (m.decls.map dh),num m.decls.length,num i]++List.replicate 42 .undef++[.slice (d.params.map eu),num d.params.length,num j]++List.replicate 11 .undef,mem:=[] }) d.params.length ?_ ?_);(·exact⟨0,(false::false::false::true::(rp 9 false [true,true,true]))++List.replicate 42 false++[true,true,true],by omega,by simp only [aG,aH,aw,aC,bg,aI,aV,aL,zB,gG],rfl,0,by omega,by omega,rfl⟩);rintro N' st ⟨j,rfl,hj,rfl⟩;simp only [cP,aG,aH];by_cases yZ:j<d.params.length;(·have OQ:=gx yZ;obtain⟨p,hp⟩:∃ p,d.params[j]?=some p:=⟨_,au yZ⟩;have oW:=bU (fun p:Pm=>p.bound.size) hp;have hpt:=fb (fun p:Pm=>p.bound.size) hp;have qU:=gb (fun p:Pm=>p.bound.size) d.params (j+1);have hP:=nA p.bound (by omega);rw [aT] at hP;simp only [aD] at hP;have hpc:=Bz d.params j hp;simp only [cP,aD] at hpc;have X8:=lE (((S1+aM (fun p=>p.bound.size) (d.params.take j):Nat):Int)+(p.bound.size:Int)) (S1+aM (fun p=>p.bound.size) (d.params.take (j+1))) (by omega) (by omega);have hw8:=bN j (by omega);refine ak tt_ok fun K hK=>?_;simp only [OQ,go_sem];refine hK _ ?_;refine bc (aO rfl (bZ ?_));refine bc (bC ?_);refine ak tt_ok fun K hK=>?_;simp only [hpc,go_sem];refine hK _ ?_;refine aR tt_ok fun K hK=>?_;simp only [go_sem];refine .inl ⟨_,_,by simp only [go_sem,az],hP,?_⟩;(try simp only [go_sem]);refine hK _ ?_;rw [X8];show dS _ _ _ _ _ _;refine aR tt_ok fun K hK=>?_;simp only [go_sem];refine hK _ ?_;rw [hw8];exact⟨d.params.length-(j+1),by omega,0,(false::false::false::true::(rp 9 false [true,true,true]))++List.replicate 42 false++[true,true,true],by omega,by simp only [aG,aH,aw,aC,bg,aI,aV,aL,zB,gG],rfl,j+1,rfl,yZ,by simp [rp,bg]⟩);have OQ:=gy yZ;(have Up:j=d.params.length:=by omega);subst Up;refine ak tt_ok fun K hK=>?_;simp only [OQ,go_sem];refine hK _ ?_;refine bc (aO rfl (dK ?_));(try rw [az]);show dS _ _ _ _ _ _;refine aR tt_ok fun K hK=>?_;simp only [go_sem];refine hK _ ?_;rw [nr];(have oX:S1+aM (fun p=>p.bound.size) d.params=1+m.imports.length+aM Dc.size (m.decls.take (i+1)):=by omega);rw [oX];exact⟨m.decls.length-(i+1),by omega,0,(false::false::false::true::(rp 9 false [true,true,true])),by omega,by simp only [bg,aI,aV,aL,zB,gG],rfl,i+1,rfl,bQ,by simp [rp,bg]⟩);have d1:decide (d.kind=1)=false:=decide_eq_false h1;(have hdz:d.size=1+d.params.length:=by unfold Dc.size;rw [if_neg h0,if_neg h1];rfl);refine ak tt_ok fun K hK=>?_;simp only [d1,go_sem];refine hK _ ?_;refine aO rfl (bZ ?_);show dS _ _ _ _ _ _;refine aR tt_ok fun K hK=>?_;simp only [go_sem];refine hK _ ?_;rw [nr];(have oX:S=1+m.imports.length+aM Dc.size (m.decls.take (i+1)):=by omega);rw [oX];exact⟨m.decls.length-(i+1),by omega,0,(false::false::false::true::(rp 9 false [true,true,true])),by omega,by simp only [bg,aI,aV,aL,zB,gG],rfl,i+1,rfl,bQ,by simp [rp,bg]⟩
 have hd:=gy bQ;refine ak tt_ok fun K hK=>?_;simp only [hd,go_sem];refine hK _ ?_;refine bc (aO rfl (dK ?_));have kz:i=m.decls.length:=by omega
 subst kz;show dS _ _ _ _ _ _;refine ak tt_ok fun K hK=>?_;simp only [go_sem];refine hK _ ?_;refine bE ⟨.inl rfl,?_⟩;try rw [az]
 rfl
end
section
attribute [local irreducible] runM fq oS
theorem N3 (m:Md) (hm:m.dd≤1048576):bJ aj 32 [sx m] (num m.size):=by
 unfold Md.dd at hm;have CI:=ct Dc.dd Dc.gz m.decls;have hle:∀ i,aM Dc.size (m.decls.take i)≤1048576:=fun i=>by have h1:=gb Dc.dd m.decls i;(have h2:∀ l:List Dc,aM Dc.size l≤aM Dc.dd l:=fun l=>by induction l with|nil=>simp [aM]|cons a r ih=>have:=Dc.size_le a;simp only [aM];omega);have:=h2 (m.decls.take i);omega
 refine iN tt_ok (fn:=Tryz.f32) Tryz.func32 rfl Tryz.call32 ?_;simp only [cP,cK,Tryz.ntmps32,af,ai,zA,zF,aG,aH];rw [pP];simp only [qB];refine ak tt_ok fun K hK=>?_;simp only [go_sem];refine hK _ ?_;have lQ:=lE (1+(m.imports.length:Int)) (1+m.imports.length) (by omega) (by omega);refine ak tt_ok fun K hK=>?_;simp only [ax,lQ,go_sem];refine hK _ ?_;refine bc ?_;refine ak tt_ok fun K hK=>?_;simp only [go_sem];refine hK _ ?_;refine bC (cR (fun N st=>∃ (i:Nat),N=m.decls.length-i∧i≤m.decls.length ∧ st = { fr:=[.undef,.ptr 0 0,.undef,num ((1+m.imports.length+aM Dc.size (m.decls.take i):Nat)),num i]++List.replicate 73 .undef,mem:=[.box [str m.path,.slice (m.imports.map fc),.slice (m.decls.map dh)]] }) m.decls.length ?_ ?_);·exact⟨1,[false,true,false,true,true],by omega,by simp only [bg,aI,aV,aL,zB,gG],by simp only [bg,aI,aV,aL,zB,gG],0,by omega,by omega,rfl⟩
 rintro N' st ⟨i,rfl,hi,rfl⟩;simp only [cP,aG,aH];refine bc ?_;by_cases bQ:i<m.decls.length;·have hd:=gx bQ;refine ak tt_ok fun K hK=>?_;simp only [ax,hd,go_sem];refine hK _ ?_;refine aO rfl (bZ ?_);refine bc (bC ?_);obtain⟨d,PO⟩:∃ d,m.decls[i]?=some d:=⟨_,au bQ⟩;have hds:=bU Dc.dd PO;have Fs:d.dd=1+d.params.length+aM (fun p=>p.bound.size) d.params+d.lower.size+d.upper.size+d.type.size+d.expr.dd:=rfl;have BV:=fb Dc.size PO;have iw:=d.size_le;have hT:=pM d.type.size d.type (ay _) (by omega);have hL:=pM d.lower.size d.lower (ay _) (by omega);have hU:=pM d.upper.size d.upper (ay _) (by omega);have hE:=Hm d.expr.dd d.expr (ay _) (by omega);have hC:=Nv d (by omega);have NN:=Ex.j7 _ d.expr (ay _);have hln:=hle (i+1);have BU:=hle i;rw [aT] at hT hL hU;rw [bn] at hE;rw [wu] at hC;simp only [cP,aD,aP,eO] at hT hL hU hE hC;have lU:=Dn m.decls i PO;simp only [cP,aD,aP,eO] at lU;have nr:=bN i (by omega);have hw3:=lE (((1+m.imports.length+aM Dc.size (m.decls.take i):Nat):Int)+1) (1+m.imports.length+aM Dc.size (m.decls.take i)+1) (by omega) (by omega);have hw4:=lE (((1+m.imports.length+aM Dc.size (m.decls.take i)+1:Nat):Int)+(d.params.length:Int)) (1+m.imports.length+aM Dc.size (m.decls.take i)+1+d.params.length) (by omega) (by omega);obtain⟨S,hS⟩:∃ S,S=1+m.imports.length+aM Dc.size (m.decls.take i)+1+d.params.length:=⟨_,rfl⟩;rw [← hS] at hw4;refine ak tt_ok fun K hK=>?_;simp only [lU,go_sem];refine hK _ ?_;refine ak tt_ok fun K hK=>?_;simp only [ax,hw3,hw4,go_sem];refine hK _ ?_;refine bc ?_;by_cases h1:d.kind=1;(·have d1:decide (d.kind=1)=true:=decide_eq_true h1;have d0:decide (d.kind=0)=false:=decide_eq_false (by omega);(have hdz:d.size=1+d.params.length+(d.type.size+d.expr.size+aM (fun p=>p.bound.size) d.params):=by unfold Dc.size;rw [if_neg (by omega),if_pos h1]);refine ak tt_ok fun K hK=>?_;simp only [d1,go_sem];refine hK _ ?_;refine aO rfl ?_;show dS _ _ _ _ _ _;refine bc ?_;refine ak tt_ok fun K hK=>?_;simp only [go_sem];refine hK _ ?_;refine bC (cR (fun N st=>∃ (j:Nat),N=d.params.length-j∧j≤d.params.length ∧ st = { fr:=[.undef,.ptr 0 0,.undef,num ((S+aM (fun p=>p.bound.size) (d.params.take j):Nat)),num i,.ptr 1 0,num j]++List.replicate 71 .undef,mem:=[.box [str m.path,.slice (m.imports.map fc),.slice (m.decls.map dh)],.box (eO d)] }) d.params.length ?_ ?_);(·exact⟨2,[false,true,false,true,true,true,true],by omega,by simp only [bg,aI,aV,aL,zB,gG],by simp only [bg,aI,aV,aL,zB,gG],0,by omega,by omega,rfl⟩);rintro N' st ⟨j,rfl,hj,rfl⟩;simp only [cP,aG,aH,eO,aD,aP];refine bc ?_;by_cases yZ:j<d.params.length;(·have OQ:=gx yZ;obtain⟨p,hp⟩:∃ p,d.params[j]?=some p:=⟨_,au yZ⟩;have oW:=bU (fun p:Pm=>p.bound.size) hp;have hpt:=fb (fun p:Pm=>p.bound.size) hp;have qU:=gb (fun p:Pm=>p.bound.size) d.params (j+1);have hP:=pM p.bound.size p.bound (ay _) (by omega);rw [aT] at hP;simp only [aD] at hP;have hpc:=Bz d.params j hp;simp only [cP,aD] at hpc;have X8:=lE (((S+aM (fun p=>p.bound.size) (d.params.take j):Nat):Int)+(p.bound.size:Int)) (S+aM (fun p=>p.bound.size) (d.params.take (j+1))) (by omega) (by omega);have hw8:=bN j (by omega);refine ak tt_ok fun K hK=>?_;simp only [ax,OQ,go_sem];refine hK _ ?_;refine aO rfl (bZ ?_);refine bc (bC ?_);refine aR tt_ok fun K hK=>?_;simp only [hpc,go_sem];refine .inl ⟨_,_,by simp only [go_sem,az],hP,?_⟩;(try simp only [go_sem]);refine hK _ ?_;rw [X8];show dS _ _ _ _ _ _;refine aR tt_ok fun K hK=>?_;simp only [go_sem];refine hK _ ?_;rw [hw8];exact⟨d.params.length-(j+1),by omega,2,[false,true,false,true,true,true,true],by omega,by simp only [bg,aI,aV,aL,zB,gG],by simp only [bg,aI,aV,aL,zB,gG],j+1,rfl,yZ,by simp [rp,bg]⟩);have OQ:=gy yZ;(have Up:j=d.params.length:=by omega);subst Up;refine ak tt_ok fun K hK=>?_;simp only [ax,OQ,go_sem];refine hK _ ?_;refine aO rfl (dK ?_);(try rw [az]);show dS _ _ _ _ _ _;have V7:=lE (((S+aM (fun p=>p.bound.size) d.params:Nat):Int)+(d.type.size:Int)) (S+aM (fun p=>p.bound.size) d.params+d.type.size) (by omega) (by omega);have V8:=lE (((S+aM (fun p=>p.bound.size) d.params+d.type.size:Nat):Int)+(d.expr.size:Int)) (S+aM (fun p=>p.bound.size) d.params+d.type.size+d.expr.size) (by omega) (by omega);refine lz tt_ok cB [pN,pN,pR,pN,pN,pN,pR,pN,pN,pN] 0 kr fun K hK=>?_;simp only [go_sem,List.replicate];refine⟨_,_,by simp only [V7,go_sem,az],.inl (hT),?_⟩;(try simp only [V7,go_sem,List.replicate]);refine⟨_,_,by simp only [V8,go_sem,az],.inl (hE),?_⟩;(try simp only [V8,go_sem,List.replicate]);refine hK _ ?_;show dS _ _ _ _ _ _;refine ak tt_ok fun K hK=>?_;simp only [d0,go_sem];refine hK _ ?_;refine aO rfl (bZ ?_);show dS _ _ _ _ _ _;refine aR tt_ok fun K hK=>?_;simp only [go_sem];refine hK _ ?_;rw [nr];(have oX:S+aM (fun p=>p.bound.size) d.params+d.type.size+d.expr.size=1+m.imports.length+aM Dc.size (m.decls.take (i+1)):=by omega);rw [oX];exact⟨m.decls.length-(i+1),by omega,1,[false,true,false,true,true],by omega,by simp only [bg,aI,aV,aL,zB,gG],by simp only [bg,aI,aV,aL,zB,gG],i+1,rfl,bQ,by simp [rp,bg]⟩);have d1:decide (d.kind=1)=false:=decide_eq_false h1;refine ak tt_ok fun K hK=>?_;simp only [d1,go_sem];refine hK _ ?_;refine aO rfl (bZ ?_);show dS _ _ _ _ _ _;by_cases h0:d.kind=0;(·have d0:decide (d.kind=0)=true:=decide_eq_true h0;refine ak tt_ok fun K hK=>?_;simp only [d0,go_sem];refine hK _ ?_;refine aO rfl ?_;have V7:=lE ((S:Int)+(d.type.size:Int)) (S+d.type.size) (by omega) (by omega);refine ak tt_ok fun K hK=>?_;simp only [go_sem];refine .inl ⟨_,_,by simp only [V7,go_sem,az],hT,?_⟩;(try simp only [V7,go_sem]);refine hK _ ?_;cases mf:d.clear with|true =>(have hdz:d.size=1+d.params.length+d.type.size:=by unfold Dc.size;rw [if_pos h0,if_pos mf,jW]);rw [mf] at hC;refine ak tt_ok fun K hK=>?_;simp only [go_sem];refine .inl ⟨_,_,by simp only [go_sem,az],hC,?_⟩;(try simp only [go_sem]);refine hK _ ?_;refine aO rfl (bZ ?_);show dS _ _ _ _ _ _;refine aR tt_ok fun K hK=>?_;simp only [go_sem];refine hK _ ?_;rw [nr];(have oX:S+d.type.size=1+m.imports.length+aM Dc.size (m.decls.take (i+1)):=by omega);rw [oX];exact⟨m.decls.length-(i+1),by omega,1,[false,true,false,true,true],by omega,by simp only [bg,aI,aV,aL,zB,gG],by simp only [bg,aI,aV,aL,zB,gG],i+1,rfl,bQ,by simp [rp,bg]⟩|false =>(have hdz:d.size=1+d.params.length+(d.type.size+(d.lower.size+d.upper.size)):=by unfold Dc.size;rw [if_pos h0,if_neg (by rw [mf];simp)]);rw [mf] at hC;refine ak tt_ok fun K hK=>?_;simp only [go_sem];refine .inl ⟨_,_,by simp only [go_sem,az],hC,?_⟩;(try simp only [go_sem]);refine hK _ ?_;refine aO rfl ?_;show dS _ _ _ _ _ _;have V8:=lE (((S+d.type.size:Nat):Int)+(d.lower.size:Int)) (S+d.type.size+d.lower.size) (by omega) (by omega);have X8:=lE (((S+d.type.size+d.lower.size:Nat):Int)+(d.upper.size:Int)) (S+d.type.size+d.lower.size+d.upper.size) (by omega) (by omega);refine lz tt_ok cB [pN,pN,pR,pN,pN,pN,pR,pN,pN,pN] 0 kr fun K hK=>?_;simp only [go_sem,List.replicate];refine⟨_,_,by simp only [V8,go_sem,az],.inl (hL),?_⟩;(try simp only [V8,go_sem,List.replicate]);refine⟨_,_,by simp only [X8,go_sem,az],.inl (hU),?_⟩;(try simp only [X8,go_sem,List.replicate]);refine hK _ ?_;show dS _ _ _ _ _ _;refine aR tt_ok fun K hK=>?_;simp only [go_sem];refine hK _ ?_;rw [nr];(have oX:S+d.type.size+d.lower.size+d.upper.size=1+m.imports.length+aM Dc.size (m.decls.take (i+1)):=by omega);rw [oX];exact⟨m.decls.length-(i+1),by omega,1,[false,true,false,true,true],by omega,by simp only [bg,aI,aV,aL,zB,gG],by simp only [bg,aI,aV,aL,zB,gG],i+1,rfl,bQ,by simp [rp,bg]⟩);have d0:decide (d.kind=0)=false:=decide_eq_false h0;(have hdz:d.size=1+d.params.length:=by unfold Dc.size;rw [if_neg h0,if_neg h1];rfl);refine ak tt_ok fun K hK=>?_;simp only [d0,go_sem];refine hK _ ?_;refine aO rfl (bZ ?_);show dS _ _ _ _ _ _;refine aR tt_ok fun K hK=>?_;simp only [go_sem];refine hK _ ?_;rw [nr];(have oX:S=1+m.imports.length+aM Dc.size (m.decls.take (i+1)):=by omega);rw [oX];exact⟨m.decls.length-(i+1),by omega,1,[false,true,false,true,true],by omega,by simp only [bg,aI,aV,aL,zB,gG],by simp only [bg,aI,aV,aL,zB,gG],i+1,rfl,bQ,by simp [rp,bg]⟩
 have hd:=gy bQ;refine ak tt_ok fun K hK=>?_;simp only [ax,hd,go_sem];refine hK _ ?_;refine aO rfl (dK ?_);have kz:i=m.decls.length:=by omega
 subst kz;show dS _ _ _ _ _ _;refine ak tt_ok fun K hK=>?_;simp only [go_sem];refine hK _ ?_;refine bE ⟨.inl rfl,?_⟩;try rw [az]
 rfl
end
theorem J3 {s:ByteArray} (h:rf s=true) (hs:ek s=false):s.size≤32:=by
 simp only [rf,dN] at h;rcases h with (h|h)|h
 ·have:=Bf h;omega
 ·exact kI h
 rw [hs] at h;cases h
structure kJ (x:Ex) (f:Fo):Prop where
 form:mQ x.kind=some f
 fits:qV x f.fl f.ty f.lb f.kd=true
 Ua:qC x f.fl=false
 own:er mI x.own=0
theorem tv {x:Ex} (h:wX x=0):∃ f,kJ x f:=by unfold wX at h;cases hf:mQ x.kind with|none=>rw [hf] at h;simp at h|some f =>rw [hf] at h;dsimp only at h;(split at h;· simp at h);(split at h;· simp at h);(split at h;· simp at h);(split at h;· rename_i h1;exact absurd h h1);(split at h;· simp at h);rename_i a b c d e;exact⟨f,hf,by simpa using a,by simpa using c,h⟩
theorem kJ.lb {x:Ex} {f:Fo} (h:kJ x f):∀ l∈x.labels,l.name.size≤32:=by intro l hl;have:=h.Ua;simp only [qC,ez,km] at this;have:=this.2 l hl;simp only [qW,dN,ej,not_or] at this;exact kI (by simpa using this.1)
theorem kJ.vr {x:Ex} {f:Fo} (h:kJ x f) (hv:iZ f.fl ⟨#[118]⟩=true):∀ l∈x.labels,l.var.size≤32:=by intro l hl;have:=h.Ua;simp only [qC,ez,km] at this;have:=this.2 l hl;simp only [qW,hv,a6,dN,ej,not_or] at this;exact kI (by simpa using this.2)
theorem kJ.nm {x:Ex} {f:Fo} (h:kJ x f) (hn:iZ f.fl ⟨#[110]⟩=true) (hk:x.kind≠16):x.name.size≤32:=by have:=h.Ua;simp only [qC,ez] at this;have:=this.1.1.2;simp only [m2,hn,hk,decide_false,a8,a6,qM] at this;exact kI this
theorem kJ.md {x:Ex} {f:Fo} (h:kJ x f) (hn:iZ f.fl ⟨#[109]⟩=true):rf x.mod=true:=by have:=h.Ua;simp only [qC,ez] at this;have:=this.1.1.1;simpa only [m1,hn,a6,qM] using this
theorem kJ.em {x:Ex} {f:Fo} (h:kJ x f) (hn:iZ f.fl ⟨#[109]⟩=false):x.mod.size=0:=by have:=h.fits;simp only [qV,aJ] at this;have:=this.1.1.1.1.1.1.1.1.1;simp only [q1,hn,a8,aU,asn] at this;exact Bf this
theorem kJ.tx {x:Ex} {f:Fo} (h:kJ x f) (hk:x.kind=15):x.text.size≤32:=by have:=h.Ua;simp only [qC,ez] at this;have:=this.1.2;simp only [m3,hk,decide_true,a6,qM] at this;exact kI this
theorem Se {s:ByteArray} (h:xy s≠0):s.size≤6:=by
 have:s∈wy∨s∈uP:=by unfold xy at h;by_cases h1:qy s wy=true;(·left;simpa [qy] using h1);rw [if_neg h1] at h;by_cases h2:qy s uP=true;(·right;simpa [qy] using h2);rw [if_neg h2] at h;exact absurd rfl h
 rcases this with h|h
 ·simp only [wy,b8,ef,or_false] at h;rcases h with h|h|h|h|h|h|h|h|h <;> subst h <;> decide
 simp only [uP,b8,ef,or_false] at h;rcases h with h|h <;> subst h <;> decide
theorem kJ.op {x:Ex} {f:Fo} (h:kJ x f) (hk:x.kind=16):x.name.size≤6:=by have:=h.fits;simp only [qV,aJ] at this;have:=this.1.1.1.1.2;simp only [q6,hk,decide_true,a6,ec,if_true,ej,decide_eq_false_iff_not] at this;exact Se this
def Ex.rh (x:Ex):Nat:=aM (fun u=>u.text.size) x.nodes
theorem Cv {α β:Type} (g:β→Nat) (f:α→List β) (l:List α):aM g (l.flatMap f)=aM (fun a=>aM g (f a)) l:=by induction l with|nil=>rfl|cons a r ih=>simp only [ab,eW,aM,ih]
theorem Ex.EW (x:Ex):x.rh=x.text.size+aM Ex.rh x.kids:=by unfold Ex.rh;rw [Ex.dU,aM,Cv]
theorem J4 (s:ByteArray):(LI s).length≤2+4*s.size:=by
 have:∀ l:List UInt8,(l.flatMap yS).length≤4*l.length:=by intro l;induction l with|nil=>simp|cons c r ih =>(have:(yS c).length≤4:=by unfold yS;(repeat' split) <;> simp);simp only [ab,ae,af];omega
 have:=this (bt s);rw [dH] at this;simp only [LI,ae,af,ai];omega
theorem yB (a b:Int) (s:List UInt8):(sG a b s).length≤s.length+2:=by
 unfold sG;split;·omega
 simp only [ae,af,ai];omega
abbrev N4 (P:List (List UInt8)):Nat:=aM List.length P
theorem HL (P:List (List UInt8)):(P[0]?.getD []).length+(P[1]?.getD []).length+(P[2]?.getD []).length≤N4 P:=by match P with|[]=>simp|[a]=>simp [N4,aM]|[a,b]=>simp [N4,aM]|a :: b :: c :: r=>simp [N4,aM] <;> omega
theorem head_tail (P:List (List UInt8)):(P[0]?.getD []).length+aM (fun p=>p.length+71) P.tail≤aM (fun p=>p.length+71) P:=by cases P with|nil=>simp [aM]|cons a r=>simp [aM] <;> omega
theorem uW (l:List (List UInt8)):(jn [44,32] l).length≤aM (fun x=>x.length+2) l:=xz [44,32] l
theorem Sf {α:Type} (f:α→List UInt8→List UInt8) (c:Nat) (ls:List α) (P:List (List UInt8)) (h:∀ l∈ls,∀ p,(f l p).length≤p.length+c):(jn [44,32] (List.zipWith f ls P)).length≤aM (fun p=>p.length+(c+2)) P:=by
 refine fU (uW _) ?_;have:∀ (ls:List α) (P:List (List UInt8)),(∀ l∈ls,∀ p,(f l p).length≤p.length+c)→aM (fun x=>x.length+2) (List.zipWith f ls P)≤aM (fun p=>p.length+(c+2)) P:=by intro ls;induction ls with|nil=>intro P _;simp [aM]|cons l r ih =>intro P h;cases P with|nil=>simp [aM]|cons p q =>have h1:=ih q fun a ha=>h a (by simp [ha]);have h2:=h l (by simp) p;simp only [auU,aM];omega
 exact this ls P h
theorem Sg {c:Nat} (hc:c≤71) (P:List (List UInt8)):aM (fun p=>p.length+c) P≤aM (fun p=>p.length+71) P:=ja fun _ _=>by omega
theorem LY:∀ (ls:List Lb) (P:List (List UInt8)),(∀ l∈ls,l.name.size≤32) →
  aM (fun x=>x.length+2) (Fp ls P)+(P[(ls.filter Lb.opt).length]?.getD []).length≤aM (fun l=>l.ty.pr.length+40) ls+aM (fun p=>p.length+71) P
 | [],P,_=>by
  have:=HL P
  have h2:N4 P≤aM (fun p=>p.length+71) P:=ja fun _ _=>by omega
  simp only [Fp,aM,List.filter_nil,ai];omega
 | l :: r,P,h=>by
  have hn:=h l (by simp)
  have hr:∀ a∈r,a.name.size≤32:=fun a ha=>h a (by simp [ha])
  unfold Fp
  cases ho:l.opt with
  | false =>
   have:=LY r P hr
   rw [if_neg (by simp),List.filter_cons_of_neg (by simp [ho])]
   simp only [aM,ae,dH,af,ai];omega
  | true =>
   rw [if_pos rfl,List.filter_cons_of_pos ho]
   cases P with
   | nil =>
    have:=LY r [] hr
    simp only [List.tail_nil,List.headD_nil,aM,ae,dH,af,ai,List.getElem?_nil,at0] at this ⊢;omega
   | cons p q =>
    have:=LY r q hr
    simp only [qL,cg,aM,ae,dH,af,ai,cO] at this ⊢;omega
theorem agm (ts:List Ty):(kB ts).length≤aM (fun u=>u.pr.length+40) ts:=by cases ts with|nil=>simp [kB]|cons a r=>simp only [kB,aM];omega
theorem jd {p:Prop} [Decidable p] {a b:List UInt8} {n:Nat} (h1:p→a.length+71≤n) (h2:¬ p→b.length+71≤n):(if p then a else b).length+71≤n:=by
 by_cases h:p;·rw [if_pos h];exact h1 h
 rw [if_neg h];exact h2 h
theorem Ex.tl:∀ (N:Nat) (x:Ex),x.size≤N→(∀ u∈x.nodes,wX u=0 ∧ -9223372036854775808≤u.num∧u.num≤9223372036854775807∧ek u.mod=false) →
  x.pr.length+71≤158*x.size+4*x.rh:=by intro N;induction N with|zero=>intro x h;have:=x.size_pos;omega|succ N ih =>intro x hN hn;have hs:=x.size_eq;have hl:=x.EW;rw [Ex.dU] at hn;obtain⟨h0,qb,tR,uZ⟩:=hn x (by simp);obtain⟨f,ok⟩:=tv h0;(have hk:aM (fun p=>p.length+71) (x.kids.map Ex.pr)≤158*aM Ex.size x.kids+4*aM Ex.rh x.kids:=by rw [← pQ,← pQ,js];(have:∀ l:List Ex,(∀ k∈l,k.pr.length+71≤158*k.size+4*k.rh)→aM (fun k=>k.pr.length+71) l≤aM (fun k=>158*k.size) l+aM (fun k=>4*k.rh) l:=by intro l;induction l with|nil=>simp [aM]|cons a r Q8 =>intro h;have h1:=h a (by simp);have h2:=Q8 fun b hb=>h b (by simp [hb]);simp only [aM];omega);refine this x.kids fun k hkm=>?_;obtain⟨i,hi⟩:=bB.1 hkm;have:=bU Ex.size hi;exact ih k (by omega) (fun v hv=>hn v (bj _ (e9.2 ⟨k,hkm,hv⟩))));(have ho:aM (fun t=>t.pr.length+40) x.own≤144*aM Ty.size x.own:=by rw [← pQ];refine ja fun t ht=>?_;have h1:=(kS _ _).1 ok.own t ht;unfold mI at h1;(split at h1;· simp at h1);exact Ty.tl _ t (ay _) ((kS _ _).1 h1));(have Cw:aM (fun t=>t.pr.length+40) x.types+(if x.kind=8 then aM (fun l=>l.ty.pr.length+40) x.labels else 0)=aM (fun t=>t.pr.length+40) x.own:=by unfold Ex.own;rw [eW];split;(·rw [js]);rfl);have h3:=HL (x.kids.map Ex.pr);(have h4:N4 (x.kids.map Ex.pr)≤aM (fun p=>p.length+71) (x.kids.map Ex.pr):=ja fun _ _=>by omega);have h5:=head_tail (x.kids.map Ex.pr);have h6:=agm x.types;(have hz:(Cr [] x.types).length=(kB x.types).length+2:=by simp [Cr]);(have hd:∀ w,(Cr w x.types).length=w.length+(kB x.types).length+2:=fun w=>by simp [Cr];omega);have hp:=fun a=>yB a 8 ((x.kids.map Ex.pr)[0]?.getD []);have hf:=ok.form;rw [Ex.gV];generalize hP:x.kids.map Ex.pr=P at *;unfold Be;dsimp only;refine jd (fun h=>?_) (fun hn=>?_);(·have:=Lib.itoa_length_le x.num qb tR;omega);refine jd (fun h=>?_) (fun hn=>?_);(·have:=J4 x.text;omega);refine jd (fun h=>?_) (fun hn=>?_);(·(have:(if x.num=1 then ([116,114,117,101]:List UInt8) else [102,97,108,115,101]).length≤5:=by split <;> simp);omega);refine jd (fun h34=>?_) (fun hn=>?_);(·(have KQ:x.mod.size≤32∧x.name.size≤32:=by (rcases h34 with h|h);(·rw [h] at hf;cases hf;exact⟨by have:=ok.em kr;omega,ok.nm kr (by omega)⟩);rw [h] at hf;cases hf;exact⟨J3 (ok.md kr) uZ,ok.nm kr (by omega)⟩);have:=Bg (l:=x.types.map Ty.pr) KQ.1 KQ.2;rw [js] at this;(have h8:aM (fun u:Ty=>u.pr.length+2) x.types≤aM (fun u=>u.pr.length+40) x.types:=ja fun u _=>by omega);omega);have zK:=ok.lb;(have hgv:∀ Q:List (List UInt8),(VB x.labels Q).length≤aM (fun p=>p.length+71) Q:=fun Q=>by refine fU (Sf _ 34 x.labels Q fun l hl p=>?_) (Sg (by omega) Q);have:=zK l hl;simp only [ae,dH,af,ai];omega);refine jd (fun h=>?_) (fun hn=>?_);(·have:=hgv P;simp only [ae,af,ai];omega);refine jd (fun h=>?_) (fun hn=>?_);(·rw [h] at hf;cases hf;have vY:=ok.nm kr (by omega);have:=hp ((x.kids.map Ex.lvl)[0]?.getD 9);simp only [ae,dH,af,ai];omega);refine jd (fun h=>?_) (fun hn=>?_);(·rw [h] at hf;cases hf;have vY:=ok.nm kr (by omega);simp only [ae,dH,af,ai];omega);refine jd (fun h=>?_) (fun hn=>?_);(·rw [if_pos h] at Cw;have h1:=LY x.labels P zK;have h2:=uW (Fp x.labels P);simp only [ae,dH,af,ai];omega);refine jd (fun h=>?_) (fun hn=>?_);(·have:=hgv P.tail;have:=hp ((x.kids.map Ex.lvl)[0]?.getD 9);simp only [ae,dH,af,ai];omega);refine jd (fun h=>?_) (fun hn=>?_);(·rw [h] at hf;cases hf;have vY:=ok.nm kr (by omega);simp only [ae,dH,af,ai];omega);refine jd (fun h=>?_) (fun hn=>?_);(·simp only [ae,af,ai];omega);refine jd (fun h=>?_) (fun hn=>?_);(·simp only [ae,hd,af,ai];omega);refine jd (fun h=>?_) (fun hn=>?_);(·rw [h] at hf;cases hf;have FK:=ok.vr kr;(have:(Rp x.labels P.tail).length≤aM (fun p=>p.length+71) P.tail:=by refine fU (Sf _ 69 x.labels P.tail fun l hl p=>?_) (Sg (by omega) _);have:=zK l hl;have:=FK l hl;simp only [ae,dH,af,ai];omega);simp only [ae,hd,af,ai];omega);refine jd (fun h=>?_) (fun hn=>?_);(·have h1:=uW P;have h2:=Sg (c:=2) (by omega) P;(have:(if P=[] then ([]:List UInt8) else [32]++jn [44,32] P).length≤1+(jn [44,32] P).length:=by split;(·simp);simp only [ae,af,ai];omega);simp only [ae,af,ai];omega);refine jd (fun h=>?_) (fun hn=>?_);(·have htx:=ok.tx h;rw [h] at hf;cases hf;have vY:=ok.nm kr (by omega);simp only [ae,hd,dH,af,ai];omega);(have X4:x.kind=16:=by unfold mQ at hf;(repeat' split at hf);all_goals first|(simp at hf;done)|assumption|(exfalso;omega));have vY:=ok.op X4;have ha:=fun (i:Nat) (a b:Int)=>yB a b (P[i]?.getD []);unfold XP;dsimp only;split;(·have:=ha 0 ((x.kids.map Ex.lvl)[0]?.getD 9) (rm x.name).2.1;simp only [ae,dH,af,ai];omega);have:=ha 0 ((x.kids.map Ex.lvl)[0]?.getD 9) (rm x.name).2.1;have:=ha 1 ((x.kids.map Ex.lvl)[1]?.getD 9) (rm x.name).2.2;simp only [ae,dH,af,ai];omega
section
attribute [local irreducible] runM fq oS cY kP vN C0
section
variable {α:Type} [DecidableEq α] (lt:α→α→Bool) (f:Ty→List α)
end
end
section
attribute [local irreducible] runM fq oS cY kP vN C0
end
section
def LgX (x:Ex):Prop:=Cn 24 [br x] (num x.rh)
theorem agp {x:Ex} (h:LgX x):Cn 24 [.agg [num x.kind,str x.mod,str x.name,str x.text,num x.num,.slice (x.types.map bk),.slice (x.labels.map cq),.slice (x.kids.map br)]] (num x.rh):=by unfold LgX at h;simp only [bn,aP,aQ,bK] at h;exact h
theorem HM {α:Type} (g:α→Nat) {l:List α} {i:Nat} {x:α} (h:l[i]?=some x):aM g (l.take (i+1))=aM g (l.take i)+g x:=by rw [bH,h,auM,eW];rfl
theorem yC {α:Type} (g:α→Nat) (l:List α) (i:Nat):aM g (l.take i)≤aM g l:=by
 have e:aM g l=aM g (l.take i++l.drop i):=by rw [nB]
 rw [e,eW];omega
def Si (m:Md):Nat:=aM (fun d=>d.note.size+d.expr.rh) m.decls
noncomputable def J5 (t:Ty) (e:Ex) (m:Md):Bool:=decide ((t.size:Int)≤300)&&decide ((e.size:Int)≤300)&&decide ((m.size:Int)≤300)&&decide ((e.rh:Int)≤4000)&&decide ((Si m:Int)≤4000)
section
attribute [local go_sem] ax
theorem N5 (x:Ex) (zf:x.kids.length≤1048576) (hb:x.rh≤1048576) (hX:∀ k∈x.kids,LgX k):Cn 24 [br x] (num x.rh):=by
 refine jq tt_ok [] 22 [.tmp 2] (fn:=Tryz.f24) Tryz.func24 rfl Tryz.call24 ⟨rfl,rfl,by simp⟩ fun K hK=>?_;have hle:=x.EW;have tH:aj.underlying 9=some .string:=Tryz.underlying9;have sl:∀ (a:ByteArray) (ty:TypeId),ko aj (Builtin.len_ #[9] ty) [.sc (.string a)]=some (num a.size):=fun a ty=>kD (P:=aj) (tt:=tt) (T:=9) a tH ty;simp only [bn,aP,aQ,bK];simp only [sl,go_sem];refine nM tt_ok [] (fun i:Nat=>[(3,num ((x.text.size+aM Ex.rh (x.kids.take i):Nat):Int)),(10,.slice (x.kids.map br)),(11,num x.kids.length),(12,num i)]) (fun i:Nat=>[]) (fun i=>x.kids.length-i) (fun i=>i≤x.kids.length) (0) 0 (eU (by omega) (by simp only [sl,xV,aM,jW,sl,dY,go_sem] <;> rfl)) (ck _) ?_;intro i hi;intro Z1 fh;simp only [sl,go_sem];refine cC (fun xE=>?_) (fun xE=>?_);·(have bQ:i<x.kids.length:=by simpa using xE);have hw:=bN i (by omega);obtain⟨k,B5⟩:∃ k,x.kids[i]?=some k:=⟨_,au bQ⟩;(have dO:(i:Int)<(x.kids.length:Int):=by omega);have uo:=HM Ex.rh B5;have uZ:=yC Ex.rh x.kids (i+1);(have yx:IntKind.i64.wrap (((x.text.size+aM Ex.rh (x.kids.take i):Nat):Int)+(k.rh:Int))=((x.text.size+(aM Ex.rh (x.kids.take i)+k.rh):Nat):Int):=by rw [IntWalk.i64_in _ (by omega)];omega);simp only [hw,yx,aq,B5,dO,bn,aP,aQ,bK,sl,go_sem];refine ep (agp (hX k (aE B5))) ?_;simp only [hw,yx,aq,B5,dO,bn,aP,aQ,bK,sl,go_sem];refine fh _ ⟨i+1,?_,?_,eU (by omega) (by simp only [hw,yx,uo,lT,go_sem])⟩;(·exact bQ);omega
 have jL:¬ i<x.kids.length:=by simpa using xE
 have kz:i=x.kids.length:=by omega
 rw [kz,az,← hle];simp only [sl,go_sem];exact hK _ rfl
end
theorem EX:∀ (N:Nat) (x:Ex),x.size≤N→x.size≤1048576→x.rh≤1048576→LgX x
 | 0,x,h,_,_=>absurd x.size_pos (by omega)
 | N+1,x,h,hs,hl=>by
  have h1:=x.jt
  have h2:=ct Ex.size Ex.size_pos x.kids
  have h3:=x.EW
  refine N5 x (by omega) hl fun k hk=>?_
  obtain⟨i,hi⟩:=bB.1 hk
  have:=bU Ex.size hi
  have:=bU Ex.rh hi
  exact EX N k (by omega) (by omega) (by omega)
section
attribute [local go_sem] ax
theorem Sj (m:Md) (CI:m.decls.length≤1048576) (hb:Si m≤1048576) (hs:∀ d∈m.decls,d.expr.size≤1048576∧d.expr.rh≤1048576):Cn 33 [sx m] (num (Si m)):=by
 refine jq tt_ok [] 24 [.tmp 2] (fn:=Tryz.f33) Tryz.func33 rfl Tryz.call33 ⟨rfl,rfl,by simp⟩ fun K hK=>?_;have tH:aj.underlying 9=some .string:=Tryz.underlying9;have sl:∀ (a:ByteArray) (ty:TypeId),ko aj (Builtin.len_ #[9] ty) [.sc (.string a)]=some (num a.size):=fun a ty=>kD (P:=aj) (tt:=tt) (T:=9) a tH ty;unfold Si at hb;simp only [sx];simp only [sl,go_sem];refine nM tt_ok [] (fun i:Nat=>[(3,num ((aM (fun d:Dc=>d.note.size+d.expr.rh) (m.decls.take i):Nat):Int)),(7,.slice (m.decls.map dh)),(8,num m.decls.length),(9,num i)]) (fun i:Nat=>[]) (fun i=>m.decls.length-i) (fun i=>i≤m.decls.length) (0) 0 (eU (by omega) (by simp only [sl,xV,aM,sl,dY,go_sem] <;> rfl)) (ck _) ?_;intro i hi;intro Z1 fh;simp only [sl,go_sem];refine cC (fun lG=>?_) (fun lG=>?_);·(have bQ:i<m.decls.length:=by simpa using lG);have hw:=bN i (by omega);obtain⟨d,B5⟩:∃ k,m.decls[i]?=some k:=⟨_,au bQ⟩;have hdm:=aE B5;(have dO:(i:Int)<(m.decls.length:Int):=by omega);have uo:=HM (fun d:Dc=>d.note.size+d.expr.rh) B5;have uZ:=yC (fun d:Dc=>d.note.size+d.expr.rh) m.decls (i+1);(have lQ:IntKind.i64.wrap ((d.note.size:Int)+(d.expr.rh:Int))=((d.note.size+d.expr.rh:Nat):Int):=by rw [IntWalk.i64_in _ (by omega)];omega);(have yx:IntKind.i64.wrap (((aM (fun d:Dc=>d.note.size+d.expr.rh) (m.decls.take i):Nat):Int)+((d.note.size+d.expr.rh:Nat):Int))=((aM (fun d:Dc=>d.note.size+d.expr.rh) (m.decls.take i)+(d.note.size+d.expr.rh):Nat):Int):=by rw [IntWalk.i64_in _ (by omega)];omega);simp only [hw,lQ,yx,aq,B5,dO,dh,aD,aP,aQ,bD,bK,aw,aC,sl,go_sem];refine ga tt_ok cB [pN,pN,pR,pN,pN,pR,pN,pN,pN,pN] 0 kr ?_;simp only [hw,lQ,yx,aq,B5,dO,dh,aD,aP,aQ,bD,bK,aw,aC,sl,go_sem];refine Jn (agp (EX _ d.expr (ay _) (hs d hdm).1 (hs d hdm).2)) ?_;simp only [hw,lQ,yx,aq,B5,dO,dh,aD,aP,aQ,bD,bK,aw,aC,sl,go_sem];refine fh _ ⟨i+1,?_,?_,eU (by omega) (by simp only [hw,yx,uo,go_sem])⟩;(·exact bQ);omega
 have jL:¬ i<m.decls.length:=by simpa using lG
 have kz:i=m.decls.length:=by omega
 rw [kz,az];simp only [sl,go_sem];exact hK _ rfl
end
theorem abD (t:Ty) (e:Ex) (m:Md) (ht:t.size≤1048576) (he:e.dd≤1048576) (hes:e.size≤1048576) (hel:e.rh≤1048576) (hm:m.dd≤1048576) (CI:m.decls.length≤1048576) (hb:Si m≤1048576) (hs:∀ d∈m.decls,d.expr.size≤1048576∧d.expr.rh≤1048576):Cn 10 [bk t,br e,sx m] (bl (J5 t e m)):=by
 refine jq tt_ok [] 30 [.tmp 6] (fn:=Tryz.f10) Tryz.func10 rfl Tryz.call10 ⟨rfl,rfl,by simp⟩ fun K hK=>?_;have h1:=pM _ t (ay _) ht;have h2:=Hm _ e (ay _) he;have h3:=N3 m hm;have h4:=EX _ e (ay _) hes hel;have h5:=Sj m CI hb hs;unfold LgX at h4;simp only [aT,aD,aQ,bD,bn,aP,aQ,bK,sx] at h1 h2 h3 h4 h5 ⊢;simp only [go_sem];refine ep ((⟨_,rfl,h1⟩:∃ r_,(fun w=>w=num t.size) r_∧_)) ?_;simp only [go_sem];refine cC (fun Bp=>?_) (fun Bp=>?_) <;> simp only [go_sem];·refine ep ((⟨_,rfl,h2⟩:∃ r_,(fun w=>w=num e.size) r_∧_)) ?_;simp only [go_sem];refine cC (fun R0=>?_) (fun R0=>?_) <;> simp only [go_sem];(·refine ep ((⟨_,rfl,h3⟩:∃ r_,(fun w=>w=num m.size) r_∧_)) ?_;simp only [go_sem];refine cC (fun Bq=>?_) (fun Bq=>?_) <;> simp only [go_sem];(·refine ep (h4) ?_;simp only [go_sem];refine cC (fun abE=>?_) (fun abE=>?_) <;> simp only [go_sem];(·refine ep (h5) ?_;simp only [go_sem];exact hK _ (congrArg bl (by clear hK h1 h2 h3 h4 h5;unfold J5;simp_all <;> (intros;omega))));exact hK _ (congrArg bl (by clear hK h1 h2 h3 h4 h5;unfold J5;simp_all <;> (intros;omega))));exact hK _ (congrArg bl (by clear hK h1 h2 h3 h4 h5;unfold J5;simp_all <;> (intros;omega))));exact hK _ (congrArg bl (by clear hK h1 h2 h3 h4 h5;unfold J5;simp_all <;> (intros;omega)))
 exact hK _ (congrArg bl (by clear hK h1 h2 h3 h4 h5;unfold J5;simp_all <;> (intros;omega)))
end
theorem amp {t:Ty} (h:WT t) {v:Nat} {O:List UInt8} (hO:O.length+t.pr.length≤34359738368):∃ r m,WG (.dR []) 129 O t.pr [] r m∧bo aj 38 [.ptr 0 0,.agg [num t.kind,str t.mod,str t.name,.slice (t.args.map bk),.slice (t.bA.map dj)]] (bM 129 v O []) r m:=Hv h hO []
theorem amq {x:Ex} (h:WX x) {v:Nat} {O:List UInt8} (hO:O.length+x.pr.length≤34359738368):∃ r m,WG (.dR []) 129 O x.pr [] r m∧bo aj 45 [.ptr 0 0,.agg [num x.kind,str x.mod,str x.name,str x.text,num x.num,.slice (x.types.map bk),.slice (x.labels.map cq),.slice (x.kids.map br)]] (bM 129 v O []) r m:=wex h hO []
theorem abF (t:Ty) (h:WT t) (v:Nat) (O:List UInt8) (hO:O.length+t.pr.length≤34359738368):∃ r_ m_,(WR1 (.dR []) (.box [num t.kind,str t.mod,str t.name,.slice (t.args.map bk),.slice (t.bA.map dj)]) O t.pr) r_ m_∧bo aj 37 [.ptr 1 0,.ptr 0 0] (B7 (.box [num t.kind,str t.mod,str t.name,.slice (t.args.map bk),.slice (t.bA.map dj)]) v O) r_ m_:=by refine uJ tt_ok [] 6 [] (3) (ay _) (fn:=Tryz.f37) Tryz.func37 rfl Tryz.call37 ⟨rfl,rfl,by simp⟩ fun K hK=>?_;simp only [B7];simp only [B7,go_sem];refine cW (abB (amp h hO) rfl rfl (fun _=>rfl) (fun _=>rfl) _) ?_;rintro _ _ ⟨rfl,O1,v1,ke,rfl⟩;simp only [B7,go_sem];exact hK _ _ ⟨rfl,_,_,ke,rfl⟩
theorem abG (x:Ex) (h:WX x) (v:Nat) (O:List UInt8) (hO:O.length+x.pr.length≤34359738368):∃ r_ m_,(WR1 (.dR []) (.box [num x.kind,str x.mod,str x.name,str x.text,num x.num,.slice (x.types.map bk),.slice (x.labels.map cq),.slice (x.kids.map br)]) O x.pr) r_ m_∧bo aj 44 [.ptr 1 0,.ptr 0 0] (B7 (.box [num x.kind,str x.mod,str x.name,str x.text,num x.num,.slice (x.types.map bk),.slice (x.labels.map cq),.slice (x.kids.map br)]) v O) r_ m_:=by refine uJ tt_ok [] 6 [] (3) (ay _) (fn:=Tryz.f44) Tryz.func44 rfl Tryz.call44 ⟨rfl,rfl,by simp⟩ fun K hK=>?_;simp only [B7];simp only [B7,go_sem];refine cW (abB (amq h hO) rfl rfl (fun _=>rfl) (fun _=>rfl) _) ?_;rintro _ _ ⟨rfl,O1,v1,ke,rfl⟩;simp only [B7,go_sem];exact hK _ _ ⟨rfl,_,_,ke,rfl⟩
theorem wL (hG:ba.g=some 0) (t:Ty) (hw:t.wt≤1048576) (hT:mI t=0→lJ t=true→t.pr≠[]∧t.pr.length≤34359738368∧WT t):Cn 11 [bk t] (.dR [str (j8 (mI t) (lJ t) t.pr).1,num (j8 (mI t) (lJ t) t.pr).2]):=by refine jq tt_ok [] 12 [.tmp 2,.tmp 3] (fn:=Tryz.f11) Tryz.func11 rfl Tryz.call11 ⟨rfl,rfl,by simp⟩ fun K hK=>?_;have hC:=qE hG t (fU t.gA hw) (fun v hv=>by have h1:=Ty.sE hv;have h2:=v.jE;omega);have hPl:=wK (gX hG _ t (ay _) hw);simp only [aT,aD,aQ,bD] at hC ⊢;simp only [go_sem];refine ga tt_ok cB [pR,ql [0],pR,ql [0,1,2],pN,⟨.z,0,[],[0,1,2,3,4],[]⟩,ql [0,1,2,3,4,5],ql [0,1,2,3,4,5],ql [0,1,2,3,4,5,6,7],ql [0,1,2,3,4,5,6,7,8]] 0 kr ?_;simp only [go_sem];refine Jn ((⟨_,rfl,hC⟩:∃ r_,(fun w=>w=num (mI t)) r_∧_)) ?_;simp only [go_sem];refine Jn (hPl) ?_;simp only [go_sem];refine xq (xK 37 (mI t) (lJ t) t.pr [num t.kind,str t.mod,str t.name,.slice (t.args.map bk),.slice (t.bA.map dj)] rfl (fun h1 h2=>⟨(hT h1 h2).1,(hT h1 h2).2.1,fun v O hO=>abF t (hT h1 h2).2.2 v O hO⟩)) ?_;rintro _ _ ⟨rfl,rfl⟩;simp only [go_sem];exact hK _ rfl
theorem BA (hG:ba.g=some 0) (x:Ex) (hw:x.wt≤1048576) (hT:wz x=0→tr x=true→x.pr≠[]∧x.pr.length≤34359738368∧WX x):Cn 13 [br x] (.dR [str (j8 (wz x) (tr x) x.pr).1,num (j8 (wz x) (tr x) x.pr).2]):=by refine jq tt_ok [] 12 [.tmp 2,.tmp 3] (fn:=Tryz.f13) Tryz.func13 rfl Tryz.call13 ⟨rfl,rfl,by simp⟩ fun K hK=>?_;have hC:=wJ hG x hw;have hPl:=R7 (qF hG _ x (ay _) hw);simp only [bn,aP,aQ,bK] at hC ⊢;simp only [go_sem];refine ga tt_ok cB [pR,ql [0],pR,ql [0,1,2],pN,⟨.z,0,[],[0,1,2,3,4],[]⟩,ql [0,1,2,3,4,5],ql [0,1,2,3,4,5],ql [0,1,2,3,4,5,6,7],ql [0,1,2,3,4,5,6,7,8]] 0 kr ?_;simp only [go_sem];refine Jn ((⟨_,rfl,hC⟩:∃ r_,(fun w=>w=num (wz x)) r_∧_)) ?_;simp only [go_sem];refine Jn (hPl) ?_;simp only [go_sem];refine xq (xK 44 (wz x) (tr x) x.pr [num x.kind,str x.mod,str x.name,str x.text,num x.num,.slice (x.types.map bk),.slice (x.labels.map cq),.slice (x.kids.map br)] rfl (fun h1 h2=>⟨(hT h1 h2).1,(hT h1 h2).2.1,fun v O hO=>abG x (hT h1 h2).2.2 v O hO⟩)) ?_;rintro _ _ ⟨rfl,rfl⟩;simp only [go_sem];exact hK _ rfl
theorem Sk {t:Ty} (h:mI t=0):t.size≤4096∧∀ u∈t.nodes,tj u=0:=by
 unfold mI at h;split at h;·simp at h
 exact⟨by omega,(kS tj t.nodes).1 h⟩
theorem N6 {x:Ex} (h:wz x=0):x.size≤4096∧∀ u∈x.nodes,wX u=0:=by
 unfold wz at h;split at h;·simp at h
 exact⟨by omega,(kS wX x.nodes).1 h⟩
theorem pT {s:ByteArray} (h:dz s=true):0<s.size:=by simp only [dz,aJ,decide_eq_true_eq] at h;omega
theorem Sl {s:ByteArray} (h:jx s=true):0<s.size:=by simp only [jx,aJ,decide_eq_true_eq] at h;omega
theorem fp {α:Type} {l:List α} (h:l.length=1):∃ a r,l=a :: r:=by cases l with|nil=>simp at h|cons a r=>exact⟨a,r,rfl⟩
theorem Sm {t:Ty} (h:tj t=0) (h9:¬ t.kind=9):TyK t:=by
 unfold tj at h;split at h;· simp at h
 rename_i hs;have hs:Vt t=true:=by simpa using hs
 split at h;· simp at h
 rename_i hl;split at h;· simp at h
 rename_i hk;split at h;· simp at h
 rename_i hf;unfold Vt at hs;rw [aJ] at hs;have hs:=hs.2;have hr:(0≤t.kind∧t.kind≤8)∨t.kind=10:=by (repeat' split at hs);all_goals first|omega|(cases hs;done)
 refine⟨by omega,by omega,fun h58=>?_,fun f hfm=>?_,fun xe=>?_,by omega,by omega⟩;·refine fp ?_;(rcases h58 with h5|h8);(·rw [if_neg (by omega),if_pos h5] at hs;simp only [aJ,decide_eq_true_eq] at hs;omega);rw [if_neg (by omega),if_neg (by omega),if_neg (by omega),if_pos h8] at hs;simp only [aJ,decide_eq_true_eq] at hs;omega
 ·cases h5:dz f.name with|true=>exact pT h5|false=>exact absurd (tP.2 ⟨f,hfm,by simp [h5]⟩) hf
 cases h7:jx t.name with|true=>exact Sl h7|false=>exact absurd (.inr ⟨xe,.inr h7⟩) hk
theorem EY {t:Ty} (h:lJ t=true):∀ u∈t.nodes,¬ u.kind=9∧ek u.mod=false:=by intro u hu;have:=aN.1 h u hu;simpa using this
theorem Ty.l9 (t:Ty):t∈t.nodes:=by rw [t.dU];exact cV ..
theorem Ex.l9 (x:Ex):x∈x.nodes:=by rw [x.dU];exact cV ..
theorem BB {t:Ty} (hc:mI t=0) (hs:lJ t=true):WT t:=by refine LL (fun t=>∀ u∈t.nodes,tj u=0∧¬ u.kind=9) (fun t ht=>⟨Sm (ht t t.l9).1 (ht t t.l9).2,fun p hp u hu=>ht u ?_⟩) _ t (ay _) fun u hu=>⟨(Sk hc).2 u hu,(EY hs u hu).1⟩;rw [t.dU];exact bj _ (e9.2 ⟨p,hp,hu⟩)
theorem Ty.Sn {t:Ty} (h:TyK t):t.pr≠[]:=by
 rw [t.gV];split;· simp
 split;· simp
 split;· simp
 split;· simp
 split;·rename_i xe;have hn:=h.nm xe;intro e;have e2:=congrArg List.length e;unfold Ik at e2;simp only [ae,dH,ai] at e2;omega
 unfold LG;(repeat' split) <;> simp
theorem xL {k:Int} {f:Fo} (h:mQ k=some f):0≤k∧k≤16:=by
 by_cases hr:0≤k∧k≤16;·exact hr
 exfalso;unfold mQ at h;rw [if_neg (by omega:¬ k=0),if_neg (by omega:¬ k=1),if_neg (by omega:¬ k=2),if_neg (by omega:¬ k=3),if_neg (by omega:¬ k=4),if_neg (by omega:¬ k=5),if_neg (by omega:¬ k=6),if_neg (by omega:¬ k=7),if_neg (by omega:¬ k=8),if_neg (by omega:¬ k=9),if_neg (by omega:¬ k=10),if_neg (by omega:¬ k=11),if_neg (by omega:¬ k=12),if_neg (by omega:¬ k=13),if_neg (by omega:¬ k=14),if_neg (by omega:¬ k=15),if_neg (by omega:¬ k=16)] at h;cases h
theorem Sp (s:ByteArray):xy s=0∨xy s=1∨xy s=2:=by unfold xy;(repeat' split) <;> simp
theorem V9 {s:ByteArray} (h:xy s≠0):0<s.size:=by
 rcases atC s.size with h0|h0
 ·exfalso;obtain⟨⟨l⟩⟩:=s;simp [ByteArray.size] at h0;subst h0;exact h kr
 exact h0
structure ExF (x:Ex) (f:Fo):Prop where
 h5:x.kind=2→x.num=0∨x.num=1
 h6:x.kind=16→ec x f.kd≠0
 h7:0≤f.ty→(x.types.length:Int)=f.ty
 h8:f.lb=false→x.labels.length=0
 h9:0≤ec x f.kd→(x.kids.length:Int)=ec x f.kd
 xe:∀ l∈x.labels,iZ f.fl ⟨#[116]⟩=false→jD l.ty=true
theorem J6 {x:Ex} {f:Fo} (ok:kJ x f):ExF x f:=by
 have h:=ok.fits;simp only [qV,aJ,ej] at h;obtain⟨⟨⟨⟨⟨⟨⟨⟨⟨-,-⟩,-⟩,-⟩,h5⟩,h6⟩,h7⟩,h8⟩,h9⟩,xe⟩:=h;refine⟨fun h=>?_,fun h=>?_,fun h=>?_,fun h=>?_,fun h=>?_,fun l hl h=>?_⟩;·by_cases a:x.num=0;(·exact .inl a);by_cases b:x.num=1;(·exact .inr b);simp [q5,h,a,b] at h5
 ·intro e;simp [q6,h,e] at h6
 ·simpa [q7,h] using h7
 ·simp [q8,h] at h8;rw [h8];rfl
 ·simpa [q9,h] using h9
 have h2:=km.1 xe l hl;simp only [lH,h,a8,aU,dN,not_or] at h2;simpa using h2.1.2
theorem abH {x:Ex} {f:Fo} (ok:kJ x f):ed x≤x.kids.length:=by
 have F:=J6 ok;have hf:=ok.form;by_cases k5:x.kind=5;·rw [k5] at hf;cases hf;have h:=F.h9 (by simp only [ec,k5];simp <;> omega);simp [ec,k5] at h;(have e:ed x=x.labels.length:=by simp [ed,k5]);omega
 by_cases k6:x.kind=6;·rw [k6] at hf;cases hf;have h:=F.h9 (by simp only [ec,k6];simp <;> omega);simp [ec,k6] at h;(have e:ed x=1:=by simp [ed,k6]);omega
 by_cases k7:x.kind=7;·rw [k7] at hf;cases hf;have h:=F.h9 (by simp only [ec,k7];simp <;> omega);simp [ec,k7] at h;(have e:ed x=1:=by simp [ed,k7]);omega
 by_cases k8:x.kind=8;·rw [k8] at hf;cases hf;have h:=F.h9 (by simp only [ec,k8];simp <;> omega);simp [ec,k8] at h;(have e:ed x=gF x.labels+1:=by simp [ed,k8]);omega
 by_cases k9:x.kind=9;·rw [k9] at hf;cases hf;have h:=F.h9 (by simp only [ec,k9];simp <;> omega);simp [ec,k9] at h;(have e:ed x=x.labels.length+1:=by simp [ed,k9]);omega
 by_cases k10:x.kind=10;·rw [k10] at hf;cases hf;have h:=F.h9 (by simp only [ec,k10];simp <;> omega);simp [ec,k10] at h;(have e:ed x=2:=by simp [ed,k10]);omega
 by_cases k11:x.kind=11;·rw [k11] at hf;cases hf;have h:=F.h9 (by simp only [ec,k11];simp <;> omega);simp [ec,k11] at h;(have e:ed x=1:=by simp [ed,k11]);omega
 by_cases k12:x.kind=12;·rw [k12] at hf;cases hf;have h:=F.h9 (by simp only [ec,k12];simp <;> omega);simp [ec,k12] at h;(have e:ed x=3:=by simp [ed,k12]);omega
 by_cases k13:x.kind=13;·rw [k13] at hf;cases hf;have h:=F.h9 (by simp only [ec,k13];simp <;> omega);simp [ec,k13] at h;(have e:ed x=x.labels.length+1:=by simp [ed,k13]);omega
 by_cases k15:x.kind=15;·rw [k15] at hf;cases hf;have h:=F.h9 (by simp only [ec,k15];simp <;> omega);simp [ec,k15] at h;(have e:ed x=3:=by simp [ed,k15]);omega
 by_cases k16:x.kind=16;·rw [k16] at hf;cases hf;have h6:=F.h6 k16;have hr:=Sp x.name;(have e0:ec x (-1)=xy x.name:=by unfold ec;rw [if_pos k16]);have h:=F.h9 (by show 0≤ec x (-1);omega);(have h6:xy x.name≠0:=by rw [← e0];exact h6);(have h:(x.kids.length:Int)=xy x.name:=by rw [← e0];exact h);(have e:ed x=1:=by simp [ed,k16]);omega
 have e:ed x=0:=by simp [ed, *]
 omega
theorem abI {x:Ex} {f:Fo} (ok:kJ x f) (hw:x.wt≤1048576) (hn : -9223372036854775808≤x.num∧x.num≤9223372036854775807) (hT:∀ t∈x.own,WT t):OU x:=by
 have F:=J6 ok;have hwe:=x.jE;have hrg:=xL ok.form;have agq:=ok.Ua;simp only [qC,ez] at agq;obtain⟨⟨⟨-,Zd⟩,hm3⟩,hm4⟩:=agq;have vY:iZ f.fl ⟨#[110]⟩=true→¬ x.kind=16→0<x.name.size:=fun h1 h2=>by simp only [m2,h1,h2,decide_false,a8,a6,qM] at Zd;exact pT Zd
 have zK:=km.1 hm4;refine⟨hrg.1,hrg.2,?_,?_,?_,fun a ha=>?_,fun h13 a ha=>?_,fun hk=>?_,fun h15=>?_,by omega,F.h5,hn.1,hn.2,fun h1 h2=>?_,abH ok,fun t ht=>hT t (by unfold Ex.own;exact dD _ ht),fun h8 a ha=>hT _ (by unfold Ex.own;rw [if_pos h8];exact eP _ (aud ha))⟩;·have:=ct Ty.wt (fun a=>by have:=a.jE;omega) x.types;omega
 ·have:=ct Lb.wt (fun a=>by unfold Lb.wt;omega) x.labels;omega
 ·have:=ct Ex.wt (fun a=>by have:=a.jE;omega) x.kids;omega
 ·have:=zK a ha;simp only [qW,dN,ej,not_or] at this;exact pT (by simpa using this.1)
 ·have hf:=ok.form;rw [h13] at hf;cases hf;have:=zK a ha;have hv:iZ ⟨#[118]⟩ ⟨#[118]⟩=true:=kr;simp only [qW,hv,a6,dN,ej,not_or] at this;exact pT (by simpa using this.2)
 ·have hf:=ok.form;(rcases hk with h|h|h|h|h|h|h);(·rw [h] at hf;cases hf;exact vY kr (by omega));(·rw [h] at hf;cases hf;exact vY kr (by omega));(·rw [h] at hf;cases hf;exact vY kr (by omega));(·rw [h] at hf;cases hf;exact vY kr (by omega));(·rw [h] at hf;cases hf;exact vY kr (by omega));(·rw [h] at hf;cases hf;exact vY kr (by omega));have h6:=F.h6 h;unfold ec at h6;rw [if_pos h] at h6;exact V9 h6
 ·simp only [m3,h15,decide_true,a6,qM] at hm3;exact pT hm3
 have hf:=ok.form;have h7:=F.h7;have hc:x.kind=11∨x.kind=12∨x.kind=13∨x.kind=14∨x.kind=15:=by omega
 refine fp ?_;rcases hc with h|h|h|h|h
 ·rw [h] at hf;cases hf;have:=h7 (by decide);dsimp only at this;omega
 ·rw [h] at hf;cases hf;have:=h7 (by decide);dsimp only at this;omega
 ·rw [h] at hf;cases hf;have:=h7 (by decide);dsimp only at this;omega
 ·rw [h] at hf;cases hf;have:=h7 (by decide);dsimp only at this;omega
 rw [h] at hf;cases hf;have:=h7 (by decide);dsimp only at this;omega
def N7 (x:Ex):Prop:=∀ u∈x.nodes,-9223372036854775808≤u.num∧u.num≤9223372036854775807
theorem J7 {x:Ex} (h:tr x=true):∀ u∈x.nodes,plN u=false∧∀ t∈u.types++u.labels.map Lb.ty,lJ t=true:=by intro u hu;have:=aN.1 h u hu;rw [aJ,ej] at this;exact⟨this.1,aN.1 this.2⟩
theorem Wa {x:Ex} {t:Ty} (h:t∈x.own):t∈x.types++x.labels.map Lb.ty:=by
 unfold Ex.own at h;split at h;·exact h
 rw [ah] at h;exact dD _ h
theorem LZ {x:Ex} (hc:wz x=0) (hs:tr x=true) (hw:x.wt≤1048576) (hr:N7 x):∀ u∈x.nodes,OU u:=by intro u hu;obtain⟨f,ok⟩:=tv ((N6 hc).2 u hu);refine abI ok (fU (Ex.sE hu) hw) (hr u hu) fun t ht=>BB ((kS mI u.own).1 ok.own t ht) ((J7 hs u hu).2 t (Wa ht))
theorem abJ (hP:ba.u4 1=some jc) {x:Ex} (hc:wz x=0) (hs:tr x=true) (hw:x.wt≤1048576) (hr:N7 x):WX x:=by have hk:=LZ hc hs hw hr;refine HD hP (fun x=>∀ u∈x.nodes,OU u) (fun x hx=>⟨hx x x.l9,fun k hkm u hu=>hx u ?_⟩) _ x (ay _) hk;rw [x.dU];exact bj _ (e9.2 ⟨k,hkm,hu⟩)
theorem abK (m:ByteArray) {n:ByteArray} (h:0<n.size) (l:List (List UInt8)):Ik m n l≠[]:=by intro e;have e2:=congrArg List.length e;unfold Ik at e2;simp only [ae,dH,ai] at e2;omega
theorem mS {a b:List UInt8} (h:b≠[]):a++b≠[]:=fun e=>h (auV.1 e).2
theorem xM {a b:List UInt8} (h:a≠[]):a++b≠[]:=fun e=>h (auV.1 e).1
theorem jU {c:Prop} [Decidable c] {a b:List UInt8} (h1:c→a≠[]) (h2:¬ c→b≠[]):(if c then a else b)≠[]:=by
 by_cases h:c;·rw [if_pos h];exact h1 h
 rw [if_neg h];exact h2 h
theorem Ex.Sn {x:Ex} (h:OU x):x.pr≠[]:=by
 rw [x.gV];unfold Be;dsimp only;refine jU (fun hk=>?_) fun _=>?_;·intro e;have:=LS x.num;rw [EJ,e] at this;exact absurd this (by decide)
 refine jU (fun hk=>mS (ch _ _)) fun _=>?_;refine jU (fun hk=>jU (fun _=>ch _ _) fun _=>ch _ _) fun _=>?_;refine jU (fun hk=>abK _ (h.nm (by omega)) _) fun _=>?_;refine jU (fun hk=>by first|exact mS (ch _ _)|exact xM (mS (ch _ _))) fun _=>?_;refine jU (fun hk=>by first|exact mS (ch _ _)|exact xM (mS (ch _ _))) fun _=>?_;refine jU (fun hk=>by first|exact mS (ch _ _)|exact xM (mS (ch _ _))) fun _=>?_;refine jU (fun hk=>by first|exact mS (ch _ _)|exact xM (mS (ch _ _))) fun _=>?_;refine jU (fun hk=>by first|exact mS (ch _ _)|exact xM (mS (ch _ _))) fun _=>?_;refine jU (fun hk=>by first|exact mS (ch _ _)|exact xM (mS (ch _ _))) fun _=>?_;refine jU (fun hk=>by first|exact mS (ch _ _)|exact xM (mS (ch _ _))) fun _=>?_;refine jU (fun hk=>by first|exact mS (ch _ _)|exact xM (mS (ch _ _))) fun _=>?_;refine jU (fun hk=>by first|exact mS (ch _ _)|exact xM (mS (ch _ _))) fun _=>?_;refine jU (fun hk=>by first|exact mS (ch _ _)|exact xM (mS (ch _ _))) fun _=>?_;refine jU (fun hk=>by first|exact mS (ch _ _)|exact xM (mS (ch _ _))) fun _=>?_;unfold XP;dsimp only;exact jU (fun _=>xM (mS (ch _ _))) fun _=>xM (mS (ch _ _))
section
theorem c3:aj.cellsOf 3=1:=kr
theorem c4:aj.cellsOf 4=1:=kr
theorem c9:aj.cellsOf 9=1:=kr
section
variable {F:Addr→Option Value} {hg:Gl F} {H:Type} {enc:TypeId×Value→H} {w:World} {sp:Nat→Bool} {held:Bool} {f:Nat} {cs:List Value} {d:DataW H} {p:List MemPlace}
theorem L0 {a:List V} {cs:List Value} {off n:Nat} (h1:Rd F hg a ((cs.drop off).take n)) (h:cs.length=off+n):Rd F hg a (cs.drop off):=by rwa [dX (by simp;omega)] at h1
theorem J8 (h:DataW.trod enc aj w 0 sp held f 3 cs=some (d,p)):∃ n:Int,Rd F hg [num n] cs ∧ -9223372036854775808≤n∧n≤9223372036854775807:=by obtain⟨n,rfl,-,h⟩:=Go.DataW.trod_int Tryz.underlying3 h;refine⟨n,Jo rfl,?_⟩;simpa [Lit.wf,show IntKind.i64.min = -9223372036854775808 by decide,show IntKind.i64.max=9223372036854775807 by decide] using h
theorem sN (h:DataW.trod enc aj w 0 sp held f 9 cs=some (d,p)):∃ s:ByteArray,Rd F hg [str s] cs∧s.size+1≤Rows.uptoBulk d:=by cases f with|zero=>simp [DataW.trod] at h|succ f =>obtain⟨n,rfl,rfl⟩:=trod_string Tryz.underlying9 h;exact⟨n,Jo rfl,by simp only [Rows.uptoBulk,fA];exact ay _⟩
theorem X9 (h:DataW.trod enc aj w 0 sp held f 4 cs=some (d,p)):∃ b:Bool,Rd F hg [bl b] cs:=by cases f with|zero=>simp [DataW.trod] at h|succ f=>obtain⟨n,rfl,-⟩:=trod_bool Tryz.underlying4 h;exact⟨n,Jo rfl⟩
theorem HN {T T':TypeId} {α:Type} {row:α→V} {g:α→Nat} {n:Nat} (hF:F=w.cell?) (hT:aj.underlying T=some (.slice T')) (hn:aj.cellsOf T'=n)
  (hr:∀ f',f'<f→∀ {cs:List Value} {d:DataW H} {p:List MemPlace},DataW.trod enc aj w 0 sp held f' T' cs=some (d,p)→∃ a:α,Rd F hg (row a).cells cs∧g a≤Rows.uptoBulk d)
  (h:DataW.trod enc aj w 0 sp held f T cs=some (d,p)):∃ l:List α,Rd F hg [.slice (l.map row)] cs∧aM g l+1≤Rows.uptoBulk d:=by cases f with|zero=>simp [DataW.trod] at h|succ f=>exact QN hF hT hn (fun h=>hr f (nU f) h) h
end
theorem c22:aj.cellsOf 22=1:=kr
theorem c23:aj.cellsOf 23=1:=kr
theorem c25:aj.cellsOf 25=5:=kr
theorem c95:aj.cellsOf 95=7:=kr
theorem c26:aj.cellsOf 26=1:=kr
theorem c27:aj.cellsOf 27=1:=kr
theorem c29:aj.cellsOf 29=8:=kr
theorem agt:aj.cellsOf 100=8:=kr
section
variable [ba] {F:Addr→Option Value} {hg:Gl F} {H:Type} {enc:TypeId×Value→H} {w:World} {sp:Nat→Bool} {held:Bool} {f:Nat} {cs:List Value} {d:DataW H} {p:List MemPlace}
theorem L1 (hF:F=w.cell?):∀ (f:Nat) {cs:List Value} {d:DataW H} {p:List MemPlace},DataW.trod enc aj w 0 sp held f 25 cs=some (d,p)→∃ t:Ty,Rd F hg (bk t).cells cs∧t.wt≤Rows.uptoBulk d:=by intro f;induction f using Nat.strongRecOn with|ind f ih =>intro cs d p h;cases f with|zero=>simp [DataW.trod] at h|succ f =>obtain⟨hl,d0,p0,h0,d1,p1,h1,d2,p2,h2,d3,p3,h3,d4,p4,h4,rfl⟩:=qw Tryz.underlying25 h;simp only [c3,c9,c22,c23] at h0 h1 h2 h3 h4;rw [c25] at hl;obtain⟨k,hk,-⟩:=J8 (F:=F) (hg:=hg) h0;obtain⟨m,hm,s1⟩:=sN (F:=F) (hg:=hg) h1;obtain⟨n,hn,s2⟩:=sN (F:=F) (hg:=hg) h2;obtain⟨ts,BV,bts⟩:=HN (F:=F) (hg:=hg) hF Tryz.underlying22 c25 (fun f' hf' {cs d p} h=>ih f' (by omega) h) h3;obtain⟨fs,hfs,bfs⟩:=HN (F:=F) (hg:=hg) (α:=Fd) (row:=dj) (g:=Fd.wt) hF Tryz.underlying23 c95 (fun f' hf' {cs d p} h=>by cases f' with|zero=>simp [DataW.trod] at h|succ f' =>obtain⟨hl,d0,p0,h0,d1,p1,h1,d2,p2,h2,rfl⟩:=qw Tryz.underlying95 h;simp only [c4,c9,c25] at h0 h1 h2;rw [c95] at hl;obtain⟨n,hn,s0⟩:=sN (F:=F) (hg:=hg) h0;obtain⟨t,ht,bt⟩:=ih f' (by omega) h1;obtain⟨b,hb⟩:=X9 (F:=F) (hg:=hg) h2;rw [aT] at ht;refine⟨.mk n t b,?_,?_⟩;(·rw [cw];show Rd F hg ([str n]++aD t++[bl b]) (cs.drop 0);rw [al];exact gE hn (gE ht (L0 hb hl)));rw [Fd.jE];simp only [Rows.uptoBulk,Rows.uptoBulkAll,Fd.ty,Fd.name];omega) h4;refine⟨.mk k m n ts fs,?_,?_⟩;(·rw [aT];simp only [aD,Ty.kind,Ty.mod,Ty.name,Ty.args,Ty.bA,aQ,bD];exact gE (off:=0) hk (gE hm (gE hn (gE BV (gE hfs (QM hl))))));simp only [Rows.uptoBulk,Rows.uptoBulkAll,Ty.wt,C9,Da];omega
theorem agu (hF:F=w.cell?) (h:DataW.trod enc aj w 0 sp held f 100 cs=some (d,p)):∃ x:Lb,Rd F hg (cq x).cells cs∧x.wt≤Rows.uptoBulk d:=by cases f with|zero=>simp [DataW.trod] at h|succ f =>obtain⟨hl,d0,p0,h0,d1,p1,h1,d2,p2,h2,d3,p3,h3,rfl⟩:=qw Tryz.underlying100 h;simp only [c4,c9,c25] at h0 h1 h2 h3;rw [agt] at hl;obtain⟨n,hn,s0⟩:=sN (F:=F) (hg:=hg) h0;obtain⟨v,hv,s1⟩:=sN (F:=F) (hg:=hg) h1;obtain⟨t,ht,bt⟩:=L1 (hg:=hg) hF _ h2;obtain⟨b,hb⟩:=X9 (F:=F) (hg:=hg) h3;rw [aT] at ht;refine⟨⟨n,v,t,b⟩,?_,?_⟩;(·show Rd F hg ([str n,str v]++aD t++[bl b]) (cs.drop 0);rw [al];exact gE (a:=[str n]) hn (gE (a:=[str v]) hv (gE (b:=[bl b]) ht (L0 hb hl))));simp only [Rows.uptoBulk,Rows.uptoBulkAll,Lb.wt];omega
theorem Ya (hF:F=w.cell?):∀ (f:Nat) {cs:List Value} {d:DataW H} {p:List MemPlace},DataW.trod enc aj w 0 sp held f 29 cs=some (d,p)→∃ t:Ex,Rd F hg (br t).cells cs∧t.wt≤Rows.uptoBulk d∧N7 t:=by intro f;induction f using Nat.strongRecOn with|ind f ih =>intro cs d p h;cases f with|zero=>simp [DataW.trod] at h|succ f =>obtain⟨hl,d0,p0,h0,d1,p1,h1,d2,p2,h2,d3,p3,h3,d4,p4,h4,d5,p5,h5,d6,p6,h6,d7,p7,h7,rfl⟩:=qw Tryz.underlying29 h;simp only [c3,c9,c22,c26,c27] at h0 h1 h2 h3 h4 h5 h6 h7;rw [c29] at hl;obtain⟨k,hk,-⟩:=J8 (F:=F) (hg:=hg) h0;obtain⟨m,hm,s1⟩:=sN (F:=F) (hg:=hg) h1;obtain⟨n,hn,s2⟩:=sN (F:=F) (hg:=hg) h2;obtain⟨x,hx,s3⟩:=sN (F:=F) (hg:=hg) h3;obtain⟨i,hi,hir⟩:=J8 (F:=F) (hg:=hg) h4;obtain⟨ts,BV,bts⟩:=HN (F:=F) (hg:=hg) hF Tryz.underlying22 c25 (fun f' _ {cs d p} h=>L1 hF f' h) h5;obtain⟨ls,hls,bls⟩:=HN (F:=F) (hg:=hg) hF Tryz.underlying26 agt (fun f' _ {cs d p} h=>agu hF h) h6;obtain⟨ks,K9,bks⟩:=HN (F:=F) (hg:=hg) (α := {t:Ex // N7 t}) (row:=fun t=>br t.1) (g:=fun t=>t.1.wt) hF Tryz.underlying27 c29 (fun f' hf' {cs d p} h=>by obtain⟨t,h1,h2,h3⟩:=ih f' (by omega) h;exact⟨⟨t,h3⟩,h1,h2⟩) h7;(have eks:ks.map (fun t=>br t.1)=(ks.map Subtype.val).map br:=by rw [aso];rfl);rw [eks] at K9;(have ebk:aM (fun t : {t:Ex // N7 t}=>t.1.wt) ks=aM Ex.wt (ks.map Subtype.val):=by rw [js]);rw [ebk] at bks;refine⟨.mk k m n x i ts ls (ks.map Subtype.val),?_,?_,?_⟩;(·rw [bn];simp only [aP,Ex.kind,Ex.mod,Ex.name,Ex.text,Ex.num,Ex.types,Ex.labels,Ex.kids,aQ,bK];exact gE (off:=0) hk (gE hm (gE hn (gE hx (gE hi (gE BV (gE hls (gE K9 (QM hl)))))))));(·simp only [Rows.uptoBulk,Rows.uptoBulkAll,Ex.wt,Hi];omega);intro u hu;rw [Ex.dU] at hu;(rcases b8.1 hu with rfl|hu);(·exact hir);obtain⟨k,hk,hu⟩:=e9.1 hu;obtain⟨s,-,rfl⟩:=cQ.1 (show k∈ks.map Subtype.val from hk);exact s.2 u hu
end
end
end Go.Proofs.YtfbbfmcggbapoaaGreatDoor
end
section
namespace Go.Proofs.YtfbbfmcggbapoaaGreatDoor
open Go.Eng
set_option maxHeartbeats 4000000
set_option maxRecDepth 100000
section
open Go.ChangeShapes Go.WideShapes Go.ChangeAt Go.RowKit
@[reducible] def gOf (n:Int):ba := { n:=n,κ:=fun _=>none,ok:=fun j b hb=>(by cases hb),g:=some 0,u4:=fun i=>if i=1 then some jc else none }
theorem Sq {W:World} {v:Value} (jH:Cell.ok aj W .any 0 3 v):∃ n:Int,v = .int .i64 n:=by unfold Cell.ok at jH;rw [Tryz.underlying3] at jH;cases v with|int k n=>exact⟨n,by rw [show k = .i64 from jH.1]⟩|_=>exact jH.elim
theorem N8 {W:World} (hS:W.ShapedOpen aj):∃ n:Int,W.cell? ⟨0,0,none⟩=some (.int .i64 n):=by
 have h0:(((begin aj (fun _ _=>0) default).world.heap[0]?).bind Obj.row?)=some (#[.int .i64 0],3):=kr;obtain⟨cs,hc,hz,hr⟩:=hS.1 0 _ _ (of_decide_eq_true kr) h0;obtain⟨ts,h1,-,h3⟩:=hr kr;obtain rfl:[3]=ts:=gD ((show aj.cellTypes aj.depth 3=some [3] from kr).symm.trans h1);have hz':cs.size=1:=hz;obtain⟨v,hv⟩:∃ v,cs[0]?=some v:=⟨cs[0],bP (by omega)⟩;obtain⟨u,hu,jH⟩:=h3 0 v hv;obtain rfl:3=u:=by simpa using hu
 obtain⟨n,rfl⟩:=Sq jH;exact⟨n,by simp [World.cell?,hc,hv]⟩
theorem L2 {F:Addr→Option Value} [ba] {hg:Gl F} {cs:List V} {v:Value} (dy:cs.length≠1) (h:Rd F hg cs v.cells.toList):cT ⟨F,fun _ _=>none,hg⟩ (.agg cs) v:=by cases v with|agg xs=>exact .agg _ _ _ (by simpa [Value.cells] using h.1.1) fun i c x hc hx=>h.1.2 i c x hc (by simpa [Value.cells] using hx)|_=>exact absurd h.1.1 (by simpa [Value.cells] using dy)
theorem N9 {H:Type} {enc:TypeId×Value→H} {P:Program} {f:Func} {s:ChangeSpec} {apart fresh handsOn again:Bool} {W W':World} {args:Array Value} {v:Value} {ds gs:List (DataW H)} {before pa pv:List MemPlace}
  (hW:DataW.Whole enc P f.params.toList s.vars apart W args.toList ds gs before)
  (cX:∀ (b:Nat) (sp:Nat→Bool) (hd:Bool),DataW.TrodAll enc P W' b sp hd f.resultTypes.toList (v.resultList f.resultTypes.size) (s.fn H (ds++gs)).results [])
  (oq:∀ sp:Nat→Bool,(∀ p∈before,sp p.block=true)→DataW.TrodAll enc P W' 0 sp true f.params.toList args.toList (s.fn H (ds++gs)).args pa)
  (Yb:∀ sp:Nat→Bool,(∀ p∈before,sp p.block=true)→DataW.TrodVars enc P W' sp s.vars (s.fn H (ds++gs)).vars pv)
  (oW:before=pa++pv) (hb:Below W.heap.size W W')
  (jH:∀ (j:Nat) (t:TypeId) (r:Value),f.resultTypes[j]?=some t→(v.resultList f.resultTypes.size)[j]?=some r→Value.okWide P W' .any 0 t r) :
  s.post enc P f apart fresh handsOn again W args v W':=by
 have bQ:=hW.lt;refine⟨ds,gs,before,[],pa,pv,hW,cX _ _ _,oq _ (fun p hp=>by simpa using bQ p hp),Yb _ (fun p hp=>by simpa using bQ p hp),hb.frame _,fun _=>?_⟩;obtain⟨_,_,_,_,_,hz,hn⟩:=hW;refine⟨jH,_,_,([]++pa)++pv,⟨[]++pa,pv,trodAll_append (oq _ (fun _ _=>rfl)) (cX _ _ _),Yb _ (fun _ _=>rfl),rfl,fun b off hp=>?_,fun ha=>?_⟩,fun p hp _=>?_⟩;·(have WV:MemPlace.cell b off∈before:=by rw [oW];simpa using hp);rw [hb.frozen (show (⟨b,off,none⟩:Addr).block<W.heap.size from bQ _ WV)];exact hz b off WV
 ·have:=hn ha;rw [oW] at this;simpa using this
 rw [oW];simpa using hp
theorem ams {F:Addr→Option Value} [ba] {hg:Gl F} {rows:List V} {a:Option Addr} {l c:Nat} (h:Rd F hg [.slice rows] (Value.slice a l c).cells.toList):cT ⟨F,fun _ _=>none,hg⟩ (.slice rows) (.slice a l c):=h.1.2 0 _ _ rfl rfl
theorem adM {P:Program} {W:World} {base:Nat} {T:TypeId} {v:Value} (hT:P.underlying T=some (.int .u8)) (h:Value.okWide P W .any base T v):∃ c:Nat,c<256∧v = .int .u8 (c:Int):=by unfold Value.okWide at h;rw [hT] at h;unfold Cell.okWide at h;rw [hT] at h;cases v with|int k n =>simp only [Cell.ok,hT] at h;obtain⟨rfl,h1,h2⟩:=h;(have h3:(IntKind.u8).min=0:=by decide);(have h4:(IntKind.u8).max=255:=by decide);rw [h3] at h1;rw [h4] at h2;exact⟨n.toNat,by omega,by rw [auP h1]⟩|_=>simp [Cell.ok,hT] at h
theorem amt {P:Program} {l:List (String×DataW Unit)} {W:World} (e:(l.filter fun x=>x.2.handleName?.isSome)=[]) (h:laidMetH P l W):laidMet P l W:=by unfold laidMetH at h;rw [e] at h;exact h
def J9:List Int:=(List.range 20).map fun q=>((10 ^ q:Nat):Int)
theorem abL {W:World} (h:laidMetH aj Rows.printerRefusesUptoRow.laid W):∀ (j:Nat) (x:Value),jc[j]?=some x→W.cell? ⟨1,j,none⟩=some x:=by
 have h1:laidMet aj [("math/bits.deBruijn32tab", Rows.laid_math_bits_deBruijn32tab),("math/bits.deBruijn64tab", Rows.laid_math_bits_deBruijn64tab),("internal/strconv.uint64pow10", Lib.tabData .u64 J9),("unicode/utf8.acceptRanges", Rows.laid_unicode_utf8_acceptRanges),("unicode/utf8.first", Rows.laid_unicode_utf8_first)] W:=amt kr h;have h2:=Lib.tabIs_of_head (t:=267) (e:=257) (n:=20) (g:=1) kr kr kr kr kr kr (laidMet.tail (laidMet.tail h1));intro j x hx;have hj:j<20:=by have:=(aA.1 hx).1;simpa [jc] using this
 rw [h2.cell (g:=1) kr j (by simpa [J9] using hj)];simp only [jc,aq,auc hj,b9,aB] at hx;rw [← hx];simp [J9,List.getD,hj]
@[reducible] def agv {W:World} {n:Int} (hn:W.cell? ⟨0,0,none⟩=some (.int .i64 n)) (hp:∀ (j:Nat) (x:Value),jc[j]?=some x→W.cell? ⟨1,j,none⟩=some x):@Gl (gOf n) W.cell? :=
 @Gl.mk (gOf n) _ (fun g hg=>by cases hg;exact hn) (fun g cs j x h hj=>by
  have h':(if g=1 then some jc else none)=some cs:=h
  split at h'
  ·next e=>subst e;cases h';exact hp j x hj
  cases h')
theorem Sr {F:Addr→Option Value} [ba] {hg:Gl F} {t:Ty} {v:Value} (h:Rd F hg (bk t).cells v.cells.toList):cT ⟨F,fun _ _=>none,hg⟩ (bk t) v:=by rw [aT] at h ⊢;exact L2 (by simp [aD]) h
theorem Ss {F:Addr→Option Value} [ba] {hg:Gl F} {t:Ex} {v:Value} (h:Rd F hg (br t).cells v.cells.toList):cT ⟨F,fun _ _=>none,hg⟩ (br t) v:=by rw [bn] at h ⊢;exact L2 (by simp [aP]) h
end
end Go.Proofs.YtfbbfmcggbapoaaGreatDoor
end
section
namespace Go.Proofs.YtfbbfmcggbapoaaGreatDoor
open Go.Eng
variable [ba]
set_option maxHeartbeats 4000000
set_option maxRecDepth 100000
theorem agw:ek ⟨#[]⟩=false:=by cases h:ek ⟨#[]⟩ with|false=>rfl|true=>exact absurd kr (fun h2:ek ⟨#[]⟩=false=>by rw [h] at h2;cases h2)
theorem k17 {k:Int} (h:0≤k∧k≤16):k=0∨k=1∨k=2∨k=3∨k=4∨k=5∨k=6∨k=7∨k=8∨k=9∨k=10∨k=11∨k=12∨k=13∨k=14∨k=15∨k=16:=by omega
theorem amu {k:Int} {f:Fo} (h:mQ k=some f) (h4:k≠4):iZ f.fl ⟨#[109]⟩=false:=by rcases k17 (xL h) with rfl|rfl|rfl|rfl|rfl|rfl|rfl|rfl|rfl|rfl|rfl|rfl|rfl|rfl|rfl|rfl|rfl <;> first|(exact absurd rfl h4)|(cases h;kernel_rfl)
theorem agx {u:Ex} {f:Fo} (ok:kJ u f) (h4:u.kind≠4):u.mod=⟨#[]⟩:=aaO (ok.em (amu ok.form h4))
theorem Yc {x:Ex} (hc:wz x=0) (hs:tr x=true):∀ u∈x.nodes,ek u.mod=false:=by
 intro u hu;obtain⟨f,ok⟩:=tv ((N6 hc).2 u hu);by_cases h4:u.kind=4;·have:=(J7 hs u hu).1;simp only [plN,h4,decide_true,a6,ez] at this;exact this.1
 rw [agx ok h4];exact agw
theorem Su {x:Ex} (hc:wz x=0) (hs:tr x=true) (hr:N7 x):x.pr.length+71≤158*x.size+4*x.rh :=
 Ex.tl _ x (ay _) fun u hu=>⟨(N6 hc).2 u hu,(hr u hu).1,(hr u hu).2,Yc hc hs u hu⟩
theorem Sv {t:Ty} (hc:mI t=0):t.pr.length+40≤144*t.size:=Ty.tl _ t (ay _) (Sk hc).2
theorem Dp {α:Type} {g h:α→Nat}:∀ {l:List α},(∀ a∈l,g a≤h a)→aM g l≤aM h l
 | [],_=>ay _
 | a :: r,hle=>by
  have h1:=hle a (cV ..)
  have h2:=Dp (l:=r) fun b hb=>hle b (bj _ hb)
  simp only [aM];omega
theorem xN:∀ (N:Nat) (x:Ex),x.size≤N→x.rh≤x.wt
 | 0,x,h=>absurd x.size_pos (by omega)
 | N+1,x,h=>by
  have h1:=x.jt
  have h2:=x.EW
  have h3:=x.jE
  have h4:aM Ex.rh x.kids≤aM Ex.wt x.kids:=Dp fun k hk=>xN N k (by
   obtain⟨i,hi⟩:=bB.1 hk
   have:=bU Ex.size hi
   omega)
  omega
theorem EZ {t:Ty} (h1:mI t=0) (h2:lJ t=true):t.pr≠[]∧t.pr.length≤34359738368∧WT t:=by have:=Sv h1;have:=(Sk h1).1;exact⟨Ty.Sn (Sm ((Sk h1).2 t t.l9) (EY h2 t t.l9).1),by omega,BB h1 h2⟩
theorem Ka (hP:ba.u4 1=some jc) {x:Ex} (hw:x.wt≤1048576) (hr:N7 x) (h1:wz x=0) (h2:tr x=true):x.pr≠[]∧x.pr.length≤34359738368∧WX x:=by have:=Su h1 h2 hr;have:=(N6 h1).1;have:=xN _ x (ay _);exact⟨Ex.Sn (LZ h1 h2 hw hr x x.l9),by omega,abJ hP h1 h2 hw hr⟩
structure Sh where
 n:Bool
 x:Bool
 b:Bool
 m:Bool
 l:Bool
 v:Bool
 t:Bool
 k:Int
 o:Bool
structure arx (e:Ex) (fo:Fo) (s:Sh):Prop where
 m:iZ fo.fl ⟨#[109]⟩=s.m
 n:iZ fo.fl ⟨#[110]⟩=s.n
 x:iZ fo.fl ⟨#[120]⟩=s.x
 b:iZ fo.fl ⟨#[98]⟩=s.b
 v:iZ fo.fl ⟨#[118]⟩=s.v
 t:iZ fo.fl ⟨#[116]⟩=decide (e.kind=8)
 o:iZ fo.fl ⟨#[111]⟩=decide (e.kind=8)
 l:fo.lb=s.l
 ty:fo.ty=0∧s.t=false∧s.o=false∨fo.ty=1∧s.t=true∧s.o=true∨fo.ty = -1∧s.t=true∧s.o=false∧e.kind=4
 k:s.l=true∨e.labels.length=0→ec e fo.kd=s.k
def mdE:Md:=⟨⟨#[]⟩,[],[]⟩
theorem agy (x y:Operand) (a b:Bool):dE aj (s7 .eql 4 x y) (bl a) (bl b)=some (bl (a==b)):=by cases a <;> cases b <;> kernel_rfl
theorem abM {n:FuncId} (h:bJ aj n [] (bl true)):Cn n [] (bl true):=⟨_,rfl,h⟩
theorem Yd (t:Ty) (e:Ex) (ht:t.wt≤1048576) (he:e.wt≤1048576):Cn 10 [bk t,br e,.agg [str ⟨#[]⟩,.slice [],.slice []]] (bl (J5 t e mdE)):=by have hes:=e.hH;have h2:=e.j7 _ (ay _);have h3:=xN _ e (ay _);exact abD t e mdE (fU t.gA ht) (by omega) (by omega) (by omega) (by decide) (by decide) (by decide) (fun d hd=>by cases hd)
end Go.Proofs.YtfbbfmcggbapoaaGreatDoor
end
section
namespace Go.Proofs.YtfbbfmcggbapoaaGreatDoor
open Go.Eng
set_option maxHeartbeats 4000000
set_option maxRecDepth 100000
section
inductive Pc where
 | tk (k:Int) (s:List UInt8)
 | sp (c:UInt8)
def Pc.by:Pc→List UInt8
 | .tk k s=>if k=4 then [34]++s.flatMap yS++[34] else s
 | .sp c=>[c]
def flat (l:List Pc):List UInt8:=l.flatMap Pc.by
theorem a7 (a b:List Pc):flat (a++b)=flat a++flat b:=lN
theorem pU (a:Pc) (b:List Pc):flat (a :: b)=a.by++flat b:=ab
def jp (sep:List Pc):List (List Pc)→List Pc
 | []=>[]
 | x :: r=>x++r.flatMap fun y=>sep++y
theorem oE (sep:List Pc) (l:List (List Pc)):flat (jp sep l)=jn (flat sep) (l.map flat):=by cases l with|nil=>rfl|cons x r =>(have:flat (r.flatMap fun y=>sep++y)=(r.map flat).flatMap fun y=>flat sep++y:=by induction r with|nil=>rfl|cons y r ih=>simp only [ab,bm,a7,ih]);simp only [jp,jn,bm,a7,this]
abbrev B8 (s:ByteArray):Pc:=.tk 1 (bt s)
abbrev xO (s:List UInt8):Pc:=.tk 5 s
abbrev fX (s:List UInt8):Pc:=.tk 6 s
abbrev uX:List Pc:=[.tk 6 [44],.sp 32]
abbrev Ub:List Pc:=[.tk 6 [58],.sp 32]
def Sw (k:Int) (m n:ByteArray) (l:List (List Pc)):List Pc :=
 (if m=⟨#[]⟩ then [] else [B8 m,fX [58,58]])++[.tk k (bt n)]++(if l=[] then [] else [fX [91]]++jp uX l++[fX [93]])
theorem HO (k:Int) (hk:k≠4) (m n:ByteArray) (l:List (List Pc)):flat (Sw k m n l)=Ik m n (l.map flat):=by
 unfold Sw Ik;rw [a7,a7];have h1:flat (if m=⟨#[]⟩ then [] else [B8 m,fX [58,58]])=if m=⟨#[]⟩ then [] else bt m++[58,58]:=by split <;> simp [flat,Pc.by]
 have h2:flat [Pc.tk k (bt n)]=bt n:=by simp [flat,Pc.by,hk]
 have h3:flat (if l=[] then [] else [fX [91]]++jp uX l++[fX [93]])=if l.map flat=[] then [] else [91]++jn [44,32] (l.map flat)++[93]:=by by_cases hl:l=[];(·rw [if_pos hl,if_pos (by rw [hl];rfl)];rfl);rw [if_neg hl,if_neg (by simpa using hl),a7,a7,oE];rfl
 rw [h1,h2,h3]
mutual
def Ty.pc:Ty→List Pc
 | .mk k m n ar fs =>
  if k=5 then [xO [108,105,115,116],fX [91]]++ri ar++[fX [93]]
  else if k=6 then [fX [123]]++jp uX (Dq fs)++[fX [125]]
  else if k=7 then [fX [60]]++jp [.sp 32,fX [124],.sp 32] (Dq fs)++[fX [62]]
  else if k=8 then [xO [102,110],fX [40]]++jp uX (Dq fs)++[fX [41],.sp 32]++ri ar
  else if k=10 then Sw 2 m n (L3 ar)
  else [xO (LG k)]
def ri:List Ty→List Pc
 | []=>[]
 | t :: _=>t.pc
def L3:List Ty→List (List Pc)
 | []=>[]
 | t :: r=>t.pc :: L3 r
def Dq:List Fd→List (List Pc)
 | []=>[]
 | .mk n t o :: r=>([B8 n]++(if o=true then [fX [63]] else [])++Ub++t.pc) :: Dq r
end
def Fd.pc (f:Fd):List Pc:=[B8 f.name]++(if f.opt=true then [fX [63]] else [])++Ub++f.ty.pc
theorem Oe (l:List Ty):L3 l=l.map Ty.pc:=by induction l with|nil=>rfl|cons t r ih=>simp [L3,ih]
theorem Of (l:List Fd):Dq l=l.map Fd.pc:=by induction l with|nil=>rfl|cons t r ih=>obtain⟨_,_,_⟩:=t;rw [Dq,ih];rfl
theorem Ty.jF (t:Ty):t.pc=if t.kind=5 then [xO [108,105,115,116],fX [91]]++ri t.args++[fX [93]]
  else if t.kind=6 then [fX [123]]++jp uX (t.bA.map Fd.pc)++[fX [125]]
  else if t.kind=7 then [fX [60]]++jp [.sp 32,fX [124],.sp 32] (t.bA.map Fd.pc)++[fX [62]]
  else if t.kind=8 then [xO [102,110],fX [40]]++jp uX (t.bA.map Fd.pc)++[fX [41],.sp 32]++ri t.args
  else if t.kind=10 then Sw 2 t.mod t.name (t.args.map Ty.pc)
  else [xO (LG t.kind)]:=by obtain⟨k,m,n,ar,fs⟩:=t;rw [Ty.pc,Oe,Of];rfl
variable [ba]
theorem Ty.oF:∀ (N:Nat) (t:Ty),t.size≤N→flat t.pc=t.pr:=by intro N;induction N with|zero=>intro t h;have:=t.size_pos;omega|succ N ih =>intro t hN;have hs:=t.dG;(have hp:∀ u∈t.parts,flat u.pc=u.pr:=fun u hu=>by obtain⟨i,hi⟩:=bB.1 hu;have:=bU Ty.size hi;exact ih u (by omega));(have ha:(t.args.map Ty.pc).map flat=t.args.map Ty.pr:=by rw [aso];exact lM fun u hu=>hp u (by simp [Ty.parts,hu]));(have hf:(t.bA.map Fd.pc).map flat=t.bA.map Fd.pr:=by rw [aso];refine lM fun f hf=>?_;have h1:=hp f.ty (by simp only [Ty.parts,eA,cQ];exact .inr ⟨f,hf,rfl⟩);show flat f.pc=f.pr;rw [Fd.gV];unfold Fd.pc;rw [a7,a7,a7,h1];split <;> simp [flat,Pc.by]);(have hh:flat (ri t.args)=kB t.args:=by cases h:t.args with|nil=>rfl|cons a r=>exact hp a (by simp [Ty.parts,h]));rw [Ty.jF,Ty.gV];(repeat' split);(·rw [a7,a7,hh];rfl);(·rw [a7,a7,oE,hf];rfl);(·rw [a7,a7,oE,hf];rfl);(·rw [a7,a7,a7,oE,hf,hh];rfl);(·rw [HO 2 (by decide),ha]);simp [flat,Pc.by]
end
section
def qG (lv least:Int) (s:List Pc):List Pc:=if least≤lv then s else [fX [40]]++s++[fX [41]]
theorem pV (a b:Int) (s:List Pc):flat (qG a b s)=sG a b (flat s):=by
 unfold qG sG;split;·rfl
 rw [a7,a7];rfl
def Kb (ls:List Lb) (P:List (List Pc)):List Pc:=jp uX (List.zipWith (fun l p=>[B8 l.name]++Ub++p) ls P)
def HP (ls:List Lb) (P:List (List Pc)):List Pc:=jp uX (List.zipWith (fun l p=>[B8 l.name,.sp 32,B8 l.var,.sp 32,fX [61,62],.sp 32]++p) ls P)
def Uc:List Lb→List (List Pc)→List (List Pc)
 | [],_=>[]
 | l :: r,P=>if l.opt=true then ([B8 l.name]++Ub++l.ty.pc++[.sp 32,fX [61],.sp 32]++P.headD []) :: Uc r P.tail else ([B8 l.name]++Ub++l.ty.pc) :: Uc r P
theorem map_zipWith {α β γ δ:Type} (f:γ→δ) (g:α→β→γ):∀ (a:List α) (b:List β),(List.zipWith g a b).map f=List.zipWith (fun x y=>f (g x y)) a b
 | [],_=>by simp
 | _ :: _,[]=>by simp
 | x :: r,y :: s=>by simp [map_zipWith f g r s]
theorem zipWith_map {α β β' γ:Type} (g:α→β'→γ) (f:β→β'):∀ (a:List α) (b:List β),List.zipWith g a (b.map f)=List.zipWith (fun x y=>g x (f y)) a b
 | [],_=>by simp
 | _ :: _,[]=>by simp
 | x :: r,y :: s=>by simp [zipWith_map g f r s]
theorem HQ (ls:List Lb) (P:List (List Pc)):flat (Kb ls P)=VB ls (P.map flat):=by unfold Kb VB;rw [oE,map_zipWith,zipWith_map];congr 1;congr 1;funext l p;rw [a7];simp [flat,Pc.by]
theorem Og (ls:List Lb) (P:List (List Pc)):flat (HP ls P)=Rp ls (P.map flat):=by unfold HP Rp;rw [oE,map_zipWith,zipWith_map];congr 1;congr 1;funext l p;rw [a7];simp [flat,Pc.by]
theorem Kc (P:List (List Pc)):flat (P.headD [])=(P.map flat).headD []:=by cases P <;> rfl
variable [ba]
theorem BC:∀ (ls:List Lb) (P:List (List Pc)),(Uc ls P).map flat=Fp ls (P.map flat)
 | [],_=>rfl
 | l :: r,P=>by
  have ht:=Ty.oF _ l.ty (ay _)
  unfold Uc Fp
  split
  ·rw [bm,BC r P.tail,atT,a7,a7,a7,a7,ht,Kc]
   simp [flat,Pc.by]
  rw [bm,BC r P,a7,a7,ht]
  simp [flat,Pc.by]
def L4 (s:ByteArray):Bool:=decide (s=⟨#[111,114]⟩)||decide (s=⟨#[97,110,100]⟩)||decide (s=⟨#[110,111,116]⟩)||decide (s=⟨#[108,101,110,103,116,104]⟩)
def Wb (s:ByteArray):Pc:=if L4 s=true then xO (bt s) else fX (bt s)
theorem HR (s:ByteArray):(Wb s).by=bt s:=by unfold Wb;split <;> rfl
def Kd (x:Ex) (P:List (List Pc)):List Pc :=
 let a (i:Nat) (least:Int):List Pc:=qG ((x.kids.map Ex.lvl)[i]?.getD 9) least (P[i]?.getD [])
 if x.kids.length=1 then [Wb x.name,.sp 32]++a 0 (rm x.name).2.1 else a 0 (rm x.name).2.1++[.sp 32,Wb x.name,.sp 32]++a 1 (rm x.name).2.2
def L5 (w:List UInt8) (ts:List Ty):List Pc:=[xO w,fX [91]]++ri ts++[fX [93]]
def itP (n:Int):List Pc:=if n<0 then [fX [45],.tk 3 (Lib.decDigits n.natAbs)] else [.tk 3 (Lib.decDigits n.toNat)]
def BD (x:Ex) (P:List (List Pc)):List Pc :=
 let p (i:Nat):List Pc:=P[i]?.getD []
 let f:List Pc:=qG ((x.kids.map Ex.lvl)[0]?.getD 9) 8 (p 0)
 if x.kind=0 then itP x.num else if x.kind=1 then [.tk 4 (bt x.text)]
 else if x.kind=2 then (if x.num=1 then [xO [116,114,117,101]] else [xO [102,97,108,115,101]])
 else if x.kind=3∨x.kind=4 then Sw 1 x.mod x.name (x.types.map Ty.pc)
 else if x.kind=5 then [fX [123]]++Kb x.labels P++[fX [125]]
 else if x.kind=6 then f++[fX [46],B8 x.name]
 else if x.kind=7 then [fX [60],B8 x.name]++Ub++p 0++[fX [62]]
 else if x.kind=8 then [xO [102,110],fX [40]]++jp uX (Uc x.labels P)++[fX [41],.sp 32,fX [61,62],.sp 32]++p (x.labels.filter Lb.opt).length
 else if x.kind=9 then f++[fX [40]]++Kb x.labels P.tail++[fX [41]]
 else if x.kind=10 then [xO [108,101,116],.sp 32,B8 x.name,.sp 32,fX [61],.sp 32]++p 0++[.sp 32,xO [105,110],.sp 32]++p 1
 else if x.kind=11 then [fX [40]]++p 0++[.sp 32,fX [58],.sp 32]++ri x.types++[fX [41]]
 else if x.kind=12 then L5 [105,102] x.types++[.sp 32]++p 0++[.sp 32,xO [116,104,101,110],.sp 32]++p 1++[.sp 32,xO [101,108,115,101],.sp 32]++p 2
 else if x.kind=13 then L5 [109,97,116,99,104] x.types++[.sp 32]++p 0++[.sp 32,fX [123]]++HP x.labels P.tail++[fX [125]]
 else if x.kind=14 then [fX [91]]++ri x.types++[fX [124]]++(if P=[] then [] else [.sp 32]++jp uX P)++[fX [93]]
 else if x.kind=15 then L5 [102,111,108,100] x.types++[.sp 32,B8 x.name,fX [44],.sp 32,B8 x.text,.sp 32,xO [105,110],.sp 32]++p 0++[.sp 32,xO [102,114,111,109],.sp 32]++p 1++[.sp 32,fX [61,62],.sp 32]++p 2
 else Kd x P
mutual
def Ex.pc:Ex→List Pc
 | .mk k m n t nu ts ls ks=>BD (.mk k m n t nu ts ls ks) (L6 ks)
def L6:List Ex→List (List Pc)
 | []=>[]
 | x :: r=>x.pc :: L6 r
end
theorem Oh (l:List Ex):L6 l=l.map Ex.pc:=by induction l with|nil=>rfl|cons t r ih=>simp [L6,ih]
theorem Ex.jF (x:Ex):x.pc=BD x (x.kids.map Ex.pc):=by obtain⟨k,m,n,t,nu,ts,ls,ks⟩:=x;rw [Ex.pc,Oh];rfl
theorem E4 (ts:List Ty):flat (ri ts)=kB ts:=by cases ts with|nil=>rfl|cons a r=>exact Ty.oF _ a (ay _)
theorem BE (w:List UInt8) (ts:List Ty):flat (L5 w ts)=Cr w ts:=by unfold L5 Cr;rw [a7,a7,E4];simp [flat,Pc.by]
theorem Sx (ts:List Ty):(ts.map Ty.pc).map flat=ts.map Ty.pr:=by rw [aso];exact lM fun u _=>Ty.oF _ u (ay _)
theorem iG (P:List (List Pc)) (i:Nat):flat (P[i]?.getD [])=(P.map flat)[i]?.getD []:=by rw [aq];cases P[i]? <;> rfl
theorem Sy (n:Int):flat (itP n)=Lib.itoa n:=by unfold itP Lib.itoa;split <;> simp [flat,Pc.by]
theorem Oi (x:Ex) (P:List (List Pc)):flat (Kd x P)=XP x (P.map flat):=by
 unfold Kd XP;dsimp only;split;·rw [a7,pV,iG,pU,HR];rfl
 rw [a7,a7,pV,pV,iG,iG,pU,pU,HR];simp [flat,Pc.by]
theorem gB {p:Prop} [Decidable p] {a b:List Pc} {c d:List UInt8} (h1:flat a=c) (h2:flat b=d):flat (if p then a else b)=if p then c else d:=by
 by_cases h:p;·rw [if_pos h,if_pos h,h1]
 rw [if_neg h,if_neg h,h2]
theorem Sz (x:Ex) (P:List (List Pc)):flat (BD x P)=Be x (P.map flat):=by unfold BD Be;dsimp only;refine gB (Sy _) ?_;refine gB (by simp [flat,Pc.by,LI]) ?_;refine gB (by split <;> rfl) ?_;refine gB (by rw [HO 1 (by decide),Sx]) ?_;refine gB (by rw [a7,a7,HQ];rfl) ?_;refine gB (by rw [a7,pV,iG];simp [flat,Pc.by]) ?_;refine gB (by rw [a7,a7,a7,iG];simp [flat,Pc.by]) ?_;refine gB (by rw [a7,a7,a7,oE,BC,iG];rfl) ?_;refine gB (by rw [a7,a7,a7,pV,iG,HQ,atT];rfl) ?_;refine gB (by rw [a7,a7,a7,iG,iG];simp [flat,Pc.by]) ?_;refine gB (by rw [a7,a7,a7,a7,iG,E4];rfl) ?_;refine gB (by simp only [a7,iG,BE];rfl) ?_;refine gB (by simp only [a7,iG,BE,Og,atT];rfl) ?_;refine gB (by (have:flat (if P=[] then [] else [Pc.sp 32]++jp uX P)=if P.map flat=[] then [] else [32]++jn [44,32] (P.map flat):=by by_cases h:P=[];(·rw [if_pos h,if_pos (by rw [h];rfl)];rfl);rw [if_neg h,if_neg (by simpa using h),a7,oE];rfl);simp only [a7,E4,this];rfl) ?_;refine gB (by simp only [a7,iG,BE];simp [flat,Pc.by]) ?_;exact Oi x P
theorem Ex.oF:∀ (N:Nat) (x:Ex),x.size≤N→flat x.pc=x.pr:=by intro N;induction N with|zero=>intro t h;have:=t.size_pos;omega|succ N ih =>intro x hN;have hs:=x.jt;rw [Ex.jF,Ex.gV,Sz];congr 1;rw [aso];refine lM fun k hk=>?_;obtain⟨i,hi⟩:=bB.1 hk;have:=bU Ex.size hi;exact ih k (by omega)
end
def u2 (c:UInt8):Bool:=GR c.toNat
def HS (c:UInt8):Bool:=uL c.toNat
def blU (c:UInt8):Bool:=c==32||c==9||c==10||c==13
def lV:Bool→List UInt8→List UInt8
 | _,[]=>[]
 | true,c :: r=>lV (c != 10) r
 | false,c :: r=>if c=47∧r.head?=some 47 then lV true r else if blU c=true then lV false r else c :: r
def Oj (c:UInt8):Option UInt8:=if HS c=true then some (c-48) else if 97≤c∧c≤102 then some (c-87) else none
def uh:List UInt8→Option (UInt8×List UInt8)
 | []=>none
 | c :: r=>if c<32∨c=34 then none else if c≠92 then some (c,r) else match r with
  | []=>none
  | d :: q=>if d=34∨d=92 then some (d,q) else if d=110 then some (10,q) else if d=120 then (match q with
   | a :: b :: u=>(match Oj a,Oj b with
    | some x,some y=>some (16*x+y,u)
    | _,_=>none)
   | _=>none) else none
def SA:Nat→List UInt8→Option (List UInt8×List UInt8)
 | 0,_=>none
 | n+1,s=>match s with
  | []=>none
  | c :: r=>if c=34 then some ([],r) else match uh (c :: r) with
   | none=>none
   | some (d,q)=>(SA n q).map fun z=>(d :: z.1,z.2)
def xP:List (List UInt8):=[[61,61,61],[58,58],[62,58],[60,58],[61,62],[61,61],[43,43],[40],[41],[91],[93],[123],[125],[60],[62],[44],[58],[61],[46],[43],[45],[42],[124],[63],[47]]
def wM (s:List UInt8):Option ((Int×List UInt8)×List UInt8):=match s with
 | []=>none
 | c :: r =>
  if c=34 then (SA (r.length+1) r).map fun z=>((4,z.1),z.2)
  else if HS c=true then
   if 19<(s.takeWhile HS).length∨1<(s.takeWhile HS).length∧c=48∨(s.dropWhile HS).head?.any u2=true then none else some ((3,s.takeWhile HS),s.dropWhile HS)
  else if (vT c.toNat||yQ c.toNat)=true then
   if Nh.contains (s.takeWhile u2)=true then some ((5,s.takeWhile u2),s.dropWhile u2) else if dz ⟨(s.takeWhile u2).toArray⟩=true then some ((1,s.takeWhile u2),s.dropWhile u2)
   else if jx ⟨(s.takeWhile u2).toArray⟩=true then some ((2,s.takeWhile u2),s.dropWhile u2) else none
  else match xP.find? fun y=>y.isPrefixOf s with
   | some y=>some ((6,y),s.drop y.length)
   | none=>none
def okF (s:List UInt8) (c:UInt8):Prop:=(s=[58]∨s=[62]∨s=[60]→c≠58)∧(s=[61]→c≠61∧c≠62)∧(s=[61,61]→c≠61)∧(s=[43]→c≠43)∧(s=[47]→c≠47)
def okP:Pc→Prop
 | .tk k s=>(k=1∧dz ⟨s.toArray⟩=true)∨(k=2∧jx ⟨s.toArray⟩=true)∨(k=3∧s.all HS=true∧1≤s.length∧s.length≤19∧(1<s.length→s.head?≠some 48))∨k=4∨(k=5∧s∈Nh)∨(k=6∧s∈xP)
 | .sp c=>c=32∨c=10
def okN:Pc→List UInt8→Prop
 | .tk k s,r=>if k=6 then ∀ c,r.head?=some c→okF s c else if k=4 then True else ∀ c,r.head?=some c→u2 c=false
 | .sp _,_=>True
theorem HT {p:UInt8→Bool} {s r:List UInt8} (h:s.all p=true) (hr:∀ c,r.head?=some c→p c=false):(s++r).takeWhile p=s∧(s++r).dropWhile p=r:=by
 have h1:∀ r:List UInt8,(∀ c,r.head?=some c→p c=false)→r.takeWhile p=[]∧r.dropWhile p=r:=by intro r hr;cases r with|nil=>exact⟨rfl,rfl⟩|cons c q=>have:=hr c rfl;simp [List.takeWhile,List.dropWhile,this]
 rw [aN] at h;rw [au0 h,List.dropWhile_append_of_pos h,(h1 r hr).1,(h1 r hr).2];simp
theorem abP:∀ c:UInt8,Oj (EI (c / 16))=some (c / 16)∧Oj (EI (c % 16))=some (c % 16)∧16*(c / 16)+c % 16=c:=by
 intro c;have:∀ i:Fin 256,Oj (EI (UInt8.ofNat i.val / 16))=some (UInt8.ofNat i.val / 16)∧Oj (EI (UInt8.ofNat i.val % 16))=some (UInt8.ofNat i.val % 16)∧16*(UInt8.ofNat i.val / 16)+UInt8.ofNat i.val % 16=UInt8.ofNat i.val:=by decide +kernel
 have h:=this ⟨c.toNat,c.toNat_lt⟩;simpa using h
theorem SB (c:UInt8) (r:List UInt8):uh (yS c++r)=some (c,r):=by
 unfold yS;by_cases h1:c=34∨c=92;·rw [if_pos h1];show uh (92 :: c :: r)=_;unfold uh;simp [h1]
 rw [if_neg h1];by_cases h2:c=10;·rw [if_pos h2];show uh (92 :: 110 :: r)=_;unfold uh;simp [h2]
 rw [if_neg h2];by_cases h3:32≤c∧c≤126;·rw [if_pos h3];show uh (c :: r)=_;unfold uh;(have h4:¬ c<32:=by simpa using h3.1);have h5:c≠34:=fun h=>h1 (.inl h);have h6:c≠92:=fun h=>h1 (.inr h);simp [h4,h5,h6]
 rw [if_neg h3];obtain⟨e1,e2,e3⟩:=abP c;show uh (92 :: 120 :: EI (c / 16) :: EI (c % 16) :: r)=_;unfold uh;simp [e1,e2,e3]
theorem L7 (c:UInt8):∃ d q,yS c=d :: q∧d≠34:=by
 unfold yS;split;·exact⟨_,_,rfl,by decide⟩
 rename_i h;split;·exact⟨_,_,rfl,by decide⟩
 split;·exact⟨_,_,rfl,fun e=>h (.inl e)⟩
 exact⟨_,_,rfl,by decide⟩
theorem L8 (r:List UInt8):∀ (s:List UInt8) (n:Nat),s.length<n→SA n (s.flatMap yS++34 :: r)=some (s,r)
 | [],n,h=>by
  obtain⟨m,rfl⟩:∃ m,n=m+1:=⟨n-1,by simp at h;omega⟩
  simp [SA]
 | c :: s,n,h=>by
  obtain⟨m,rfl⟩:∃ m,n=m+1:=⟨n-1,by simp at h;omega⟩
  simp only [af] at h
  obtain⟨d,q,hd,dy⟩:=L7 c
  have hc:=SB c (s.flatMap yS++34 :: r)
  rw [ab,al]
  rw [hd] at hc ⊢
  simp only [cP] at hc ⊢
  unfold SA
  simp only [dy,if_false,hc,L8 r s m (by omega),b9]
theorem yD:∀ c:UInt8,u2 c=true→blU c=false∧c≠47∧c≠34:=by
 intro c h;have:∀ i:Fin 256,u2 (UInt8.ofNat i.val)=true→blU (UInt8.ofNat i.val)=false∧UInt8.ofNat i.val≠47∧UInt8.ofNat i.val≠34:=by decide +kernel
 have h2:=this ⟨c.toNat,c.toNat_lt⟩;simp only [at5] at h2;exact h2 h
theorem SC:∀ c:UInt8,HS c=true→u2 c=true:=by intro c h;unfold u2 HS GR at *;rw [h];simp
theorem agA:∀ c:UInt8,(vT c.toNat||yQ c.toNat)=true→HS c=false∧c≠34:=by
 intro c h;have:∀ i:Fin 256,(vT (UInt8.ofNat i.val).toNat||yQ (UInt8.ofNat i.val).toNat)=true→HS (UInt8.ofNat i.val)=false∧UInt8.ofNat i.val≠34:=by decide +kernel
 have h2:=this ⟨c.toNat,c.toNat_lt⟩;simp only [at5] at h2;exact h2 h
theorem E5 {c:UInt8} {r:List UInt8} (h1:blU c=false) (h2:c≠47):lV false (c :: r)=c :: r:=by unfold lV;rw [if_neg (fun h=>h2 h.1),if_neg (by rw [h1];simp)]
theorem BF {s r:List UInt8} {c:UInt8} (hc:s.head?=some c) (hs:(vT c.toNat||yQ c.toNat)=true) (hw:s.all u2=true) (hr:∀ d,r.head?=some d→u2 d=false) :
  wM (s++r)=if Nh.contains s=true then some ((5,s),r) else if dz ⟨s.toArray⟩=true then some ((1,s),r) else if jx ⟨s.toArray⟩=true then some ((2,s),r) else none:=by
 obtain⟨q,rfl⟩:∃ q,s=c :: q:=by cases s with|nil=>cases hc|cons a q=>exact⟨q,by simp at hc;rw [hc]⟩
 obtain⟨h1,h2⟩:=agA c hs;obtain⟨e1,e2⟩:=HT hw hr;rw [aw] at e1 e2 ⊢;unfold wM;simp only [h2,if_false,h1,bu,hs,if_true,e1,e2]
theorem tw {s:List UInt8} (h:1≤s.length):∃ c q,s=c :: q:=by cases s with|nil=>simp at h|cons a q=>exact⟨a,q,rfl⟩
theorem Dr {s:List UInt8} (h:jx ⟨s.toArray⟩=true):∃ c q,s=c :: q∧yQ c.toNat=true∧s.all u2=true:=by simp only [jx,aJ,decide_eq_true_eq,ss] at h;obtain⟨⟨⟨h1,-⟩,h3⟩,h4⟩:=h;obtain⟨c,q,rfl⟩:=tw (s:=s) (by simpa [ByteArray.size] using h1);exact⟨c,q,rfl,h3,by simpa [u2] using h4⟩
theorem nR {s:List UInt8} (h:dz ⟨s.toArray⟩=true):∃ c q,s=c :: q∧vT c.toNat=true∧s.all u2=true:=by simp only [dz,aJ,decide_eq_true_eq,ss] at h;obtain⟨⟨⟨⟨h1,-⟩,h3⟩,h4⟩,-⟩:=h;obtain⟨c,q,rfl⟩:=tw (s:=s) (by simpa [ByteArray.size] using h1);exact⟨c,q,rfl,h3,by simpa [u2] using h4⟩
theorem agB:∀ c:UInt8,yQ c.toNat=true→vT c.toNat=false:=by intro c h;unfold yQ vT at *;simp only [aJ,decide_eq_true_eq] at h;simp;omega
theorem BG:Nh.all (fun s=>s.all u2&&(s.head?.any fun c=>vT c.toNat) && !jx ⟨s.toArray⟩)=true:=by decide +kernel
theorem SD:Nh.all (fun s=>!dz ⟨s.toArray⟩)=true:=by decide +kernel
theorem HU {s:List UInt8} (h:s∈Nh):dz ⟨s.toArray⟩=false:=by have:=aN.1 SD s h;simpa using this
theorem HV {s:List UInt8} (h:s∈Nh):jx ⟨s.toArray⟩=false:=by have:=aN.1 BG s h;simp only [aJ] at this;simpa using this.2
theorem sO {s:List UInt8} (h:s ∉ Nh):Nh.contains s=false:=by simpa using h
theorem Wc {s r:List UInt8} (h:s∈xP) (hn:∀ c,r.head?=some c→okF s c):wM (s++r)=some ((6,s),r):=by
 have key:∀ c q,s=c :: q→c≠34→HS c=false→(vT c.toNat||yQ c.toNat)=false→(xP.find? fun y=>y.isPrefixOf (s++r))=some s→wM (s++r)=some ((6,s),r):=by intro c q hs h1 h2 h3 h4;rw [hs] at h4 ⊢;rw [aw] at h4 ⊢;unfold wM;simp only [h1,if_false,h2,bu,h3,h4];simp
 simp only [xP,b8,ef,or_false] at h;rcases h with rfl|rfl|rfl|rfl|rfl|rfl|rfl|rfl|rfl|rfl|rfl|rfl|rfl|rfl|rfl|rfl|rfl|rfl|rfl|rfl|rfl|rfl|rfl|rfl|rfl
 all_goals refine key _ _ rfl (by decide) (by decide +kernel) (by decide +kernel) ?_
 all_goals rcases r with _|⟨c,q⟩
 all_goals first|(simp [xP,List.isPrefixOf];done)|(have this:=hn c rfl;have hb:∀ d:UInt8,¬ c=d→(d==c)=false:=fun d h=>beq_eq_false_iff_ne.2 fun e=>h e.symm;simp only [okF] at this;simp at this;first|(simp [xP,List.isPrefixOf,List.find?];done)|(simp [xP,List.isPrefixOf,List.find?,hb _ this];done)|(simp [xP,List.isPrefixOf,List.find?,hb _ this.1,hb _ this.2];done))
theorem abQ {k:Int} {s r:List UInt8} (h:okP (.tk k s)) (hn:okN (.tk k s) r):wM ((Pc.tk k s).by++r)=some ((k,s),r):=by
 unfold okP at h;unfold okN at hn;dsimp only at h hn;rcases h with ⟨rfl,h⟩|⟨rfl,h⟩|⟨rfl,h1,h2,h3,h4⟩|rfl|⟨rfl,h⟩|⟨rfl,h⟩
 ·rw [if_neg (by decide),if_neg (by decide)] at hn;obtain⟨c,q,rfl,hc,hw⟩:=nR h;show wM ((c :: q)++r)=_;rw [BF rfl (by rw [hc];rfl) hw hn,sO (fun hk=>by rw [HU hk] at h;cases h)];simp [h]
 ·rw [if_neg (by decide),if_neg (by decide)] at hn;obtain⟨c,q,rfl,hc,hw⟩:=Dr h;show wM ((c :: q)++r)=_;rw [BF rfl (by rw [hc];simp) hw hn,sO (fun hk=>by rw [HV hk] at h;cases h)];(have:dz ⟨(c :: q).toArray⟩=false:=by cases hb:dz ⟨(c :: q).toArray⟩ with|false=>rfl|true =>obtain⟨c',q',he,WD,-⟩:=nR hb;cases he;rw [agB c hc] at WD;cases WD);simp [h,this]
 ·rw [if_neg (by decide),if_neg (by decide)] at hn;obtain⟨c,q,rfl⟩:=tw h2;show wM ((c :: q)++r)=_;obtain⟨e1,e2⟩:=HT h1 (r:=r) (fun d hd=>by have:=hn d hd;cases hb:HS d with|false=>rfl|true=>rw [SC d hb] at this;cases this);(have hc:HS c=true:=by simp at h1;exact h1.1);have h34:=(yD c (SC c hc)).2.2;rw [aw] at e1 e2 ⊢;unfold wM;simp only [h34,if_false,hc,if_true,e1,e2];rw [if_neg];rintro (h|⟨h,h5⟩|h);(·omega);(·exact h4 h (by rw [h5];rfl));obtain⟨d,hd,sK⟩:=(atO _ _).1 h;rw [hn d hd] at sK;cases sK
 ·(have e:(Pc.tk 4 s).by++r=34 :: (s.flatMap yS++34 :: r):=by simp [Pc.by]);rw [e];unfold wM;simp only [if_true];(have hl:∀ s:List UInt8,s.length≤(s.flatMap yS).length:=by intro s;induction s with|nil=>simp|cons c q ih =>obtain⟨d,u,hd,-⟩:=L7 c;simp only [ab,hd,ae,af];omega);rw [L8 r s _ (by have:=hl s;simp only [ae,af];omega)];rfl
 ·rw [if_neg (by decide),if_neg (by decide)] at hn;have:=aN.1 BG s h;simp only [aJ] at this;obtain⟨⟨hw,hc⟩,-⟩:=this;obtain⟨c,OP,KK⟩:=(atO _ _).1 hc;show wM (s++r)=_;rw [BF OP (by rw [KK];rfl) hw hn];simp [h]
 rw [if_pos rfl] at hn;show wM (s++r)=_;exact Wc h hn
def Ok:Nat→List UInt8→Option (List (Int×List UInt8))
 | n,s=>match s with
  | []=>some []
  | c :: r=>match n with
   | 0=>none
   | n+1=>match wM (c :: r) with
    | none=>none
    | some (t,q)=>(Ok n (lV false q)).map (t :: ·)
def lW:List Pc→List UInt8→Prop
 | [],_=>True
 | p :: q,r=>okP p∧okN p (flat q++r)∧lW q r
theorem cz {a b:List Pc} {r:List UInt8}:lW (a++b) r↔lW a (flat b++r)∧lW b r:=by induction a with|nil=>simp [lW]|cons p q ih=>simp only [aw,lW,ih,a7,al,and_assoc]
def dq:List Pc→List (Int×List UInt8)
 | []=>[]
 | .tk k s :: q=>(k,s) :: dq q
 | .sp _ :: q=>dq q
theorem cA (a b:List Pc):dq (a++b)=dq a++dq b:=by induction a with|nil=>rfl|cons p q ih=>cases p <;> simp [dq,ih]
theorem SE:xP.all (fun s=>s.head?.any fun c=>!blU c&&(c != 47||s==[47]))=true:=by decide +kernel
theorem Wd {k:Int} {s r:List UInt8} (h:okP (.tk k s)) (hn:okN (.tk k s) r):lV false ((Pc.tk k s).by++r)=(Pc.tk k s).by++r∧1≤(Pc.tk k s).by.length:=by
 have word:∀ c q,s=c :: q→k≠4→u2 c=true→lV false ((Pc.tk k s).by++r)=(Pc.tk k s).by++r∧1≤(Pc.tk k s).by.length:=by intro c q hs hk hw;obtain⟨h1,h2,-⟩:=yD c hw;(have e:(Pc.tk k s).by=c :: q:=by rw [← hs];exact if_neg hk);rw [e];exact⟨E5 h1 h2,by simp⟩
 unfold okP at h;unfold okN at hn;dsimp only at h hn;rcases h with ⟨rfl,h⟩|⟨rfl,h⟩|⟨rfl,h1,h2,h3,h4⟩|rfl|⟨rfl,h⟩|⟨rfl,h⟩
 ·obtain⟨c,q,hs,-,hw⟩:=nR h;exact word c q hs (by decide) (by rw [hs] at hw;simp at hw;exact hw.1)
 ·obtain⟨c,q,hs,-,hw⟩:=Dr h;exact word c q hs (by decide) (by rw [hs] at hw;simp at hw;exact hw.1)
 ·obtain⟨c,q,hs⟩:=tw h2;exact word c q hs (by decide) (SC c (by rw [hs] at h1;simp at h1;exact h1.1))
 ·refine⟨?_,by simp [Pc.by]⟩;show lV false (34 :: _)=_;exact E5 (by decide) (by decide)
 ·have:=aN.1 BG s h;simp only [aJ] at this;obtain⟨⟨hw,hc⟩,-⟩:=this;obtain⟨c,OP,-⟩:=(atO _ _).1 hc;(obtain⟨q,hs⟩:∃ q,s=c :: q:=by cases s with|nil=>cases OP|cons a q=>exact⟨q,by simp at OP;rw [OP]⟩);exact word c q hs (by decide) (by rw [hs] at hw;simp at hw;exact hw.1)
 rw [if_pos rfl] at hn;obtain⟨c,OP,KK⟩:=(atO _ _).1 (aN.1 SE s h);obtain⟨q,hs⟩:∃ q,s=c :: q:=by cases s with|nil=>cases OP|cons a q=>exact⟨q,by simp at OP;rw [OP]⟩
 simp only [aJ,ej,dN,bne_iff_ne,beq_iff_eq] at KK;have e:(Pc.tk 6 s).by=c :: q:=hs;rw [e];refine⟨?_,by simp⟩;rcases KK.2 with h2|h2
 ·exact E5 KK.1 h2
 rw [h2] at hs;cases hs;show lV false (47 :: r)=_;unfold lV;rw [if_neg,if_neg (by decide)];·rfl
 rintro⟨-,h5⟩;exact (hn 47 h5).2.2.2.2 h2 rfl
theorem We {c:UInt8} (r:List UInt8) (h:okP (.sp c)):lV false (c :: r)=lV false r:=by
 conv=>lhs;unfold lV
 rcases h with rfl|rfl
 ·rw [if_neg (by simp),if_pos (by decide)]
 rw [if_neg (by simp),if_pos (by decide)]
theorem wN:∀ (l:List Pc),lW l []→∀ n,(flat l).length≤n→Ok n (lV false (flat l))=some (dq l)
 | [],_,n,_=>by
  show Ok n (lV false [])=_
  unfold lV Ok;rfl
 | .sp c :: q,h,n,hn=>by
  rw [pU] at hn ⊢
  show Ok n (lV false (c :: flat q))=_
  rw [We _ h.1]
  exact wN q h.2.2 n (by simp only [ae] at hn;omega)
 | .tk k s :: q,h,n,hn=>by
  obtain⟨h1,h2,h3⟩:=h
  rw [ah] at h2
  obtain⟨e1,e2⟩:=Wd h1 h2
  rw [pU] at hn ⊢
  rw [e1]
  have ht:=abQ h1 h2
  rw [ae] at hn
  obtain⟨m,rfl⟩:∃ m,n=m+1:=⟨n-1,by omega⟩
  obtain⟨c,u,hc⟩:=tw e2
  rw [hc] at ht hn ⊢
  rw [aw] at ht ⊢
  unfold Ok
  simp only [ht,wN q h3 m (by simp only [af] at hn;omega),b9]
  rfl
section
def enU (c:UInt8):Bool:=[10,32,40,41,44,46,62,93,124,125].contains c
def lK (r:List UInt8):Prop:=∀ c,r.head?=some c→enU c=true
theorem wO:lK []:=fun _ h=>by cases h
theorem cL {c:UInt8} {r:List UInt8} (h:enU c=true):lK (c :: r):=fun d hd=>by simp at hd;rw [← hd];exact h
theorem SG:∀ c:UInt8,enU c=true→u2 c=false∧c≠58:=by
 intro c h;have:∀ i:Fin 256,enU (UInt8.ofNat i.val)=true→u2 (UInt8.ofNat i.val)=false∧UInt8.ofNat i.val≠58:=by decide +kernel
 have h2:=this ⟨c.toNat,c.toNat_lt⟩;simp only [at5] at h2;exact h2 h
def HW (r:List UInt8):Prop:=∀ c,r.head?=some c→u2 c=false
theorem ea {c:UInt8} {r:List UInt8} (h:u2 c=false):HW (c :: r):=fun d hd=>by simp at hd;rw [← hd];exact h
theorem lK.HW {r:List UInt8} (h:lK r):HW r:=fun c hc=>(SG c (h c hc)).1
def SH (s:List UInt8):Bool:=!([[58],[62],[60],[61],[61,61],[43],[47]]:List (List UInt8)).contains s
theorem SI {s:List UInt8} (h:SH s=true) (c:UInt8):okF s c:=by
 simp only [SH,ej,List.contains_eq_mem,decide_eq_false_iff_not,b8,ef,or_false,not_or] at h;obtain⟨h1,h2,h3,h4,h5,h6,h7⟩:=h;refine⟨?_,fun h=>absurd h h4,fun h=>absurd h h5,fun h=>absurd h h6,fun h=>absurd h h7⟩;rintro (h|h|h);·exact absurd h h1
 ·exact absurd h h2
 exact absurd h h3
theorem SJ {s r:List UInt8} (h:∀ c,r.head?=some c→okF s c):okN (.tk 6 s) r:=by show if (6:Int)=6 then (∀ c,r.head?=some c→okF s c) else if (6:Int)=4 then True else ∀ c,r.head?=some c→u2 c=false;rw [if_pos rfl];exact h
theorem L9 {k:Int} {s r:List UInt8} (h6:k≠6) (h4:k≠4) (h:HW r):okN (.tk k s) r:=by show if k=6 then (∀ c,r.head?=some c→okF s c) else if k=4 then True else ∀ c,r.head?=some c→u2 c=false;rw [if_neg h6,if_neg h4];exact h
theorem ft {c:UInt8} {q:List Pc} {r:List UInt8} (h:c=32∨c=10) (h3:lW q r):lW (.sp c :: q) r:=⟨h,trivial,h3⟩
theorem fu {s:List UInt8} {q:List Pc} {r:List UInt8} (h1:xP.contains s=true) (hf:SH s=true) (h3:lW q r):lW (fX s :: q) r :=
 ⟨.inr (.inr (.inr (.inr (.inr ⟨rfl,by simpa using h1⟩)))),SJ fun c _=>SI hf c,h3⟩
theorem qH {s:List UInt8} {q:List Pc} {r:List UInt8} (h1:xP.contains s=true) (hf:∀ c,(flat q++r).head?=some c→okF s c) (h3:lW q r):lW (fX s :: q) r :=
 ⟨.inr (.inr (.inr (.inr (.inr ⟨rfl,by simpa using h1⟩)))),SJ hf,h3⟩
theorem oG {s:List UInt8} {q:List Pc} {r:List UInt8} (h1:Nh.contains s=true) (hf:HW (flat q++r)) (h3:lW q r):lW (xO s :: q) r :=
 ⟨.inr (.inr (.inr (.inr (.inl ⟨rfl,by simpa using h1⟩)))),L9 (by decide) (by decide) hf,h3⟩
theorem oH {s:ByteArray} {q:List Pc} {r:List UInt8} (h1:dz s=true) (hf:HW (flat q++r)) (h3:lW q r):lW (B8 s :: q) r :=
 ⟨.inl ⟨rfl,by cases s;exact h1⟩,L9 (by decide) (by decide) hf,h3⟩
theorem agC {s:ByteArray} {q:List Pc} {r:List UInt8} (h1:jx s=true) (hf:HW (flat q++r)) (h3:lW q r):lW (.tk 2 (bt s) :: q) r :=
 ⟨.inr (.inl ⟨rfl,by cases s;exact h1⟩),L9 (by decide) (by decide) hf,h3⟩
theorem BH (r:List UInt8):lW uX r:=fu (by decide) (by decide) (ft (.inl rfl) trivial)
theorem HX (r:List UInt8):lW Ub r:=qH (by decide) (fun c hc=>by
 have:c=32:=by simpa [flat,Pc.by,eq_comm] using hc
 subst this;simp [okF]) (ft (.inl rfl) trivial)
theorem yE {sep:List Pc} {l:List (List Pc)} {r:List UInt8} (hl:∀ x∈l,∀ r',lK r'→lW x r') (hs:∀ r',lW sep r') (he:∀ r',lK (flat sep++r')) (hr:lK r):lW (jp sep l) r:=by cases l with|nil=>exact trivial|cons x q =>(have h2:∀ q:List (List Pc),(∀ x∈q,∀ r',lK r'→lW x r')→lW (q.flatMap fun y=>sep++y) r∧lK (flat (q.flatMap fun y=>sep++y)++r):=by intro q;induction q with|nil=>intro _;exact⟨trivial,hr⟩|cons y q ih =>intro hq;obtain⟨h3,h4⟩:=ih fun x hx=>hq x (by simp [hx]);refine⟨?_,?_⟩;(·rw [ab,cz,cz];exact⟨⟨hs _,hq y (by simp) _ h4⟩,h3⟩);rw [ab,a7,a7,al,al];exact he _);obtain⟨h3,h4⟩:=h2 q fun x hx=>hl x (by simp [hx]);show lW (x++_) r;rw [cz];exact⟨hl x (by simp) _ h4,h3⟩
theorem abR (k:Int):Nh.contains (LG k)=true:=by unfold LG;(repeat' split) <;> decide +kernel
theorem Ye {k:Int} {m n:ByteArray} {l:List (List Pc)} {r:List UInt8} (hm:m=⟨#[]⟩∨dz m=true) (hn:∀ q r,HW (flat q++r)→lW q r→lW (.tk k (bt n) :: q) r) (hl:∀ x∈l,∀ r',lK r'→lW x r') (hr:lK r):lW (Sw k m n l) r:=by
 unfold Sw;have hA:lW (if l=[] then [] else [fX [91]]++jp uX l++[fX [93]]) r∧HW (flat (if l=[] then [] else [fX [91]]++jp uX l++[fX [93]])++r):=by split;(·exact⟨trivial,hr.HW⟩);refine⟨?_,ea (by decide)⟩;simp only [cP,al];refine fu (by decide) (by decide) ?_;exact cz.2 ⟨yE hl BH (fun r'=>cL (by decide)) (cL (by decide)),fu (by decide) (by decide) trivial⟩
 rw [al];have hB:=hn _ r hA.2 hA.1;split;·exact hB
 refine oH (hm.resolve_left (by assumption)) (ea (by decide)) (fu (by decide) (by decide) hB)
variable [ba]
theorem E6 {t:Ty} (h:tj t=0):∀ f∈t.bA,dz f.name=true:=by
 intro f hf;unfold tj at h;split at h;· simp at h
 split at h;· simp at h
 split at h;· simp at h
 split at h;· simp at h
 rename_i h4;cases h5:dz f.name with|true=>rfl|false=>exact absurd (tP.2 ⟨f,hf,by simp [h5]⟩) h4
theorem abS {t:Ty} (h:tj t=0) (hk:t.kind=10):rf t.mod=true∧jx t.name=true:=by
 unfold tj at h;split at h;· simp at h
 split at h;· simp at h
 split at h;· simp at h
 rename_i h4;cases h6:rf t.mod <;> cases h7:jx t.name <;> simp [hk,h6,h7] at h4 ⊢
theorem Ma {s:ByteArray} (h:rf s=true) (hs:ek s=false):s=⟨#[]⟩∨dz s=true:=by
 simp only [rf,dN] at h;rcases h with (h|h)|h
 ·exact .inl (by simpa [jJ] using h)
 ·exact .inr h
 rw [hs] at h;cases h
theorem Ty.Ds:∀ (N:Nat) (t:Ty),t.size≤N→(∀ u∈t.nodes,tj u=0∧ek u.mod=false)→∀ r,lK r→lW t.pc r:=by intro N;induction N with|zero=>intro t h;have:=t.size_pos;omega|succ N ih =>intro t hN hn r hr;have hs:=t.dG;rw [Ty.dU] at hn;obtain⟨h0,h1⟩:=hn t (by simp);(have hp:∀ u∈t.parts,∀ r,lK r→lW u.pc r:=fun u hu=>by obtain⟨i,hi⟩:=bB.1 hu;have:=bU Ty.size hi;exact ih u (by omega) fun v hv=>hn v (bj _ (e9.2 ⟨u,hu,hv⟩)));(have ha:∀ x∈t.args.map Ty.pc,∀ r,lK r→lW x r:=by intro x hx;obtain⟨u,hu,rfl⟩:=cQ.1 hx;exact hp u (by simp [Ty.parts,hu]));(have hf:∀ x∈t.bA.map Fd.pc,∀ r,lK r→lW x r:=by intro x hx r hr;obtain⟨f,hf,rfl⟩:=cQ.1 hx;have h2:=hp f.ty (by simp only [Ty.parts,eA,cQ];exact .inr ⟨f,hf,rfl⟩) r hr;have h3:lW (Ub++f.ty.pc) r:=cz.2 ⟨HX _,h2⟩;unfold Fd.pc;rw [al,al];split;(·exact oH (E6 h0 f hf) (ea (by decide)) (fu (by decide) (by decide) h3));exact oH (E6 h0 f hf) (ea (by decide)) h3);(have hh:∀ r,lK r→lW (ri t.args) r:=by intro r hr;cases h:t.args with|nil=>exact trivial|cons a q=>exact hp a (by simp [Ty.parts,h]) r hr);rw [Ty.jF];split;(·simp only [cP,al];exact oG (by decide +kernel) (ea (by decide)) (fu (by decide) (by decide) (cz.2 ⟨hh _ (cL (by decide)),fu (by decide) (by decide) trivial⟩)));split;(·simp only [cP,al];exact fu (by decide) (by decide) (cz.2 ⟨yE hf BH (fun r'=>cL (by decide)) (cL (by decide)),fu (by decide) (by decide) trivial⟩));split;(·simp only [cP,al];refine qH (by decide) (fun c hc=>?_) (cz.2 ⟨yE hf (fun r'=>ft (.inl rfl) (fu (by decide) (by decide) (ft (.inl rfl) trivial))) (fun r'=>cL (by decide)) (cL (by decide)),qH (by decide) (fun c hc=>?_) trivial⟩);(·(have:c≠58:=by cases hl:t.bA with|nil =>rw [hl] at hc;(have:c=62:=by simpa [jp,flat,Pc.by,eq_comm] using hc);subst this;decide|cons f q =>obtain⟨d,u,hd,hs,-⟩:=nR (s:=bt f.name) (E6 h0 f (by simp [hl]));rw [hl] at hc;(have:d=c:=by simpa [jp,flat,Pc.by,Fd.pc,hd] using hc);subst this;intro e;rw [e] at hs;revert hs;decide);simp [okF,this]);have:=(SG c (hr c (by simpa [flat] using hc))).2;simp [okF,this]);split;(·simp only [cP,al];exact oG (by decide +kernel) (ea (by decide)) (fu (by decide) (by decide) (cz.2 ⟨yE hf BH (fun r'=>cL (by decide)) (cL (by decide)),fu (by decide) (by decide) (ft (.inl rfl) (hh r hr))⟩)));split;(·rename_i hk;obtain⟨h2,h3⟩:=abS h0 hk;exact Ye (Ma h2 h1) (fun q r=>agC h3) ha hr);exact oG (abR _) hr.HW trivial
end
theorem abT (u:Nat):(Lib.decDigits u).all HS=true:=by
 rw [Lib.decDigits_eq,aN];intro c hc;obtain⟨t,-,rfl⟩:=cQ.1 hc;have:∀ i:Fin 10,HS (UInt8.ofNat (48+i.val))=true:=by decide +kernel
 exact this ⟨_,atE _ (by decide)⟩
theorem Mb (u:Nat):1≤(Lib.decDigits u).length:=by rw [Lib.decDigits_length];exact Lib.nDigits_pos u
theorem Ke (u:Nat) (h0:1≤u):10 ^ (Lib.nDigits u-1)≤u:=by induction u using Nat.strongRecOn with|_ u ih =>by_cases h:u<10;(·rw [Lib.nDigits_small h];simpa using h0);have h1:=ih (u / 10) (by omega) (by omega);have h2:=Lib.nDigits_pos (u / 10);rw [Lib.nDigits_big h,show Lib.nDigits (u / 10)+1-1=(Lib.nDigits (u / 10)-1)+1 by omega,Nat.pow_succ];omega
theorem abU {u:Nat} (h:u≤9223372036854775808):(Lib.decDigits u).length≤19:=by
 rw [Lib.decDigits_length];by_cases h0:19<Lib.nDigits u;·exfalso;(have h1:1≤u:=by by_cases hu:u<10;(·rw [Lib.nDigits_small hu] at h0;omega);omega);have h2:=Ke u h1;have h3:(10:Nat) ^ 19≤10 ^ (Lib.nDigits u-1):=Nat.pow_le_pow_right (by decide) (by omega);omega
 omega
theorem SK (u:Nat) (h0:1≤u):(Lib.decDigits u).head?≠some 48:=by induction u using Nat.strongRecOn with|_ u ih =>by_cases h:u<10;(·rw [Lib.decDigits,dif_pos h];(have:∀ i:Fin 10,1≤i.val→UInt8.ofNat (48+i.val)≠48:=by decide +kernel);simpa using this ⟨u,h⟩ h0);rw [Lib.decDigits,dif_neg h];have h1:=ih (u / 10) (by omega) (by omega);obtain⟨c,q,hc⟩:=tw (Mb (u / 10));rw [hc] at h1 ⊢;exact h1
theorem SL {u:Nat} {q:List Pc} {r:List UInt8} (h:u≤9223372036854775808) (hf:HW (flat q++r)) (h3:lW q r):lW (.tk 3 (Lib.decDigits u) :: q) r:=by
 refine⟨.inr (.inr (.inl ⟨rfl,abT u,Mb u,abU h,fun h1=>SK u ?_⟩)),L9 (by decide) (by decide) hf,h3⟩;by_cases h0:u=0;·subst h0;rw [Lib.decDigits_length,Lib.nDigits_small (by decide)] at h1;omega
 omega
theorem agD {s:List UInt8} {q:List Pc} {r:List UInt8} (h3:lW q r):lW (.tk 4 s :: q) r :=
 ⟨.inr (.inr (.inr (.inl rfl))),by show if (4:Int)=6 then (∀ c,(flat q++r).head?=some c→okF s c) else if (4:Int)=4 then True else ∀ c,(flat q++r).head?=some c→u2 c=false;rw [if_neg (by decide),if_pos rfl];trivial,h3⟩
theorem BI {a b:Int} {p:List Pc} {r:List UInt8} (hp:∀ r,lK r→lW p r) (hr:lK r):lW (qG a b p) r:=by
 unfold qG;split;·exact hp r hr
 simp only [cP,al];exact fu (by decide) (by decide) (cz.2 ⟨hp _ (cL (by decide)),fu (by decide) (by decide) trivial⟩)
theorem Yf {s:ByteArray} {q:List Pc} {r:List UInt8} (h:xy s≠0) (hq:lW (.sp 32 :: q) r):lW (Wb s :: .sp 32 :: q) r:=by
 have hm:s∈wy∨s∈uP:=by unfold xy at h;by_cases h1:qy s wy=true;(·left;simpa [qy] using h1);rw [if_neg h1] at h;by_cases h2:qy s uP=true;(·right;simpa [qy] using h2);rw [if_neg h2] at h;exact absurd rfl h
 have key:∀ s∈wy++uP,(L4 s=true∧Nh.contains (bt s)=true)∨(L4 s=false∧xP.contains (bt s)=true):=by decide +kernel
 rcases key s (eA.2 hm) with ⟨h1,h2⟩|⟨h1,h2⟩
 ·unfold Wb;rw [if_pos h1];exact oG h2 (ea (by decide)) hq
 unfold Wb;rw [if_neg (by rw [h1];decide)];have h32:∀ c:UInt8,c=32→okF (bt s) c:=fun c hc=>by subst hc;simp [okF]
 exact qH h2 (fun c hc=>h32 c (by simpa [flat,Pc.by,eq_comm] using hc)) hq
end Go.Proofs.YtfbbfmcggbapoaaGreatDoor
end
section
namespace Go.Proofs.YtfbbfmcggbapoaaGreatDoor
open Go.Eng
variable [ba]
set_option maxHeartbeats 4000000
set_option maxRecDepth 100000
structure SrN (u:Ex):Prop where
 en:wX u=0
 lo : -9223372036854775808≤u.num
 hi:u.num≤9223372036854775807
 md:ek u.mod=false
 own:∀ t∈u.own,∀ v∈t.nodes,tj v=0∧ek v.mod=false
theorem kJ.lbN {x:Ex} {f:Fo} (h:kJ x f):∀ l∈x.labels,dz l.name=true:=by intro l hl;have:=h.Ua;simp only [qC,ez,km] at this;have:=this.2 l hl;simp only [qW,dN,ej,not_or] at this;simpa using this.1
theorem kJ.vrN {x:Ex} {f:Fo} (h:kJ x f) (hv:iZ f.fl ⟨#[118]⟩=true):∀ l∈x.labels,dz l.var=true:=by intro l hl;have:=h.Ua;simp only [qC,ez,km] at this;have:=this.2 l hl;simp only [qW,hv,a6,dN,ej,not_or] at this;simpa using this.2
theorem kJ.nmN {x:Ex} {f:Fo} (h:kJ x f) (hn:iZ f.fl ⟨#[110]⟩=true) (hk:x.kind≠16):dz x.name=true:=by have:=h.Ua;simp only [qC,ez] at this;have:=this.1.1.2;simpa only [m2,hn,hk,decide_false,a8,a6,qM] using this
theorem kJ.txN {x:Ex} {f:Fo} (h:kJ x f) (hk:x.kind=15):dz x.text=true:=by have:=h.Ua;simp only [qC,ez] at this;have:=this.1.2;simpa only [m3,hk,decide_true,a6,qM] using this
theorem kJ.xy {x:Ex} {f:Fo} (h:kJ x f) (hk:x.kind=16):xy x.name≠0:=by have:=h.fits;simp only [qV,aJ] at this;have:=this.1.1.1.1.2;simpa only [q6,hk,decide_true,a6,ec,if_true,ej,decide_eq_false_iff_not] using this
theorem yF {α β γ:Type} {f:α→β→γ} {a:List α} {b:List β} {x:γ} (h:x∈List.zipWith f a b):∃ u∈a,∃ v∈b,x=f u v:=by induction a generalizing b with|nil=>simp at h|cons u r ih =>cases b with|nil=>simp at h|cons v q =>simp only [auU,b8] at h;(rcases h with h|h);(·exact⟨u,by simp,v,by simp,h⟩);obtain⟨u',hu,v',hv,e⟩:=ih h;exact⟨u',by simp [hu],v',by simp [hv],e⟩
abbrev BJ (p:List Pc):Prop:=∀ r,lK r→lW p r
theorem Yg {ls:List Lb} {P:List (List Pc)} (hl:∀ l∈ls,dz l.name=true) (hP:∀ p∈P,BJ p):BJ (Kb ls P):=fun r hr=>by refine yE (fun x hx r' za=>?_) BH (fun r'=>cL (by decide)) hr;obtain⟨l,hlm,p,hp,rfl⟩:=yF hx;simp only [cP,al];exact oH (hl l hlm) (ea (by decide)) (cz.2 ⟨HX _,hP p hp r' za⟩)
theorem abV {ls:List Lb} {P:List (List Pc)} (hl:∀ l∈ls,dz l.name=true) (hv:∀ l∈ls,dz l.var=true) (hP:∀ p∈P,BJ p):BJ (HP ls P):=fun r hr=>by refine yE (fun x hx r' za=>?_) BH (fun r'=>cL (by decide)) hr;obtain⟨l,hlm,p,hp,rfl⟩:=yF hx;simp only [cP,al];exact oH (hl l hlm) (ea (by decide)) (ft (.inl rfl) (oH (hv l hlm) (ea (by decide)) (ft (.inl rfl) (fu (by decide) (by decide) (ft (.inl rfl) (hP p hp r' za))))))
theorem SM:∀ {ls:List Lb} {P:List (List Pc)},(∀ l∈ls,dz l.name=true)→(∀ l∈ls,BJ l.ty.pc)→(∀ p∈P,BJ p)→∀ x∈Uc ls P,BJ x
 | [],_,_,_,_=>by intro x hx;simp [Uc] at hx
 | l :: r,P,hl,ht,hP=>by
  have h1:∀ a∈r,dz a.name=true:=fun a ha=>hl a (by simp [ha])
  have h2:∀ a∈r,BJ a.ty.pc:=fun a ha=>ht a (by simp [ha])
  have hn:=hl l (by simp)
  have Cw:=ht l (by simp)
  intro x hx
  unfold Uc at hx
  split at hx
  ·rcases b8.1 hx with rfl|hx
   ·intro r' za
    simp only [cP,al]
    refine oH hn (ea (by decide)) (cz.2 ⟨HX _,cz.2 ⟨Cw _ (cL (by decide)),ft (.inl rfl) (qH (by decide) (fun c hc=>?_) (ft (.inl rfl) ?_))⟩⟩)
    ·have:c=32:=by simpa [flat,Pc.by,eq_comm] using hc
     subst this;simp [okF]
    cases P with
    | nil=>exact trivial
    | cons p q=>exact hP p (by simp) r' za
   exact SM h1 h2 (fun p hp=>hP p (aug hp)) x hx
  rcases b8.1 hx with rfl|hx
  ·intro r' za
   simp only [cP,al]
   exact oH hn (ea (by decide)) (cz.2 ⟨HX _,Cw _ za⟩)
  exact SM h1 h2 hP x hx
theorem Kf {w:List UInt8} {ts:List Ty} {q:List Pc} {r:List UInt8} (hw:Nh.contains w=true) (ht:∀ t∈ts,BJ t.pc) (hq:lW q r):lW (L5 w ts ++ .sp 32 :: q) r:=by unfold L5;simp only [cP,al];refine oG hw (ea (by decide)) (fu (by decide) (by decide) (cz.2 ⟨?_,fu (by decide) (by decide) (ft (.inl rfl) hq)⟩));cases ts with|nil=>exact trivial|cons a q=>exact ht a (by simp) _ (cL (by decide))
theorem Wf {P:List (List Pc)} (hP:∀ p∈P,BJ p) (i:Nat):BJ (P[i]?.getD []):=by cases h:P[i]? with|none=>exact fun _ _=>trivial|some p=>exact hP p (aE h)
theorem abW {ts:List Ty} (ht:∀ t∈ts,BJ t.pc):BJ (ri ts):=by cases ts with|nil=>exact fun _ _=>trivial|cons a q=>exact ht a (by simp)
theorem je {p:Prop} [Decidable p] {a b:List Pc} (h1:p→BJ a) (h2:¬ p→BJ b):BJ (if p then a else b):=by
 by_cases h:p;·rw [if_pos h];exact h1 h
 rw [if_neg h];exact h2 h
theorem HY {s:List UInt8} {c:UInt8} {q:List UInt8} (hc:(32 :: q).head?=some c) (hs:∀ d,d=32→okF s d):okF s c:=by
 have:c=32:=by simpa [eq_comm] using hc
 exact hs c this
theorem Wg (n:Int) (qb : -9223372036854775808≤n) (tR:n≤9223372036854775807):BJ (itP n):=by
 intro r hr;unfold itP;split;·exact fu (by decide) (by decide) (SL (by omega) hr.HW trivial)
 exact SL (by omega) hr.HW trivial
theorem Ex.Ds:∀ (N:Nat) (x:Ex),x.size≤N→(∀ u∈x.nodes,SrN u)→BJ x.pc:=by intro N;induction N with|zero=>intro x h;have:=x.size_pos;omega|succ N ih =>intro x hN hn;have hs:=x.jt;rw [Ex.dU] at hn;have h0:=hn x (by simp);obtain⟨f,ok⟩:=tv h0.en;(have hP:∀ p∈x.kids.map Ex.pc,BJ p:=by intro p hp;obtain⟨k,hk,rfl⟩:=cQ.1 hp;obtain⟨i,hi⟩:=bB.1 hk;have:=bU Ex.size hi;exact ih k (by omega) fun v hv=>hn v (bj _ (e9.2 ⟨k,hk,hv⟩)));have hO:∀ t∈x.own,BJ t.pc:=fun t ht=>Ty.Ds _ t (ay _) (h0.own t ht);have hT:∀ t∈x.types,BJ t.pc:=fun t ht=>hO t (dD _ ht);(have hT2:∀ p∈x.types.map Ty.pc,BJ p:=by intro p hp;obtain⟨t,ht,rfl⟩:=cQ.1 hp;exact hT t ht);have hf:=ok.form;rw [Ex.jF];generalize hPP:x.kids.map Ex.pc=P at *;have hp:=Wf hP;have zK:=ok.lbN;have hgv:=Yg (ls:=x.labels) (P:=P) zK hP;have hgt:=Yg (ls:=x.labels) (P:=P.tail) zK fun p hp=>hP p (aug hp);have hd:=abW hT;unfold BD;dsimp only;refine je (fun h=>?_) (fun hn=>?_);(·exact Wg _ h0.lo h0.hi);refine je (fun h=>?_) (fun hn=>?_);(·exact fun r hr=>agD trivial);refine je (fun h=>?_) (fun hn=>?_);(·intro r hr;split;(·exact oG (by decide +kernel) hr.HW trivial);exact oG (by decide +kernel) hr.HW trivial);refine je (fun h34=>?_) (fun hn=>?_);(·(have KQ:(x.mod=⟨#[]⟩∨dz x.mod=true)∧dz x.name=true:=by (rcases h34 with h|h);(·rw [h] at hf;cases hf;refine⟨.inl ?_,ok.nmN kr (by omega)⟩;have:=ok.em kr;exact atL (au1 this));rw [h] at hf;cases hf;exact⟨Ma (ok.md kr) h0.md,ok.nmN kr (by omega)⟩);exact fun r hr=>Ye KQ.1 (fun q r=>oH KQ.2) hT2 hr);refine je (fun h=>?_) (fun hn=>?_);(·intro r hr;simp only [cP,al];exact fu (by decide) (by decide) (cz.2 ⟨hgv _ (cL (by decide)),fu (by decide) (by decide) trivial⟩));refine je (fun h=>?_) (fun hn=>?_);(·rw [h] at hf;cases hf;have vY:=ok.nmN kr (by omega);intro r hr;exact cz.2 ⟨BI (hp 0) (cL (by decide)),fu (by decide) (by decide) (oH vY hr.HW trivial)⟩);refine je (fun h=>?_) (fun hn=>?_);(·rw [h] at hf;cases hf;have vY:=ok.nmN kr (by omega);intro r hr;simp only [cP,al];refine qH (by decide) (fun c hc=>?_) (oH vY (ea (by decide)) (cz.2 ⟨HX _,cz.2 ⟨hp 0 _ (cL (by decide)),qH (q:=[]) (by decide) (fun c hc=>?_) trivial⟩⟩));(·obtain⟨d,u,hd,hsm,-⟩:=nR (s:=bt x.name) vY;(have:d=c:=by simpa [flat,Pc.by,hd] using hc);subst this;(have:d≠58:=by intro e;rw [e] at hsm;revert hsm;decide);simp [okF,this]);have:=(SG c (hr c (by simpa [flat] using hc))).2;simp [okF,this]);refine je (fun h=>?_) (fun hn=>?_);(·intro r hr;have bQ:∀ l∈x.labels,BJ l.ty.pc:=fun l hl=>hO l.ty (by unfold Ex.own;rw [if_pos h];exact eP _ (cQ.2 ⟨l,hl,rfl⟩));simp only [cP,al];exact oG (by decide +kernel) (ea (by decide)) (fu (by decide) (by decide) (cz.2 ⟨yE (fun x hx=>SM zK bQ hP x hx) BH (fun r'=>cL (by decide)) (cL (by decide)),fu (by decide) (by decide) (ft (.inl rfl) (fu (by decide) (by decide) (ft (.inl rfl) (hp _ r hr))))⟩)));refine je (fun h=>?_) (fun hn=>?_);(·intro r hr;simp only [cP,al];exact cz.2 ⟨BI (hp 0) (cL (by decide)),fu (by decide) (by decide) (cz.2 ⟨hgt _ (cL (by decide)),fu (by decide) (by decide) trivial⟩)⟩);have heq:∀ {q:List Pc} {r:List UInt8},lW q r→lW (fX [61] :: .sp 32 :: q) r:=fun h=>qH (by decide) (fun c hc=>HY hc fun d hd=>by subst hd;simp [okF]) (ft (.inl rfl) h);have mf:∀ {q:List Pc} {r:List UInt8},lW q r→lW (fX [58] :: .sp 32 :: q) r:=fun h=>qH (by decide) (fun c hc=>HY hc fun d hd=>by subst hd;simp [okF]) (ft (.inl rfl) h);refine je (fun h=>?_) (fun hn=>?_);(·rw [h] at hf;cases hf;have vY:=ok.nmN kr (by omega);intro r hr;simp only [cP,al];exact oG (by decide +kernel) (ea (by decide)) (ft (.inl rfl) (oH vY (ea (by decide)) (ft (.inl rfl) (heq (cz.2 ⟨hp 0 _ (cL (by decide)),ft (.inl rfl) (oG (by decide +kernel) (ea (by decide)) (ft (.inl rfl) (hp 1 r hr)))⟩))))));refine je (fun h=>?_) (fun hn=>?_);(·intro r hr;simp only [cP,al];exact fu (by decide) (by decide) (cz.2 ⟨hp 0 _ (cL (by decide)),ft (.inl rfl) (mf (cz.2 ⟨hd _ (cL (by decide)),fu (by decide) (by decide) trivial⟩))⟩));refine je (fun h=>?_) (fun hn=>?_);(·intro r hr;simp only [cP,al];exact Kf (by decide +kernel) hT (cz.2 ⟨hp 0 _ (cL (by decide)),ft (.inl rfl) (oG (by decide +kernel) (ea (by decide)) (ft (.inl rfl) (cz.2 ⟨hp 1 _ (cL (by decide)),ft (.inl rfl) (oG (by decide +kernel) (ea (by decide)) (ft (.inl rfl) (hp 2 r hr)))⟩)))⟩));refine je (fun h=>?_) (fun hn=>?_);(·rw [h] at hf;cases hf;have FK:=ok.vrN kr;intro r hr;simp only [cP,al];exact Kf (by decide +kernel) hT (cz.2 ⟨hp 0 _ (cL (by decide)),ft (.inl rfl) (fu (by decide) (by decide) (cz.2 ⟨abV zK FK (fun p hp=>hP p (aug hp)) _ (cL (by decide)),fu (by decide) (by decide) trivial⟩))⟩));refine je (fun h=>?_) (fun hn=>?_);(·intro r hr;simp only [cP,al];(have hj:lW ((if P=[] then [] else .sp 32 :: jp uX P)++[fX [93]]) r:=by split;(·exact fu (by decide) (by decide) trivial);exact ft (.inl rfl) (cz.2 ⟨yE (fun x hx=>hP x hx) BH (fun r'=>cL (by decide)) (cL (by decide)),fu (by decide) (by decide) trivial⟩));exact fu (by decide) (by decide) (cz.2 ⟨hd _ (cL (by decide)),fu (by decide) (by decide) hj⟩));refine je (fun h=>?_) (fun hn=>?_);(·have htx:=ok.txN h;rw [h] at hf;cases hf;have vY:=ok.nmN kr (by omega);intro r hr;simp only [cP,al];exact Kf (by decide +kernel) hT (oH vY (ea (by decide)) (fu (by decide) (by decide) (ft (.inl rfl) (oH htx (ea (by decide)) (ft (.inl rfl) (oG (by decide +kernel) (ea (by decide)) (ft (.inl rfl) (cz.2 ⟨hp 0 _ (cL (by decide)),ft (.inl rfl) (oG (by decide +kernel) (ea (by decide)) (ft (.inl rfl) (cz.2 ⟨hp 1 _ (cL (by decide)),ft (.inl rfl) (fu (by decide) (by decide) (ft (.inl rfl) (hp 2 r hr)))⟩)))⟩)))))))));(have X4:x.kind=16:=by unfold mQ at hf;(repeat' split at hf);all_goals first|(simp at hf;done)|assumption|(exfalso;omega));have jv:=ok.xy X4;intro r hr;unfold Kd;dsimp only;split;(·simp only [cP,al];exact Yf jv (ft (.inl rfl) (BI (hp 0) hr)));simp only [cP,al];exact cz.2 ⟨BI (hp 0) (cL (by decide)),ft (.inl rfl) (Yf jv (ft (.inl rfl) (BI (hp 1) hr)))⟩
end Go.Proofs.YtfbbfmcggbapoaaGreatDoor
end
section
namespace Go.Proofs.YtfbbfmcggbapoaaGreatDoor
open Go.Eng
set_option maxHeartbeats 4000000
set_option maxRecDepth 100000
section
abbrev eL:=Int×List UInt8
abbrev PT (α:Type):=List eL→Option (α×List eL)
def bF (s:List UInt8):eL:=(6,s)
def fw (s:List UInt8):eL:=(5,s)
def oZ (s:List UInt8):ByteArray:=⟨s.toArray⟩
def Kg (l:List ByteArray) (s:ByteArray):Nat:=(l.takeWhile fun a=>zM a s).length
def pW {α:Type} (l:List α) (i:Nat) (x:α):List α:=l.take i++[x]++l.drop i
def Kh (opt:Bool) (l:List eL):Bool×List eL:=if opt=true∧l.head?=some (bF [63]) then (true,l.tail) else (false,l)
def SN (f:PT Ty) (sep close:List UInt8) (opt:Bool):Nat→List Fd→PT (List Fd)
 | 0,_,_=>none
 | n+1,out,l=>match l with
  | []=>none
  | (k,s) :: l1 =>
   if k=1 then
    if (out.map Fd.name)[Kg (out.map Fd.name) (oZ s)]?=some (oZ s) then none
    else match (Kh opt l1).2 with
     | []=>none
     | c :: l3=>if c=bF [58] then (match f l3 with
      | none=>none
      | some (t,l4)=>match l4 with
       | []=>none
       | d :: l5=>if d=bF sep then SN f sep close opt n (pW out (Kg (out.map Fd.name) (oZ s)) (.mk (oZ s) t (Kh opt l1).1)) l5
        else if d=bF close then some (pW out (Kg (out.map Fd.name) (oZ s)) (.mk (oZ s) t (Kh opt l1).1),l5) else none) else none
   else none
def E7 (f:PT Ty) (sep close:List UInt8) (opt:Bool) (n:Nat):PT (List Fd):=fun l =>
 if l.head?=some (bF close) then some ([],l.tail) else SN f sep close opt n [] l
def SO (f:PT Ty):Nat→List Ty→PT (List Ty)
 | 0,_,_=>none
 | n+1,out,l=>match f l with
  | none=>none
  | some (t,l1)=>match l1 with
   | []=>none
   | d :: l2=>if d=bF [44] then SO f n (out++[t]) l2 else if d=bF [93] then some (out++[t],l2) else none
def HZ (f:PT Ty) (n:Nat):PT (List Ty):=fun l=>if l.head?=some (bF [91]) then SO f n [] l.tail else some ([],l)
def sP (t:eL) {α:Type} (g:PT α):PT α:=fun l=>if l.head?=some t then g l.tail else none
def jy {α β:Type} (f:PT α) (g:α→PT β):PT β:=fun l=>match f l with
 | none=>none
 | some (a,r)=>g a r
def ret {α:Type} (a:α):PT α:=fun l=>some (a,l)
def Wh (f:PT Ty):PT Ty:=sP (bF [91]) (jy f fun t=>sP (bF [93]) (ret t))
def Ol (f:PT Ty) (n:Nat) (m:ByteArray):PT Ty:=fun l=>match l with
 | []=>none
 | (k,s) :: r=>if k=2 then jy (HZ f n) (fun ts=>ret (.mk 10 m (oZ s) ts [])) r else none
def yG (s:List UInt8):Option Int:=if s=[97,110,121] then some 0 else if s=[110,111,110,101] then some 1 else if s=[105,110,116] then some 2 else if s=[98,111,111,108] then some 3 else if s=[116,101,120,116] then some 4 else none
def o0:Nat→PT Ty
 | 0,_=>none
 | n+1,l=>match l with
  | []=>none
  | (k,s) :: r =>
   if k=5 then (match yG s with
    | some b=>some (.mk b ⟨#[]⟩ ⟨#[]⟩ [] [],r)
    | none=>if s=[108,105,115,116] then jy (Wh (o0 n)) (fun t=>ret (.mk 5 ⟨#[]⟩ ⟨#[]⟩ [t] [])) r
     else if s=[102,110] then sP (bF [40]) (jy (E7 (o0 n) [44] [41] true n) fun fs=>jy (o0 n) fun t=>ret (.mk 8 ⟨#[]⟩ ⟨#[]⟩ [t] fs)) r else none)
   else if k=6 then (if s=[123] then jy (E7 (o0 n) [44] [125] false n) (fun fs=>ret (.mk 6 ⟨#[]⟩ ⟨#[]⟩ [] fs)) r
    else if s=[60] then jy (E7 (o0 n) [124] [62] false n) (fun fs=>ret (.mk 7 ⟨#[]⟩ ⟨#[]⟩ [] fs)) r else none)
   else if k=1 then sP (bF [58,58]) (Ol (o0 n) n (oZ s)) r
   else if k=2 then Ol (o0 n) n ⟨#[]⟩ ((k,s) :: r) else none
theorem mT (s:ByteArray):oZ (bt s)=s:=by cases s;rfl
variable [ba]
theorem xQ:∀ {l:List ByteArray},kA l=0→l.Pairwise fun a b=>zM a b=true
 | [],_=>.nil
 | [a],_=>List.pairwise_singleton _ _
 | a :: b :: r,h=>by
  unfold kA at h;dsimp only at h
  by_cases h1:Fm a b=0
  ·rw [if_pos h1] at h
   have ih:=xQ h
   have ur:zM a b=true:=by
    unfold Fm at h1
    split at h1;· simp at h1
    rename_i dy
    split at h1;· simp at h1
    rename_i bQ
    have bQ:T7 b a=false:=by simpa using bQ
    have bQ:zM b a=false:=bQ
    cases hx:zM a b with
    | true=>rfl
    | false=>exact absurd (LN.tri a b hx bQ) dy
   refine aua.2 ⟨fun c hc=>?_,ih⟩
   rcases b8.1 hc with rfl|hc
   ·exact ur
   exact LN.trans a b c ur ((aua.1 ih).1 c hc)
  rw [if_neg h1] at h;exact absurd h h1
theorem tz {l:List ByteArray} {s:ByteArray} (h:∀ a∈l,zM a s=true):Kg l s=l.length:=by have:=au0 (l₂:=[]) (p:=fun a=>zM a s) h;unfold Kg;simp at this;rw [this]
theorem xR {α:Type} (l:List α) (x:α):pW l l.length x=l++[x]:=by simp [pW]
end
end Go.Proofs.YtfbbfmcggbapoaaGreatDoor
end
section
namespace Go.Proofs.YtfbbfmcggbapoaaGreatDoor
open Go.Eng
variable [ba]
set_option maxHeartbeats 4000000
set_option maxRecDepth 100000
def wY (r:List eL):Prop:=r.head?≠some (bF [91])
theorem Ki (g:Fd):dq g.pc=(1,bt g.name) :: ((if g.opt=true then [bF [63]] else [])++bF [58] :: dq g.ty.pc):=by unfold Fd.pc;simp only [cP,al];split <;> rfl
theorem BK (sp:List Pc) (x:List Pc) (r:List (List Pc)):dq (jp sp (x :: r))=dq x++r.flatMap fun y=>dq sp++dq y:=by
 have:∀ r:List (List Pc),dq (r.flatMap fun y=>sp++y)=r.flatMap fun y=>dq sp++dq y:=by intro r;induction r with|nil=>rfl|cons y r ih=>simp only [ab,cA,ih]
 show dq (x++_)=_;rw [cA,this]
theorem Fd.Kj (g:Fd):Fd.mk g.name g.ty g.opt=g:=by cases g;rfl
theorem abX {f:PT Ty} {sep close:List UInt8} {opt:Bool} (hsc:bF close≠bF sep) (hs:bF sep≠bF [91]) (hc:bF close≠bF [91]) :
  ∀ (q:List Fd) (g:Fd) (done:List Fd) (n:Nat) (rest:List eL),q.length<n→((done++g :: q).map Fd.name).Pairwise (fun a b=>zM a b=true) →
   (∀ h∈g :: q,(h.opt=true→opt=true)∧∀ rest,wY rest→f (dq h.ty.pc++rest)=some (h.ty,rest)) →
   SN f sep close opt n done (dq g.pc++((q.flatMap fun h=>bF sep :: dq h.pc)++bF close :: rest))=some (done++g :: q,rest):=by intro q;induction q with|nil =>(intro g done n rest hn hp hf;obtain⟨n,rfl⟩:∃ m,n=m+1:=⟨n-1,by simp at hn;omega⟩;obtain⟨ho,ht⟩:=hf g (by simp);(have bQ:∀ a∈done.map Fd.name,zM a g.name=true:=by rw [fF,kM] at hp;exact fun a ha=>hp.2.2 a ha g.name (by simp));have qU:=tz bQ;rw [ax] at qU;rw [Ki,aw];unfold SN;simp only [if_true,mT,qU];rw [if_neg (by rw [cH (by simp)];simp)];(have hq:Kh opt ((if g.opt=true then [bF [63]] else [])++bF [58] :: dq g.ty.pc++([]++bF close :: rest))=(g.opt,bF [58] :: (dq g.ty.pc++bF close :: rest)):=by unfold Kh;cases hg:g.opt with|true=>rw [if_pos ⟨ho hg,rfl⟩];simp|false=>rw [if_neg (by rintro⟨-,h⟩;simp [bF] at h)];simp);simp only [ag,hq,if_true];rw [ht _ (fun h=>hc (by simpa using h))];dsimp only;rw [if_neg hsc,if_pos rfl,← ax (f:=id),List.map_id,xR,Fd.Kj])|cons g2 q ih =>intro g done n rest hn hp hf;obtain⟨n,rfl⟩:∃ m,n=m+1:=⟨n-1,by simp at hn;omega⟩;obtain⟨ho,ht⟩:=hf g (by simp);(have bQ:∀ a∈done.map Fd.name,zM a g.name=true:=by rw [fF,kM] at hp;exact fun a ha=>hp.2.2 a ha g.name (by simp));have qU:=tz bQ;rw [ax] at qU;have Fg:=ih g2 (done++[g]) n rest (by simp at hn;omega) (by simpa using hp) (fun h hh=>hf h (bj _ hh));rw [Ki,aw];unfold SN;simp only [if_true,mT,qU];rw [if_neg (by rw [cH (by simp)];simp)];(have hq:Kh opt ((if g.opt=true then [bF [63]] else [])++bF [58] :: dq g.ty.pc++(((g2 :: q).flatMap fun h=>bF sep :: dq h.pc)++bF close :: rest))=(g.opt,bF [58] :: (dq g.ty.pc++(((g2 :: q).flatMap fun h=>bF sep :: dq h.pc)++bF close :: rest))):=by unfold Kh;cases hg:g.opt with|true=>rw [if_pos ⟨ho hg,rfl⟩];simp|false=>rw [if_neg (by rintro⟨-,h⟩;simp [bF] at h)];simp);simp only [hq,if_true];rw [ht _ (fun h=>hs (by simpa using h))];simp only [ab,aw,al,if_true];rw [xR,Fd.Kj];rw [Fg];simp
theorem Kk {f:PT Ty} {sep close:List UInt8} {opt:Bool} {sp:List Pc} (H9:dq sp=[bF sep]) (hsc:bF close≠bF sep) (hs:bF sep≠bF [91]) (hc:bF close≠bF [91])
  (fs:List Fd) (n:Nat) (rest:List eL) (hn:fs.length≤n) (hp:(fs.map Fd.name).Pairwise (fun a b=>zM a b=true))
  (hf:∀ h∈fs,(h.opt=true→opt=true)∧∀ rest,wY rest→f (dq h.ty.pc++rest)=some (h.ty,rest)) :
  E7 f sep close opt n (dq (jp sp (fs.map Fd.pc))++bF close :: rest)=some (fs,rest):=by cases fs with|nil=>unfold E7;exact if_pos rfl|cons g q =>have:=abX hsc hs hc q g [] n rest (by simp at hn;omega) (by simpa using hp) hf;unfold E7;rw [bm,BK,H9,atP,al];rw [if_neg (by rw [Ki];simp [bF])];simpa using this
theorem abY {f:PT Ty}:∀ (q:List Ty) (t:Ty) (done:List Ty) (n:Nat) (rest:List eL),q.length<n→(∀ u∈t :: q,∀ rest,wY rest→f (dq u.pc++rest)=some (u,rest)) →
  SO f n done (dq t.pc++((q.flatMap fun u=>bF [44] :: dq u.pc)++bF [93] :: rest))=some (done++t :: q,rest):=by intro q;induction q with|nil =>intro t done n rest hn hf;obtain⟨n,rfl⟩:∃ m,n=m+1:=⟨n-1,by simp at hn;omega⟩;unfold SO;rw [hf t (by simp) _ (by simp [wY,bF])];simp [bF]|cons u q ih =>intro t done n rest hn hf;obtain⟨n,rfl⟩:∃ m,n=m+1:=⟨n-1,by simp at hn;omega⟩;unfold SO;rw [hf t (by simp) _ (by simp [wY,bF])];simp only [ab,aw,al,if_true];rw [ih u (done++[t]) n rest (by simp at hn;omega) (fun v hv=>hf v (bj _ hv))];simp
theorem Kl {f:PT Ty} (ts:List Ty) (n:Nat) (rest:List eL) (hn:ts.length≤n) (hr:wY rest) (hf:∀ u∈ts,∀ rest,wY rest→f (dq u.pc++rest)=some (u,rest)) :
  HZ f n (dq (if ts.map Ty.pc=[] then [] else [fX [91]]++jp uX (ts.map Ty.pc)++[fX [93]])++rest)=some (ts,rest):=by cases ts with|nil=>unfold HZ;rw [if_pos (show ([].map Ty.pc:List (List Pc))=[] from rfl)];exact if_neg hr|cons t q =>rw [if_neg (show ¬ (t :: q).map Ty.pc=[] by simp),cA,cA,bm,BK,atP];have:=abY (f:=f) q t [] n rest (by simp at hn;omega) hf;unfold HZ;simp only [dq,al,aw,aC,aut,qL];rw [if_pos (show some ((6,[91]):eL)=some (bF [91]) from rfl)];simpa [bF] using this
structure ShE (t:Ty):Prop where
 mod:t.mod=⟨#[]⟩
 name:t.name=⟨#[]⟩
theorem Ty.Kj (t:Ty):Ty.mk t.kind t.mod t.name t.args t.bA=t:=by cases t;rfl
theorem agE {t:Ty} (h:tj t=0):Vt t=true:=by
 unfold tj at h;split at h;· simp at h
 rename_i h1;simpa using h1
theorem abZ {t:Ty} (h:tj t=0):kA (t.bA.map Fd.name)=0:=by
 unfold tj at h;split at h;· simp at h
 split at h;· simp at h
 split at h;· simp at h
 split at h;· simp at h
 exact h
theorem jk {α:Type} {l:List α} (h:l.length=0):l=[]:=by cases l with|nil=>rfl|cons a r=>simp at h
theorem BM {α:Type} {l:List α} (h:l.length=1):∃ a,l=[a]:=by match l,h with|[a],_=>exact⟨a,rfl⟩
theorem SP (n:Nat) (r:List eL) {k:Int} (h:k=0∨k=1∨k=2∨k=3∨k=4):o0 (n+1) ((5,LG k) :: r)=some (.mk k ⟨#[]⟩ ⟨#[]⟩ [] [],r):=by rcases h with rfl|rfl|rfl|rfl|rfl <;> (rw [o0];simp [yG,LG])
theorem SQ (n:Nat) (r:List eL):o0 (n+1) ((5,[108,105,115,116]) :: r)=jy (Wh (o0 n)) (fun t=>ret (.mk 5 ⟨#[]⟩ ⟨#[]⟩ [t] [])) r:=by rw [o0];simp [yG]
theorem ab0 (n:Nat) (r:List eL):o0 (n+1) ((5,[102,110]) :: r)=sP (bF [40]) (jy (E7 (o0 n) [44] [41] true n) fun fs=>jy (o0 n) fun t=>ret (.mk 8 ⟨#[]⟩ ⟨#[]⟩ [t] fs)) r:=by rw [o0];simp [yG]
theorem Wi (n:Nat) (r:List eL):o0 (n+1) ((6,[123]) :: r)=jy (E7 (o0 n) [44] [125] false n) (fun fs=>ret (.mk 6 ⟨#[]⟩ ⟨#[]⟩ [] fs)) r:=by rw [o0];simp [yG]
theorem Wj (n:Nat) (r:List eL):o0 (n+1) ((6,[60]) :: r)=jy (E7 (o0 n) [124] [62] false n) (fun fs=>ret (.mk 7 ⟨#[]⟩ ⟨#[]⟩ [] fs)) r:=by rw [o0];simp [yG]
theorem Wk (n:Nat) (s:List UInt8) (r:List eL):o0 (n+1) ((1,s) :: r)=sP (bF [58,58]) (Ol (o0 n) n (oZ s)) r:=by rw [o0];simp [yG]
theorem Wl (n:Nat) (s:List UInt8) (r:List eL):o0 (n+1) ((2,s) :: r)=Ol (o0 n) n ⟨#[]⟩ ((2,s) :: r):=by rw [o0];simp [yG]
theorem fI {t:eL} {α:Type} (g:PT α) (r:List eL):sP t g (t :: r)=g r:=if_pos rfl
theorem c8 {α β:Type} {f:PT α} {g:α→PT β} {l r:List eL} {a:α} (h:f l=some (a,r)):jy f g l=g a r:=by unfold jy;rw [h]
theorem Ty.rt:∀ (N:Nat) (t:Ty),t.size≤N→(∀ u∈t.nodes,tj u=0∧ek u.mod=false∧u.kind≠9)→∀ rest,wY rest→o0 N (dq t.pc++rest)=some (t,rest):=by intro N;induction N with|zero=>intro t h;have:=t.size_pos;omega|succ N ih =>intro t hN hn rest hr;have hs:=t.dG;have hlen:=t.fZ;rw [Ty.dU] at hn;obtain⟨h0,h1,h9⟩:=hn t (by simp);(have hp:∀ u∈t.parts,∀ rest,wY rest→o0 N (dq u.pc++rest)=some (u,rest):=fun u hu=>by obtain⟨i,hi⟩:=bB.1 hu;have:=bU Ty.size hi;exact ih u (by omega) fun v hv=>hn v (bj _ (e9.2 ⟨u,hu,hv⟩)));have hA:∀ u∈t.args,∀ rest,wY rest→o0 N (dq u.pc++rest)=some (u,rest):=fun u hu=>hp u (by simp [Ty.parts,hu]);have hF:∀ f∈t.bA,∀ rest,wY rest→o0 N (dq f.ty.pc++rest)=some (f.ty,rest):=fun f hf=>hp f.ty (by simp only [Ty.parts,eA,cQ];exact .inr ⟨f,hf,rfl⟩);have hI:=xQ (abZ h0);have lP:=agE h0;unfold Vt at lP;rw [aJ] at lP;obtain⟨jv,lP⟩:=lP;(have ud:t.kind≠8→∀ f∈t.bA,f.opt=true→False:=fun h8 f hf ho=>by simp only [h8,decide_false,bX,ej,km] at jv;exact jv f hf ho);have W2:t.kind≠8→∀ f∈t.bA,(f.opt=true→false=true)∧∀ rest,wY rest→o0 N (dq f.ty.pc++rest)=some (f.ty,rest):=fun h8 f hf=>⟨fun ho=>(ud h8 f hf ho).elim,hF f hf⟩;rw [Ty.jF];have he:=t.Kj;by_cases h5:t.kind=5;(·rw [if_pos h5];simp only [h5,iL,or_self,if_false,if_true,aJ,decide_eq_true_eq,jJ] at lP;obtain⟨⟨⟨e1,e2⟩,e3⟩,e4⟩:=lP;obtain⟨u,hu⟩:=BM e3;have h2:=hA u (by simp [hu]);(have et:t=Ty.mk 5 ⟨#[]⟩ ⟨#[]⟩ [u] []:=by rw [← he,hu,e1,e2,h5,jk e4]);rw [show ri t.args=u.pc by rw [hu];rfl];simp only [cP,al,dq,cA];rw [SQ];refine (c8 (a:=u) (r:=rest) ((fI _ _).trans ((c8 (h2 _ (by simp [wY,bF]))).trans (fI _ _)))).trans ?_;(conv=>rhs;rw [et]);rfl);rw [if_neg h5];by_cases h6:t.kind=6;(·rw [if_pos h6];simp only [h6,iL,or_self,or_true,true_or,if_false,if_true,aJ,decide_eq_true_eq,jJ] at lP;obtain⟨⟨e1,e2⟩,e3⟩:=lP;(have et:t=Ty.mk 6 ⟨#[]⟩ ⟨#[]⟩ [] t.bA:=by conv=>lhs;rw [← he,e1,e2,h6,jk e3]);have vh:=Kk (f:=o0 N) (sep:=[44]) (close:=[125]) (opt:=false) (sp:=uX) rfl (by decide) (by decide) (by decide) t.bA N rest (by omega) hI (W2 (by omega));simp only [cP,al,dq,cA];rw [Wi];refine (c8 vh).trans ?_;(conv=>rhs;rw [et]);rfl);rw [if_neg h6];by_cases h7:t.kind=7;(·rw [if_pos h7];simp only [h7,iL,or_self,or_true,true_or,if_false,if_true,aJ,decide_eq_true_eq,jJ] at lP;obtain⟨⟨e1,e2⟩,e3⟩:=lP;(have et:t=Ty.mk 7 ⟨#[]⟩ ⟨#[]⟩ [] t.bA:=by conv=>lhs;rw [← he,e1,e2,h7,jk e3]);have vh:=Kk (f:=o0 N) (sep:=[124]) (close:=[62]) (opt:=false) (sp:=[.sp 32,fX [124],.sp 32]) rfl (by decide) (by decide) (by decide) t.bA N rest (by omega) hI (W2 (by omega));simp only [cP,al,dq,cA];rw [Wj];refine (c8 vh).trans ?_;(conv=>rhs;rw [et]);rfl);rw [if_neg h7];by_cases h8:t.kind=8;(·rw [if_pos h8];simp only [h8,iL,or_self,if_false,if_true,aJ,decide_eq_true_eq,jJ] at lP;obtain⟨⟨e1,e2⟩,e3⟩:=lP;obtain⟨u,hu⟩:=BM e3;have h2:=hA u (by simp [hu]);(have et:t=Ty.mk 8 ⟨#[]⟩ ⟨#[]⟩ [u] t.bA:=by conv=>lhs;rw [← he,e1,e2,h8,hu]);have vh:=Kk (f:=o0 N) (sep:=[44]) (close:=[41]) (opt:=true) (sp:=uX) rfl (by decide) (by decide) (by decide) t.bA N (dq u.pc++rest) (by omega) hI (fun f hf=>⟨fun _=>rfl,hF f hf⟩);rw [show ri t.args=u.pc by rw [hu];rfl];simp only [cP,al,dq,cA];rw [ab0];refine (fI _ _).trans ((c8 vh).trans ((c8 (h2 _ hr)).trans ?_));(conv=>rhs;rw [et]);rfl);rw [if_neg h8];by_cases xe:t.kind=10;(·rw [if_pos xe];simp only [xe,iL,or_self,if_false,if_true,decide_eq_true_eq] at lP;have vh:=Kl (f:=o0 N) t.args N rest (by omega) hr hA;(have et:t=Ty.mk 10 t.mod (oZ (bt t.name)) t.args []:=by (conv=>lhs;rw [← he,xe,jk lP]);rw [mT]);(have key:Ol (o0 N) N t.mod ((2,bt t.name) :: (dq (if t.args.map Ty.pc=[] then [] else [fX [91]]++jp uX (t.args.map Ty.pc)++[fX [93]])++rest))=some (t,rest):=by unfold Ol;dsimp only;rw [if_pos rfl];refine (c8 vh).trans ?_;(conv=>rhs;rw [et]);rfl);unfold Sw;rw [al,cA];by_cases hm:t.mod=⟨#[]⟩;(·rw [if_pos hm];show o0 (N+1) ((2,bt t.name) :: (dq _++rest))=_;rw [Wl,← hm];exact key);rw [if_neg hm];show o0 (N+1) ((1,bt t.mod) :: bF [58,58] :: (2,bt t.name) :: (dq _++rest))=_;rw [Wk];refine (fI _ _).trans ?_;rw [mT];exact key);rw [if_neg xe];(have hk:t.kind=0∨t.kind=1∨t.kind=2∨t.kind=3∨t.kind=4:=by by_cases hk:t.kind=0∨t.kind=1∨t.kind=2∨t.kind=3∨t.kind=4;(·exact hk);simp only [hk,h5,h6,h7,h8,h9,xe,or_self,if_false] at lP;cases lP);rw [if_pos hk] at lP;simp only [aJ,decide_eq_true_eq,jJ] at lP;obtain⟨⟨⟨e1,e2⟩,e3⟩,e4⟩:=lP;(have et:t=Ty.mk t.kind ⟨#[]⟩ ⟨#[]⟩ [] []:=by conv=>lhs;rw [← he,e1,e2,jk e3,jk e4]);show o0 (N+1) ((5,LG t.kind) :: rest)=_;rw [SP N rest hk];conv=>rhs;rw [et]
end Go.Proofs.YtfbbfmcggbapoaaGreatDoor
end
section
namespace Go.Proofs.YtfbbfmcggbapoaaGreatDoor
open Go.Eng
set_option maxHeartbeats 4000000
set_option maxRecDepth 100000
def SR {α:Type} (g:ByteArray→PT α):PT α:=fun l=>match l with
  | []=>none
  | (k,s) :: r=>if k=1 then g (oZ s) r else none
def SS (mid:ByteArray→PT Lb) (f:PT Ex) (close:List UInt8):Nat→List Lb→List Ex→PT (List Lb×List Ex)
  | 0,_,_,_=>none
  | n+1,ls,ks,l=>match l with
    | []=>none
    | (k,s) :: l1 =>
      if k=1 then
        if (ls.map Lb.name)[Kg (ls.map Lb.name) (oZ s)]?=some (oZ s) then none
        else jy (mid (oZ s)) (fun lb=>jy f fun e l4=>match l4 with
          | []=>none
          | d :: l5=>if d=bF [44] then SS mid f close n (pW ls (Kg (ls.map Lb.name) (oZ s)) lb) (pW ks (Kg (ls.map Lb.name) (oZ s)) e) l5
            else if d=bF close then some ((pW ls (Kg (ls.map Lb.name) (oZ s)) lb,pW ks (Kg (ls.map Lb.name) (oZ s)) e),l5) else none) l1
      else none
def qX (mid:ByteArray→PT Lb) (f:PT Ex) (close:List UInt8) (n:Nat):PT (List Lb×List Ex):=fun l =>
  if l.head?=some (bF close) then some (([],[]),l.tail) else SS mid f close n [] [] l
def Wm:Ty:=.mk 0 ⟨#[]⟩ ⟨#[]⟩ [] []
def zEx:Ex:=.mk 0 ⟨#[]⟩ ⟨#[]⟩ ⟨#[]⟩ 0 [] [] []
def BN (n:ByteArray):PT Lb:=sP (bF [58]) (ret ⟨n,⟨#[]⟩,Wm,false⟩)
def E8 (n:ByteArray):PT Lb:=SR fun v=>sP (bF [61,62]) (ret ⟨n,v,Wm,false⟩)
def pFm (fT:PT Ty) (f:PT Ex):Nat→List Lb→List Ex→PT (List Lb×List Ex)
  | 0,_,_,_=>none
  | n+1,ls,ks,l=>match l with
    | []=>none
    | (k,s) :: l1 =>
      if k=1 then
        if (ls.map Lb.name)[Kg (ls.map Lb.name) (oZ s)]?=some (oZ s) then none
        else sP (bF [58]) (jy fT fun t l2=>jy (fun l=>if l.head?=some (bF [61]) then jy f (fun e=>ret (true,e)) l.tail else some ((false,zEx),l)) (fun oe l4=>match l4 with
          | []=>none
          | d :: l5=>if d=bF [44] then pFm fT f n (pW ls (Kg (ls.map Lb.name) (oZ s)) ⟨oZ s,⟨#[]⟩,t,oe.1⟩) (pW ks (Kg (ls.map Lb.name) (oZ s)) oe.2) l5
            else if d=bF [41] then some ((pW ls (Kg (ls.map Lb.name) (oZ s)) ⟨oZ s,⟨#[]⟩,t,oe.1⟩,pW ks (Kg (ls.map Lb.name) (oZ s)) oe.2),l5) else none) l2) l1
      else none
def wP (ls:List Lb) (ks:List Ex):List Ex:=((ls.zip ks).filter fun p=>p.1.opt).map Prod.snd
def SU (fT:PT Ty) (f:PT Ex) (n:Nat):PT (List Lb×List Ex):=fun l =>
  if l.head?=some (bF [41]) then some (([],[]),l.tail) else jy (pFm fT f n [] []) (fun p=>ret (p.1,wP p.1 p.2)) l
def H0 (f:PT Ex):Nat→List Ex→PT (List Ex)
  | 0,_,_=>none
  | n+1,out,l=>jy f (fun e l1=>match l1 with
    | []=>none
    | d :: l2=>if d=bF [44] then H0 f n (out++[e]) l2 else if d=bF [93] then some (out++[e],l2) else none) l
def y0:List UInt8→Int→Option Int
  | [],n=>some n
  | c :: r,n=>if n<(-9223372036854775808+((c.toNat:Int)-48)).tdiv 10 then none else y0 r (10*n-((c.toNat:Int)-48))
def Om (neg:Bool):PT Ex:=fun l=>match l with
  | []=>none
  | (k,s) :: r=>if k=3 then (match y0 s 0 with
    | none=>none
    | some n=>if neg=true then some (.mk 0 ⟨#[]⟩ ⟨#[]⟩ ⟨#[]⟩ n [] [] [],r) else if n = -9223372036854775808 then none else some (.mk 0 ⟨#[]⟩ ⟨#[]⟩ ⟨#[]⟩ (-n) [] [] [],r)) else none
def di (k:Int) (n:ByteArray) (ts:List Ty) (ls:List Lb) (ks:List Ex):Ex:=.mk k ⟨#[]⟩ n ⟨#[]⟩ 0 ts ls ks
def Km (fT:PT Ty) (n:Nat) (s:ByteArray):PT Ex:=fun l =>
  if l.head?=some (bF [58,58]) then SR (fun v=>jy (HZ fT n) fun ts=>ret (.mk 4 s v ⟨#[]⟩ 0 ts [] [])) l.tail
  else jy (HZ fT n) (fun ts=>ret (.mk (if ts=[] then 3 else 4) ⟨#[]⟩ s ⟨#[]⟩ 0 ts [] [])) l
def fL (fT:PT Ty) (f:PT Ex) (n:Nat):PT Ex:=fun l=>match l with
  | []=>none
  | (k,s) :: r =>
    if k=3 then Om false l else if k=4 then some (.mk 1 ⟨#[]⟩ ⟨#[]⟩ (oZ s) 0 [] [] [],r)
    else if k=5 then (if s=[116,114,117,101] then some (.mk 2 ⟨#[]⟩ ⟨#[]⟩ ⟨#[]⟩ 1 [] [] [],r) else if s=[102,97,108,115,101] then some (.mk 2 ⟨#[]⟩ ⟨#[]⟩ ⟨#[]⟩ 0 [] [] [],r) else none)
    else if k=1 then Km fT n (oZ s) r
    else if k=6 then
      (if s=[123] then jy (qX BN f [125] n) (fun p=>ret (di 5 ⟨#[]⟩ [] p.1 p.2)) r
       else if s=[60] then SR (fun v=>sP (bF [58]) (jy f fun e=>sP (bF [62]) (ret (di 7 v [] [] [e])))) r
       else if s=[91] then jy fT (fun t=>sP (bF [124]) fun l2=>if l2.head?=some (bF [93]) then some (di 14 ⟨#[]⟩ [t] [] [],l2.tail) else jy (H0 f n []) (fun es=>ret (di 14 ⟨#[]⟩ [t] [] es)) l2) r
       else if s=[40] then jy f (fun e l2=>if l2.head?=some (bF [58]) then jy fT (fun t=>sP (bF [41]) (ret (di 11 ⟨#[]⟩ [t] [] [e]))) l2.tail else sP (bF [41]) (ret e) l2) r
       else none)
    else none
def tO (f:PT Ex):Nat→Ex→PT Ex
  | 0,_,_=>none
  | n+1,e,l =>
    if l.head?=some (bF [46]) then SR (fun v=>tO f n (di 6 v [] [] [e])) l.tail
    else if l.head?=some (bF [40]) then jy (qX BN f [41] n) (fun p=>tO f n (di 9 ⟨#[]⟩ [] p.1 (e :: p.2))) l.tail
    else some (e,l)
def Yh (fT:PT Ty) (f:PT Ex) (n:Nat):PT Ex:=jy (fL fT f n) (tO f n)
def E9:ByteArray:=⟨#[108,101,110,103,116,104]⟩
def Fa:ByteArray:=⟨#[110,111,116]⟩
def OX (fT:PT Ty) (f:PT Ex) (n:Nat):Nat→PT Ex
  | 0,_=>none
  | m+1,l=>if l.head?=some (fw (bt E9)) then jy (OX fT f n m) (fun e=>ret (di 16 E9 [] [] [e])) l.tail
    else if l.head?=some (bF [45]) then Om true l.tail else Yh fT f n l
def wQ (ops:List eL) (g:PT Ex):Nat→Ex→PT Ex
  | 0,_,_=>none
  | m+1,e,l=>match l with
    | []=>some (e,[])
    | t :: r=>if t∈ops then jy g (fun e2=>wQ ops g m (di 16 (oZ t.2) [] [] [e,e2])) r else some (e,t :: r)
def SV (ops:List eL) (g:PT Ex) (e:Ex):PT Ex:=fun l=>match l with
  | []=>some (e,[])
  | t :: r=>if t∈ops then jy g (fun e2=>ret (di 16 (oZ t.2) [] [] [e,e2])) r else some (e,t :: r)
def pL5 (fT:PT Ty) (f:PT Ex) (n:Nat):PT Ex:=jy (OX fT f n n) (wQ [bF [42]] (OX fT f n n) n)
def pL4 (fT:PT Ty) (f:PT Ex) (n:Nat):PT Ex:=jy (pL5 fT f n) (wQ [bF [43],bF [45],bF [43,43]] (pL5 fT f n) n)
def pL3 (fT:PT Ty) (f:PT Ex) (n:Nat):PT Ex:=jy (pL4 fT f n) (SV [bF [61,61],bF [61,61,61],bF [60]] (pL4 fT f n))
def SX (fT:PT Ty) (f:PT Ex) (n:Nat):Nat→PT Ex
  | 0,_=>none
  | m+1,l=>if l.head?=some (fw (bt Fa)) then jy (SX fT f n m) (fun e=>ret (di 16 Fa [] [] [e])) l.tail else pL3 fT f n l
def pL1 (fT:PT Ty) (f:PT Ex) (n:Nat):PT Ex:=jy (SX fT f n n) (wQ [fw [97,110,100]] (SX fT f n n) n)
def pL0 (fT:PT Ty) (f:PT Ex) (n:Nat):PT Ex:=jy (pL1 fT f n) (wQ [fw [111,114]] (pL1 fT f n) n)
def qI (fT:PT Ty) (f:PT Ex) (n:Nat):PT Ex:=fun l=>match l with
  | []=>none
  | t :: r =>
    if t=fw [108,101,116] then SR (fun v=>sP (bF [61]) (jy f fun a=>sP (fw [105,110]) (jy f fun b=>ret (di 10 v [] [] [a,b])))) r
    else if t=fw [105,102] then jy (Wh fT) (fun ty=>jy f fun a=>sP (fw [116,104,101,110]) (jy f fun b=>sP (fw [101,108,115,101]) (jy f fun c=>ret (di 12 ⟨#[]⟩ [ty] [] [a,b,c])))) r
    else if t=fw [109,97,116,99,104] then jy (Wh fT) (fun ty=>jy f fun a=>sP (bF [123]) (jy (qX E8 f [125] n) fun p=>ret (di 13 ⟨#[]⟩ [ty] p.1 (a :: p.2)))) r
    else if t=fw [102,111,108,100] then jy (Wh fT) (fun ty=>SR fun x=>sP (bF [44]) (SR fun y=>sP (fw [105,110]) (jy f fun a=>sP (fw [102,114,111,109]) (jy f fun b=>sP (bF [61,62]) (jy f fun c=>ret (.mk 15 ⟨#[]⟩ x y 0 [ty] [] [a,b,c])))))) r
    else if t=fw [102,110] then sP (bF [40]) (jy (SU fT f n) fun p=>sP (bF [61,62]) (jy f fun e=>ret (di 8 ⟨#[]⟩ [] p.1 (p.2++[e])))) r
    else pL0 fT f n (t :: r)
def pEx:Nat→PT Ex
  | 0,_=>none
  | n+1,l=>qI (o0 n) (pEx n) n l
theorem H2:∀ (a b:List UInt8) (n:Int),y0 (a++b) n=(y0 a n).bind (y0 b)
 | [],b,n=>rfl
 | c :: r,b,n=>by
  rw [aw];unfold y0
  split
  ·rfl
  exact H2 r b _
theorem Mc (d:Nat) (h:d<10):((UInt8.ofNat (48+d)).toNat:Int)-48=d:=by
 have:(UInt8.ofNat (48+d)).toNat=48+d:=by simp;omega
 omega
theorem H3 (d:Nat) (h:d<10):(-9223372036854775808+(d:Int)).tdiv 10 = -((9223372036854775808-(d:Int)) / 10):=by rw [show (-9223372036854775808+(d:Int)) = -(9223372036854775808-(d:Int)) by omega,Int.neg_tdiv,Int.tdiv_eq_ediv_of_nonneg (by omega)]
theorem H4 (u:Nat) (h:u≤9223372036854775808):y0 (Lib.decDigits u) 0=some (-(u:Int)):=by induction u using Nat.strongRecOn with|_ u ih =>by_cases h0:u<10;(·rw [Lib.decDigits,dif_pos h0];unfold y0 y0;rw [Mc u h0,H3 u h0,if_neg (by omega)];simp);rw [Lib.decDigits,dif_neg h0,H2,ih (u / 10) (by omega) (by omega)];show y0 [_] _=_;unfold y0 y0;have hd:=Mc (u % 10) (by omega);rw [hd,H3 (u % 10) (by omega),if_neg (by omega)];congr 1;omega
theorem SY {n:Int} (h0:0≤n) (h1:n≤9223372036854775807) (rest:List eL):Om false ((3,Lib.decDigits n.toNat) :: rest)=some (.mk 0 ⟨#[]⟩ ⟨#[]⟩ ⟨#[]⟩ n [] [] [],rest):=by unfold Om;dsimp only;rw [if_pos rfl,H4 _ (by omega)];dsimp only;rw [if_neg (by decide),if_neg (by omega),Int.neg_neg,auP h0]
theorem SZ {n:Int} (h0:n<0) (h1 : -9223372036854775808≤n) (rest:List eL):Om true ((3,Lib.decDigits n.natAbs) :: rest)=some (.mk 0 ⟨#[]⟩ ⟨#[]⟩ ⟨#[]⟩ n [] [] [],rest):=by unfold Om;dsimp only;rw [if_pos rfl,H4 _ (by omega)];dsimp only;rw [if_pos rfl,show -(n.natAbs:Int)=n by omega]
end Go.Proofs.YtfbbfmcggbapoaaGreatDoor
end
section
namespace Go.Proofs.YtfbbfmcggbapoaaGreatDoor
open Go.Eng
variable [ba]
set_option maxHeartbeats 4000000
set_option maxRecDepth 100000
def S0:List eL:=[bF [46],bF [40],bF [42],bF [43],bF [45],bF [43,43],bF [61,61],bF [61,61,61],bF [60],fw [97,110,100],fw [111,114],bF [58,58],bF [91]]
def Cx (r:List eL):Prop:=∀ t,r.head?=some t→t ∉ S0
theorem gY {t:eL} {r:List eL} (h:t ∉ S0):Cx (t :: r):=fun d hd=>by simp at hd;rw [← hd];exact h
theorem kU {α:Type} {l:List α} {i:Nat} (h:i=l.length) (x:α):pW l i x=l++[x]:=by subst h;exact xR l x
theorem ab4 {mid:ByteArray→PT Lb} {f:PT Ex} {close:List UInt8} {mt:Lb→List eL} (mf:bF close≠bF [44]) (hx:bF close ∉ S0) :
  ∀ (q:List (Lb×Ex)) (g:Lb×Ex) (dl:List Lb) (dk:List Ex) (n:Nat) (rest:List eL),dl.length=dk.length→q.length<n →
   ((dl++(g :: q).map Prod.fst).map Lb.name).Pairwise (fun a b=>zM a b=true) →
   (∀ h∈g :: q,(∀ r,mid h.1.name (mt h.1++r)=some (h.1,r))∧∀ rest,Cx rest→f (dq h.2.pc++rest)=some (h.2,rest)) →
   SS mid f close n dl dk ((1,bt g.1.name) :: (mt g.1++(dq g.2.pc++((q.flatMap fun h=>bF [44] :: (1,bt h.1.name) :: (mt h.1++dq h.2.pc))++bF close :: rest))))=some ((dl++(g :: q).map Prod.fst,dk++(g :: q).map Prod.snd),rest):=by intro q;induction q with|nil =>intro g dl dk n rest hd hn hp hf;obtain⟨n,rfl⟩:∃ m,n=m+1:=⟨n-1,by simp at hn;omega⟩;obtain⟨hm,hk⟩:=hf g (by simp);(have bQ:∀ a∈dl.map Lb.name,zM a g.1.name=true:=by rw [fF,kM] at hp;exact fun a ha=>hp.2.2 a ha g.1.name (by simp));have qU:=tz bQ;rw [ax] at qU;unfold SS;simp only [if_true,mT,qU];rw [if_neg (by rw [cH (by simp)];simp)];refine (c8 (hm _)).trans ((c8 (hk _ (gY hx))).trans ?_);show (if bF close=bF [44] then _ else if bF close=bF close then _ else _)=_;rw [if_neg mf,if_pos rfl,kU rfl,kU hd];rfl|cons g2 q ih =>intro g dl dk n rest hd hn hp hf;obtain⟨n,rfl⟩:∃ m,n=m+1:=⟨n-1,by simp at hn;omega⟩;obtain⟨hm,hk⟩:=hf g (by simp);(have bQ:∀ a∈dl.map Lb.name,zM a g.1.name=true:=by rw [fF,kM] at hp;exact fun a ha=>hp.2.2 a ha g.1.name (by simp));have qU:=tz bQ;rw [ax] at qU;have Fg:=ih g2 (dl++[g.1]) (dk++[g.2]) n rest (by simp [hd]) (by simp at hn;omega) (by simpa using hp) (fun h hh=>hf h (bj _ hh));unfold SS;simp only [if_true,mT,qU];rw [if_neg (by rw [cH (by simp)];simp)];(have hc:bF [44] ∉ S0:=by decide);rw [ab,aw,aw];refine (c8 (hm _)).trans ((c8 (hk _ (gY hc))).trans ?_);show (if bF [44]=bF [44] then _ else _)=_;rw [if_pos rfl,kU rfl,kU hd];simp only [al,aw] at Fg ⊢;rw [Fg];simp
theorem ab5 {f:PT Ex}:∀ (q:List Ex) (t:Ex) (done:List Ex) (n:Nat) (rest:List eL),q.length<n→(∀ u∈t :: q,∀ rest,Cx rest→f (dq u.pc++rest)=some (u,rest)) →
  H0 f n done (dq t.pc++((q.flatMap fun u=>bF [44] :: dq u.pc)++bF [93] :: rest))=some (done++t :: q,rest):=by
 intro q;have h44:bF [44] ∉ S0:=by decide
 have h93:bF [93] ∉ S0:=by decide
 induction q with|nil =>intro t done n rest hn hf;obtain⟨n,rfl⟩:∃ m,n=m+1:=⟨n-1,by simp at hn;omega⟩;unfold H0;refine (c8 (hf t (by simp) _ (gY h93))).trans ?_;show (if bF [93]=bF [44] then _ else if bF [93]=bF [93] then _ else _)=_;rw [if_neg (by decide),if_pos rfl]|cons u q ih =>intro t done n rest hn hf;obtain⟨n,rfl⟩:∃ m,n=m+1:=⟨n-1,by simp at hn;omega⟩;have Fg:=ih u (done++[t]) n rest (by simp at hn;omega) (fun v hv=>hf v (bj _ hv));unfold H0;rw [ab,aw,aw];refine (c8 (hf t (by simp) _ (gY h44))).trans ?_;show (if bF [44]=bF [44] then _ else _)=_;rw [if_pos rfl];simp only [al,aw] at Fg ⊢;rw [Fg];simp
def fmT (h:Lb×Ex):List eL:=bF [58] :: (dq h.1.ty.pc++if h.1.opt=true then bF [61] :: dq h.2.pc else [])
theorem Lb.Kj (l:Lb) (h:l.var=⟨#[]⟩):Lb.mk l.name ⟨#[]⟩ l.ty l.opt=l:=by rw [← h]
theorem S2 {fT:PT Ty} {f:PT Ex} {h:Lb×Ex} {d:eL} {r:List eL} (hT:∀ rest,wY rest→fT (dq h.1.ty.pc++rest)=some (h.1.ty,rest)) (hk:h.1.opt=true→∀ rest,Cx rest→f (dq h.2.pc++rest)=some (h.2,rest)) (hz:h.1.opt=false→h.2=zEx) (hd:d=bF [44]∨d=bF [41])
  {α:Type} (G:Ty→Bool×Ex→PT α):sP (bF [58]) (jy fT fun t l2=>jy (fun l=>if l.head?=some (bF [61]) then jy f (fun e=>ret (true,e)) l.tail else some ((false,zEx),l)) (G t) l2) (fmT h++d :: r)=G h.1.ty (h.1.opt,h.2) (d :: r):=by
 have hdX:d ∉ S0:=by rcases hd with rfl|rfl <;> decide
 have amw:d≠bF [61]:=by rcases hd with rfl|rfl <;> decide
 have amx:d≠bF [91]:=by rcases hd with rfl|rfl <;> decide
 unfold fmT;rw [aw];refine (fI _ _).trans ?_;cases ho:h.1.opt with|true =>rw [if_pos rfl,al];refine (c8 (hT _ (by simp [wY,bF]))).trans ?_;refine (c8 (a:=(true,h.2)) (r:=d :: r) ?_);show (if some (bF [61])=some (bF [61]) then _ else _)=_;rw [if_pos rfl];exact c8 (hk ho _ (gY hdX))|false =>rw [if_neg (by simp),ah];refine (c8 (hT _ (by simpa [wY] using amx))).trans ?_;refine (c8 (a:=(false,h.2)) (r:=d :: r) ?_);show (if some d=some (bF [61]) then _ else _)=_;rw [if_neg (by simpa using amw),hz ho]
theorem agI {fT:PT Ty} {f:PT Ex}:∀ (q:List (Lb×Ex)) (g:Lb×Ex) (dl:List Lb) (dk:List Ex) (n:Nat) (rest:List eL),dl.length=dk.length→q.length<n →
   ((dl++(g :: q).map Prod.fst).map Lb.name).Pairwise (fun a b=>zM a b=true) →
   (∀ h∈g :: q,h.1.var=⟨#[]⟩∧(∀ rest,wY rest→fT (dq h.1.ty.pc++rest)=some (h.1.ty,rest))∧(h.1.opt=true→∀ rest,Cx rest→f (dq h.2.pc++rest)=some (h.2,rest))∧(h.1.opt=false→h.2=zEx)) →
   pFm fT f n dl dk ((1,bt g.1.name) :: (fmT g++((q.flatMap fun h=>bF [44] :: (1,bt h.1.name) :: fmT h)++bF [41] :: rest)))=some ((dl++(g :: q).map Prod.fst,dk++(g :: q).map Prod.snd),rest):=by intro q;induction q with|nil =>intro g dl dk n rest hd hn hp hf;obtain⟨n,rfl⟩:∃ m,n=m+1:=⟨n-1,by simp at hn;omega⟩;obtain⟨hv,hT,hk,hz⟩:=hf g (by simp);(have bQ:∀ a∈dl.map Lb.name,zM a g.1.name=true:=by rw [fF,kM] at hp;exact fun a ha=>hp.2.2 a ha g.1.name (by simp));have qU:=tz bQ;rw [ax] at qU;unfold pFm;simp only [if_true,mT,qU];rw [if_neg (by rw [cH (by simp)];simp)];rw [ag,aC];refine (S2 hT hk hz (.inr rfl) _).trans ?_;show (if bF [41]=bF [44] then _ else if bF [41]=bF [41] then _ else _)=_;rw [if_neg (by decide),if_pos rfl,kU rfl,kU hd,Lb.Kj _ hv];rfl|cons g2 q ih =>intro g dl dk n rest hd hn hp hf;obtain⟨n,rfl⟩:∃ m,n=m+1:=⟨n-1,by simp at hn;omega⟩;obtain⟨hv,hT,hk,hz⟩:=hf g (by simp);(have bQ:∀ a∈dl.map Lb.name,zM a g.1.name=true:=by rw [fF,kM] at hp;exact fun a ha=>hp.2.2 a ha g.1.name (by simp));have qU:=tz bQ;rw [ax] at qU;have Fg:=ih g2 (dl++[g.1]) (dk++[g.2]) n rest (by simp [hd]) (by simp at hn;omega) (by simpa using hp) (fun h hh=>hf h (bj _ hh));unfold pFm;simp only [if_true,mT,qU];rw [if_neg (by rw [cH (by simp)];simp)];rw [ab,aw,aw];refine (S2 hT hk hz (.inl rfl) _).trans ?_;show (if bF [44]=bF [44] then _ else _)=_;rw [if_pos rfl,kU rfl,kU hd,Lb.Kj _ hv];simp only [al,aw] at Fg ⊢;rw [Fg];simp
def Il (ops:List eL) (g:PT Ex) (l:List eL) (x:Ex) (c:Nat) (rest:List eL):Prop:=∀ m,c≤m→jy g (wQ ops g m) (l++rest)=wQ ops g (m-c) x rest
theorem wR {ops:List eL} {g:PT Ex} {l:List eL} {x:Ex} {rest:List eL} (h:g (l++rest)=some (x,rest)):Il ops g l x 0 rest:=fun m _=>c8 h
theorem wS {ops:List eL} {g:PT Ex} {la lb:List eL} {a b:Ex} {t:eL} {c:Nat} {rest:List eL} (ht:t∈ops) (ha:Il ops g la a c (t :: (lb++rest))) (hb:g (lb++rest)=some (b,rest)) :
  Il ops g (la++t :: lb) (di 16 (oZ t.2) [] [] [a,b]) (c+1) rest:=by intro m hm;rw [al,aw,ha m (by omega)];obtain⟨k,hk⟩:∃ k,m-c=k+1:=⟨m-c-1,by omega⟩;rw [hk,show m-(c+1)=k by omega];show (if t∈ops then _ else _)=_;rw [if_pos ht];exact c8 hb
theorem On {ops:List eL} {g:PT Ex} {m:Nat} {x:Ex} {rest:List eL} (h:∀ t,rest.head?=some t→t ∉ ops):wQ ops g (m+1) x rest=some (x,rest):=by cases rest with|nil=>rfl|cons t r=>exact if_neg (h t rfl)
theorem Oo {ops:List eL} {g:PT Ex} {x:Ex} {rest:List eL} (h:∀ t,rest.head?=some t→t ∉ ops):SV ops g x rest=some (x,rest):=by cases rest with|nil=>rfl|cons t r=>exact if_neg (h t rfl)
section
def n5 (ops:List eL) (r:List eL):Prop:=∀ t,r.head?=some t→t ∉ ops
theorem Oq {ops:List eL} {g:PT Ex} {l rest:List eL} {x:Ex} (h:g l=some (x,rest)) (hr:n5 ops rest):jy g (SV ops g) l=some (x,rest):=(c8 h).trans (Oo hr)
section
variable (fT:PT Ty) (f:PT Ex) (n:Nat)
theorem S3 {m:Nat} {x:Ex} {rest:List eL} (hr:n5 [bF [46],bF [40]] rest):tO f (m+1) x rest=some (x,rest):=by unfold tO;rw [if_neg (fun h=>hr _ h (by decide)),if_neg (fun h=>hr _ h (by decide))]
end
end
section
theorem uY {α:Type} (g:ByteArray→PT α) (s:ByteArray) (r:List eL):SR g ((1,bt s) :: r)=g s r:=by
 have:SR g ((1,bt s) :: r)=g (oZ (bt s)) r:=by unfold SR;exact if_pos rfl
 rw [this,mT]
section
variable (fT:PT Ty) (f:PT Ex) (n:Nat)
theorem Wn (s:List UInt8) (rest:List eL):fL fT f n ((4,s) :: rest)=some (.mk 1 ⟨#[]⟩ ⟨#[]⟩ (oZ s) 0 [] [] [],rest):=by simp [fL]
theorem Ot (rest:List eL):fL fT f n (fw [116,114,117,101] :: rest)=some (.mk 2 ⟨#[]⟩ ⟨#[]⟩ ⟨#[]⟩ 1 [] [] [],rest):=by simp [fL,fw]
theorem Kn (rest:List eL):fL fT f n (fw [102,97,108,115,101] :: rest)=some (.mk 2 ⟨#[]⟩ ⟨#[]⟩ ⟨#[]⟩ 0 [] [] [],rest):=by simp [fL,fw]
theorem S4 {i:Int} (h0:0≤i) (h1:i≤9223372036854775807) (rest:List eL):fL fT f n ((3,Lib.decDigits i.toNat) :: rest)=some (.mk 0 ⟨#[]⟩ ⟨#[]⟩ ⟨#[]⟩ i [] [] [],rest):=by unfold fL;dsimp only;rw [if_pos rfl];exact SY h0 h1 rest
theorem S5 {l rest:List eL} {x:Ex} (hf:f (l++bF [41] :: rest)=some (x,bF [41] :: rest)):fL fT f n (bF [40] :: (l++bF [41] :: rest))=some (x,rest):=by
 have e:fL fT f n (bF [40] :: (l++bF [41] :: rest))=jy f (fun e l2=>if l2.head?=some (bF [58]) then jy fT (fun t=>sP (bF [41]) (ret (di 11 ⟨#[]⟩ [t] [] [e]))) l2.tail else sP (bF [41]) (ret e) l2) (l++bF [41] :: rest):=by simp [fL,bF]
 rw [e];refine (c8 hf).trans ?_;show (if some (bF [41])=some (bF [58]) then _ else _)=_;rw [if_neg (by decide)];exact fI _ _
theorem S6 {l u rest:List eL} {x:Ex} {t:Ty} (hf:f (l++bF [58] :: (u++bF [41] :: rest))=some (x,bF [58] :: (u++bF [41] :: rest))) (hT:fT (u++bF [41] :: rest)=some (t,bF [41] :: rest)) :
  fL fT f n (bF [40] :: (l++bF [58] :: (u++bF [41] :: rest)))=some (di 11 ⟨#[]⟩ [t] [] [x],rest):=by
 have e:fL fT f n (bF [40] :: (l++bF [58] :: (u++bF [41] :: rest)))=jy f (fun e l2=>if l2.head?=some (bF [58]) then jy fT (fun t=>sP (bF [41]) (ret (di 11 ⟨#[]⟩ [t] [] [e]))) l2.tail else sP (bF [41]) (ret e) l2) (l++bF [58] :: (u++bF [41] :: rest)):=by simp [fL,bF]
 rw [e];refine (c8 hf).trans ?_;show (if some (bF [58])=some (bF [58]) then _ else _)=_;rw [if_pos rfl];exact (c8 hT).trans (fI _ _)
theorem S7 {l rest:List eL} {v:ByteArray} {x:Ex} (hf:f (l++bF [62] :: rest)=some (x,bF [62] :: rest)):fL fT f n (bF [60] :: (1,bt v) :: bF [58] :: (l++bF [62] :: rest))=some (di 7 v [] [] [x],rest):=by
 have e:fL fT f n (bF [60] :: (1,bt v) :: bF [58] :: (l++bF [62] :: rest))=SR (fun v=>sP (bF [58]) (jy f fun e=>sP (bF [62]) (ret (di 7 v [] [] [e])))) ((1,bt v) :: bF [58] :: (l++bF [62] :: rest)):=by simp [fL,bF]
 rw [e,uY];exact (fI _ _).trans ((c8 hf).trans (fI _ _))
end
end
section
section
variable (fT:PT Ty) (f:PT Ex) (n:Nat)
theorem ab7 {v:ByteArray} {a b:Ex} {la lb rest:List eL} (ha:f (la++fw [105,110] :: (lb++rest))=some (a,fw [105,110] :: (lb++rest))) (hb:f (lb++rest)=some (b,rest)) :
  qI fT f n (fw [108,101,116] :: (1,bt v) :: bF [61] :: (la++fw [105,110] :: (lb++rest)))=some (di 10 v [] [] [a,b],rest):=by unfold qI;dsimp only;rw [if_pos rfl,uY];exact (fI _ _).trans ((c8 ha).trans ((fI _ _).trans (c8 hb)))
theorem S8 {t:Ty} {lt rest:List eL} (hT:fT (lt++bF [93] :: rest)=some (t,bF [93] :: rest)):Wh fT (bF [91] :: (lt++bF [93] :: rest))=some (t,rest) :=
 (fI _ _).trans ((c8 hT).trans (fI _ _))
theorem ab8 {t:Ty} {a b c:Ex} {lt la lb lc rest:List eL} (hT:Wh fT (lt++(la++fw [116,104,101,110] :: (lb++fw [101,108,115,101] :: (lc++rest))))=some (t,la++fw [116,104,101,110] :: (lb++fw [101,108,115,101] :: (lc++rest))))
  (ha:f (la++fw [116,104,101,110] :: (lb++fw [101,108,115,101] :: (lc++rest)))=some (a,fw [116,104,101,110] :: (lb++fw [101,108,115,101] :: (lc++rest))))
  (hb:f (lb++fw [101,108,115,101] :: (lc++rest))=some (b,fw [101,108,115,101] :: (lc++rest))) (hc:f (lc++rest)=some (c,rest)) :
  qI fT f n (fw [105,102] :: (lt++(la++fw [116,104,101,110] :: (lb++fw [101,108,115,101] :: (lc++rest)))))=some (di 12 ⟨#[]⟩ [t] [] [a,b,c],rest):=by unfold qI;dsimp only;rw [if_neg (by decide),if_pos rfl];exact (c8 hT).trans ((c8 ha).trans ((fI _ _).trans ((c8 hb).trans ((fI _ _).trans (c8 hc)))))
theorem Wo {t:Ty} {x y:ByteArray} {a b c:Ex} {lt la lb lc rest:List eL} (hT:Wh fT (lt++(1,bt x) :: bF [44] :: (1,bt y) :: fw [105,110] :: (la++fw [102,114,111,109] :: (lb++bF [61,62] :: (lc++rest))))=some (t,(1,bt x) :: bF [44] :: (1,bt y) :: fw [105,110] :: (la++fw [102,114,111,109] :: (lb++bF [61,62] :: (lc++rest)))))
  (ha:f (la++fw [102,114,111,109] :: (lb++bF [61,62] :: (lc++rest)))=some (a,fw [102,114,111,109] :: (lb++bF [61,62] :: (lc++rest))))
  (hb:f (lb++bF [61,62] :: (lc++rest))=some (b,bF [61,62] :: (lc++rest))) (hc:f (lc++rest)=some (c,rest)) :
  qI fT f n (fw [102,111,108,100] :: (lt++(1,bt x) :: bF [44] :: (1,bt y) :: fw [105,110] :: (la++fw [102,114,111,109] :: (lb++bF [61,62] :: (lc++rest)))))=some (.mk 15 ⟨#[]⟩ x y 0 [t] [] [a,b,c],rest):=by unfold qI;dsimp only;rw [if_neg (by decide),if_neg (by decide),if_neg (by decide),if_pos rfl];refine (c8 hT).trans ?_;rw [uY];refine (fI _ _).trans ?_;rw [uY];exact (fI _ _).trans ((c8 ha).trans ((fI _ _).trans ((c8 hb).trans ((fI _ _).trans (c8 hc)))))
theorem Wp {m:Nat} {e:Ex} {v:ByteArray} {rest:List eL}:tO f (m+1) e (bF [46] :: (1,bt v) :: rest)=tO f m (di 6 v [] [] [e]) rest:=by
 conv=>lhs;unfold tO
 refine (if_pos rfl).trans ?_;exact uY _ _ _
theorem S9 {m:Nat} {e:Ex} {p:List Lb×List Ex} {l rest:List eL} (h:qX BN f [41] m (l++rest)=some (p,rest)):tO f (m+1) e (bF [40] :: (l++rest))=tO f m (di 9 ⟨#[]⟩ [] p.1 (e :: p.2)) rest:=by
 conv=>lhs;unfold tO
 refine (if_neg (show ¬ some (bF [40])=some (bF [46]) by decide)).trans ((if_pos rfl).trans ?_);exact c8 h
end
end
section
section
variable (fT:PT Ty) (f:PT Ex) (n:Nat)
theorem Ta {p:List Lb×List Ex} {l rest:List eL} (h:qX BN f [125] n l=some (p,rest)):fL fT f n (bF [123] :: l)=some (di 5 ⟨#[]⟩ [] p.1 p.2,rest):=by
 have e:fL fT f n (bF [123] :: l)=jy (qX BN f [125] n) (fun p=>ret (di 5 ⟨#[]⟩ [] p.1 p.2)) l:=by simp [fL,bF]
 rw [e];exact c8 h
theorem Ko {t:Ty} {lt rest:List eL} (hT:fT (lt++bF [124] :: bF [93] :: rest)=some (t,bF [124] :: bF [93] :: rest)):fL fT f n (bF [91] :: (lt++bF [124] :: bF [93] :: rest))=some (di 14 ⟨#[]⟩ [t] [] [],rest):=by
 have e:fL fT f n (bF [91] :: (lt++bF [124] :: bF [93] :: rest))=jy fT (fun t=>sP (bF [124]) fun l2=>if l2.head?=some (bF [93]) then some (di 14 ⟨#[]⟩ [t] [] [],l2.tail) else jy (H0 f n []) (fun es=>ret (di 14 ⟨#[]⟩ [t] [] es)) l2) (lt++bF [124] :: bF [93] :: rest):=by simp [fL,bF]
 rw [e];exact (c8 hT).trans ((fI _ _).trans (if_pos rfl))
theorem Kp {t:Ty} {es:List Ex} {lt l rest:List eL} (hT:fT (lt++bF [124] :: l)=some (t,bF [124] :: l)) (hl:l.head?≠some (bF [93])) (he:H0 f n [] l=some (es,rest)):fL fT f n (bF [91] :: (lt++bF [124] :: l))=some (di 14 ⟨#[]⟩ [t] [] es,rest):=by
 have e:fL fT f n (bF [91] :: (lt++bF [124] :: l))=jy fT (fun t=>sP (bF [124]) fun l2=>if l2.head?=some (bF [93]) then some (di 14 ⟨#[]⟩ [t] [] [],l2.tail) else jy (H0 f n []) (fun es=>ret (di 14 ⟨#[]⟩ [t] [] es)) l2) (lt++bF [124] :: l):=by simp [fL,bF]
 rw [e];exact (c8 hT).trans ((fI _ _).trans ((if_neg hl).trans (c8 he)))
theorem BO {s:ByteArray} {l:List eL}:fL fT f n ((1,bt s) :: l)=Km fT n s l:=by
 have e:fL fT f n ((1,bt s) :: l)=Km fT n (oZ (bt s)) l:=by simp [fL]
 rw [e,mT]
theorem Wq {s v:ByteArray} {ts:List Ty} {l rest:List eL} (h:HZ fT n l=some (ts,rest)):Km fT n s (bF [58,58] :: (1,bt v) :: l)=some (.mk 4 s v ⟨#[]⟩ 0 ts [] [],rest):=by unfold Km;refine (if_pos rfl).trans ((uY _ _ _).trans ?_);exact c8 h
theorem Me {s:ByteArray} {ts:List Ty} {l rest:List eL} (hl:l.head?≠some (bF [58,58])) (h:HZ fT n l=some (ts,rest)):Km fT n s l=some (.mk (if ts=[] then 3 else 4) ⟨#[]⟩ s ⟨#[]⟩ 0 ts [] [],rest):=by unfold Km;exact (if_neg hl).trans (c8 h)
end
end
section
section
variable (fT:PT Ty) (f:PT Ex) (n:Nat)
theorem Tb {t:Ty} {a:Ex} {p:List Lb×List Ex} {lt la l rest:List eL} (hT:Wh fT (lt++(la++bF [123] :: l))=some (t,la++bF [123] :: l)) (ha:f (la++bF [123] :: l)=some (a,bF [123] :: l)) (hp:qX E8 f [125] n l=some (p,rest)) :
  qI fT f n (fw [109,97,116,99,104] :: (lt++(la++bF [123] :: l)))=some (di 13 ⟨#[]⟩ [t] p.1 (a :: p.2),rest):=by unfold qI;dsimp only;rw [if_neg (by decide),if_neg (by decide),if_pos rfl];exact (c8 hT).trans ((c8 ha).trans ((fI _ _).trans (c8 hp)))
theorem agJ {b:Ex} {p:List Lb×List Ex} {l lb rest:List eL} (hp:SU fT f n l=some (p,bF [61,62] :: (lb++rest))) (hb:f (lb++rest)=some (b,rest)) :
  qI fT f n (fw [102,110] :: bF [40] :: l)=some (di 8 ⟨#[]⟩ [] p.1 (p.2++[b]),rest):=by unfold qI;dsimp only;rw [if_neg (by decide),if_neg (by decide),if_neg (by decide),if_neg (by decide),if_pos rfl];exact (fI _ _).trans ((c8 hp).trans ((fI _ _).trans (c8 hb)))
end
end
theorem sQ {α β γ:Type} (g:α→β→γ):∀ (a:List α) (b:List β),List.zipWith g a b=(a.zip b).map fun h=>g h.1 h.2
 | [],_=>by simp
 | _ :: _,[]=>by simp
 | x :: r,y :: s=>by simp [sQ g r s]
theorem zip_fst {α β:Type}:∀ {a:List α} {b:List β},a.length=b.length→(a.zip b).map Prod.fst=a
 | [],_,_=>by simp
 | _ :: _,[],h=>by simp at h
 | x :: r,y :: s,h=>by simp [zip_fst (a:=r) (b:=s) (by simpa using h)]
theorem Mf {α β:Type}:∀ {a:List α} {b:List β},a.length=b.length→(a.zip b).map Prod.snd=b
 | [],[],_=>by simp
 | [],_ :: _,h=>by simp at h
 | _ :: _,[],h=>by simp at h
 | x :: r,y :: s,h=>by simp [Mf (a:=r) (b:=s) (by simpa using h)]
theorem Mg {mid:ByteArray→PT Lb} {f:PT Ex} {close:List UInt8} {mt:Lb→List eL} {el:Lb×Ex→List Pc} (mf:bF close≠bF [44]) (hx:bF close ∉ S0) {ls:List Lb} {ks:List Ex} {n:Nat} {rest:List eL}
  (hlen:ls.length=ks.length) (hn:ls.length≤n) (hp:(ls.map Lb.name).Pairwise (fun a b=>zM a b=true)) (hel:∀ h∈ls.zip ks,dq (el h)=(1,bt h.1.name) :: (mt h.1++dq h.2.pc))
  (hm:∀ l∈ls,∀ r,mid l.name (mt l++r)=some (l,r)) (hf:∀ k∈ks,∀ rest,Cx rest→f (dq k.pc++rest)=some (k,rest)) :
  qX mid f close n (dq (jp uX ((ls.zip ks).map el))++bF close :: rest)=some ((ls,ks),rest):=by
 have h1:=zip_fst hlen;have h2:=Mf hlen;have hl:(ls.zip ks).length=ls.length:=by rw [← h1];simp
 generalize ls.zip ks=z at *;subst h1;subst h2;cases z with|nil=>unfold qX;exact if_pos rfl|cons g q =>(have hq:∀ q:List (Lb×Ex),(∀ h∈q,dq (el h)=(1,bt h.1.name) :: (mt h.1++dq h.2.pc))→(q.map el).flatMap (fun y=>dq uX++dq y)=q.flatMap fun h=>bF [44] :: (1,bt h.1.name) :: (mt h.1++dq h.2.pc):=by intro q;induction q with|nil=>intro _;rfl|cons h q ih =>intro hh;rw [bm,ab,ab,ih fun x hx=>hh x (by simp [hx]),hh h (by simp)];rfl);have key:=ab4 (mid:=mid) (f:=f) (close:=close) (mt:=mt) mf hx q g [] [] n rest rfl (by simp at hn;omega) (by simpa using hp) (fun h hh=>⟨hm h.1 (cQ.2 ⟨h,hh,rfl⟩),hf h.2 (cQ.2 ⟨h,hh,rfl⟩)⟩);rw [bm,BK,hel g (by simp),hq q fun h hh=>hel h (by simp [hh])];unfold qX;rw [if_neg (by simp [bF])];simp only [cP,al] at key ⊢;rw [key]
theorem ab9 {l:Lb} (h1:l.var=⟨#[]⟩) (h2:l.ty=Wm) (h3:l.opt=false) (r:List eL):BN l.name ([bF [58]]++r)=some (l,r):=by obtain⟨n,v,t,o⟩:=l;cases h1;cases h2;cases h3;exact fI _ _
theorem Wr {l:Lb} (h2:l.ty=Wm) (h3:l.opt=false) (r:List eL):E8 l.name ([(1,bt l.var),bF [61,62]]++r)=some (l,r):=by obtain⟨n,v,t,o⟩:=l;cases h2;cases h3;exact (uY _ _ _).trans (fI _ _)
theorem Yi {f:PT Ex} {close:List UInt8} (mf:bF close≠bF [44]) (hx:bF close ∉ S0) {ls:List Lb} {ks:List Ex} {n:Nat} {rest:List eL} (hlen:ls.length=ks.length) (hn:ls.length≤n) (hp:(ls.map Lb.name).Pairwise (fun a b=>zM a b=true))
  (hl:∀ l∈ls,l.var=⟨#[]⟩∧l.ty=Wm∧l.opt=false) (hf:∀ k∈ks,∀ rest,Cx rest→f (dq k.pc++rest)=some (k,rest)):qX BN f close n (dq (Kb ls (ks.map Ex.pc))++bF close :: rest)=some ((ls,ks),rest):=by unfold Kb;rw [zipWith_map,sQ];exact Mg (mt:=fun _=>[bF [58]]) mf hx hlen hn hp (fun h _=>rfl) (fun l hm r=>ab9 (hl l hm).1 (hl l hm).2.1 (hl l hm).2.2 r) hf
theorem aca {f:PT Ex} {close:List UInt8} (mf:bF close≠bF [44]) (hx:bF close ∉ S0) {ls:List Lb} {ks:List Ex} {n:Nat} {rest:List eL} (hlen:ls.length=ks.length) (hn:ls.length≤n) (hp:(ls.map Lb.name).Pairwise (fun a b=>zM a b=true))
  (hl:∀ l∈ls,l.ty=Wm∧l.opt=false) (hf:∀ k∈ks,∀ rest,Cx rest→f (dq k.pc++rest)=some (k,rest)):qX E8 f close n (dq (HP ls (ks.map Ex.pc))++bF close :: rest)=some ((ls,ks),rest):=by unfold HP;rw [zipWith_map,sQ];exact Mg (mt:=fun l=>[(1,bt l.var),bF [61,62]]) mf hx hlen hn hp (fun h _=>rfl) (fun l hm r=>Wr (hl l hm).1 (hl l hm).2 r) hf
section
def Kq:List eL:=[bF [58,58],bF [91]]
def o8:List eL:=[bF [46],bF [40]]++Kq
def o6:List eL:=[bF [42]]++o8
def o5:List eL:=[bF [43],bF [45],bF [43,43]]++o6
def o4:List eL:=[bF [61,61],bF [61,61,61],bF [60]]++o5
def o2:List eL:=[fw [97,110,100]]++o4
def o1:List eL:=[fw [111,114]]++o2
theorem Mh {a b:List eL} {r:List eL} (h:n5 a r) (hs:∀ t∈b,t∈a):n5 b r:=fun t ht hb=>h t ht (hs t hb)
theorem wT {a b r:List eL} (h:n5 (a++b) r):n5 a r:=Mh h fun t ht=>dD _ ht
theorem ui {a b r:List eL} (h:n5 (a++b) r):n5 b r:=Mh h fun t ht=>eP _ ht
theorem nS {a:List eL} {t:eL} {r:List eL} (h:t ∉ a):n5 a (t :: r):=fun d hd=>by simp at hd;rw [← hd];exact h
theorem agK {r:List eL} (h:Cx r):n5 o1 r:=fun t ht hm=>h t ht ((by decide:∀ t∈o1,t∈S0) t hm)
def Ud:List eL:=[fw [108,101,116],fw [105,102],fw [109,97,116,99,104],fw [102,111,108,100],fw [102,110],bF [93]]
structure RX (fT:PT Ty) (f:PT Ex) (n:Nat) (l:List eL) (x:Ex) (lv:Int) (s:Nat):Prop where
 hd:∃ t r,l=t :: r∧t ∉ Ud∧(4≤lv→t≠fw (bt Fa))∧(8≤lv→t≠fw (bt E9)∧t≠bF [45])
 p8:8≤lv→∀ rest,n5 Kq rest→∃ c d,c≤d∧d<s∧∀ m,d≤m→jy (fL fT f n) (tO f m) (l++rest)=tO f (m-c) x rest
 u7:7≤lv→∀ m,s≤m→∀ rest,n5 o8 rest→OX fT f n m (l++rest)=some (x,rest)
 s6:6≤lv→∀ rest,n5 o8 rest→∃ c,c<s∧Il [bF [42]] (OX fT f n n) l x c rest
 s5:5≤lv→∀ rest,n5 o6 rest→∃ c,c<s∧Il [bF [43],bF [45],bF [43,43]] (pL5 fT f n) l x c rest
 r4:4≤lv→∀ rest,n5 o4 rest→pL3 fT f n (l++rest)=some (x,rest)
 n3:3≤lv→∀ m,s≤m→∀ rest,n5 o4 rest→SX fT f n m (l++rest)=some (x,rest)
 s2:2≤lv→∀ rest,n5 o4 rest→∃ c,c<s∧Il [fw [97,110,100]] (SX fT f n n) l x c rest
 s1:1≤lv→∀ rest,n5 o2 rest→∃ c,c<s∧Il [fw [111,114]] (pL1 fT f n) l x c rest
section
variable {fT:PT Ty} {f:PT Ex} {n:Nat} {l:List eL} {x:Ex} {lv:Int} {s:Nat}
theorem nT {ops:List eL} {g:PT Ex} {c:Nat} {rest:List eL} (hs:s≤n) (hc:c<s) (h:Il ops g l x c rest) (hr:n5 ops rest):jy g (wQ ops g n) (l++rest)=some (x,rest):=by rw [h n (by omega)];obtain⟨m,hm⟩:∃ m,n-c=m+1:=⟨n-c-1,by omega⟩;rw [hm];exact On hr
theorem RX.r6 (h:RX fT f n l x lv s) (hs:s≤n) (hl:6≤lv) {rest:List eL} (hr:n5 o6 rest):pL5 fT f n (l++rest)=some (x,rest):=by obtain⟨c,h1,h2⟩:=h.s6 hl rest (ui hr);exact nT hs h1 h2 (wT hr)
theorem RX.r5 (h:RX fT f n l x lv s) (hs:s≤n) (hl:5≤lv) {rest:List eL} (hr:n5 o5 rest):pL4 fT f n (l++rest)=some (x,rest):=by obtain⟨c,h1,h2⟩:=h.s5 hl rest (ui hr);exact nT hs h1 h2 (wT hr)
theorem RX.r2 (h:RX fT f n l x lv s) (hs:s≤n) (hl:2≤lv) {rest:List eL} (hr:n5 o2 rest):pL1 fT f n (l++rest)=some (x,rest):=by obtain⟨c,h1,h2⟩:=h.s2 hl rest (ui hr);exact nT hs h1 h2 (wT hr)
theorem RX.r1 (h:RX fT f n l x lv s) (hs:s≤n) (hl:1≤lv) {rest:List eL} (hr:n5 o1 rest):pL0 fT f n (l++rest)=some (x,rest):=by obtain⟨c,h1,h2⟩:=h.s1 hl rest (ui hr);exact nT hs h1 h2 (wT hr)
theorem Tc {m:Nat} {l rest:List eL} {x:Ex} (hm:1≤m) (h1:l.head?≠some (fw (bt E9))) (h2:l.head?≠some (bF [45])) (h:Yh fT f n l=some (x,rest)):OX fT f n m l=some (x,rest):=by obtain⟨k,rfl⟩:∃ k,m=k+1:=⟨m-1,by omega⟩;unfold OX;rw [if_neg h1,if_neg h2];exact h
theorem acb {m:Nat} {l rest:List eL} {x:Ex} (hm:1≤m) (hl:l.head?≠some (fw (bt Fa))) (h:pL3 fT f n l=some (x,rest)):SX fT f n m l=some (x,rest):=by obtain⟨k,rfl⟩:∃ k,m=k+1:=⟨m-1,by omega⟩;unfold SX;rw [if_neg hl];exact h
theorem sR (nV:1≤s) (hs:s≤n) (hd:∃ t r,l=t :: r∧t ∉ Ud∧(4≤lv→t≠fw (bt Fa))∧(8≤lv→t≠fw (bt E9)∧t≠bF [45]))
  (h8:8≤lv→∀ rest,n5 Kq rest→∃ c d,c≤d∧d<s∧∀ m,d≤m→jy (fL fT f n) (tO f m) (l++rest)=tO f (m-c) x rest)
  (h7:lv=7→∀ m,s≤m→∀ rest,n5 o8 rest→OX fT f n m (l++rest)=some (x,rest))
  (h6:lv=6→∀ rest,n5 o8 rest→∃ c,c<s∧Il [bF [42]] (OX fT f n n) l x c rest)
  (h5:lv=5→∀ rest,n5 o6 rest→∃ c,c<s∧Il [bF [43],bF [45],bF [43,43]] (pL5 fT f n) l x c rest)
  (h4:lv=4→∀ rest,n5 o4 rest→pL3 fT f n (l++rest)=some (x,rest))
  (h3:lv=3→∀ m,s≤m→∀ rest,n5 o4 rest→SX fT f n m (l++rest)=some (x,rest))
  (h2:lv=2→∀ rest,n5 o4 rest→∃ c,c<s∧Il [fw [97,110,100]] (SX fT f n n) l x c rest)
  (h1:lv=1→∀ rest,n5 o2 rest→∃ c,c<s∧Il [fw [111,114]] (pL1 fT f n) l x c rest):RX fT f n l x lv s:=by
 obtain⟨t,r,hl,hk,ht4,ht8⟩:=hd;have hh:∀ rest,(l++rest).head?=some t:=fun rest=>by rw [hl];rfl
 have u7:7≤lv→∀ m,s≤m→∀ rest,n5 o8 rest→OX fT f n m (l++rest)=some (x,rest):=fun hl7 m hm rest hr=>by by_cases e:lv=7;(·exact h7 e m hm rest hr);(have VK:8≤lv:=by omega);obtain⟨c,d,Fl,hc,h⟩:=h8 VK rest (ui hr);refine Tc (by omega) (by rw [hh];simpa using (ht8 VK).1) (by rw [hh];simpa using (ht8 VK).2) ?_;show jy (fL fT f n) (tO f n) (l++rest)=_;rw [h n (by omega)];obtain⟨k,hk⟩:∃ k,n-c=k+1:=⟨n-c-1,by omega⟩;rw [hk];exact S3 f (wT hr)
 have s6:6≤lv→∀ rest,n5 o8 rest→∃ c,c<s∧Il [bF [42]] (OX fT f n n) l x c rest:=fun T9 rest hr=>by by_cases e:lv=6;(·exact h6 e rest hr);exact⟨0,by omega,wR (u7 (by omega) n hs rest hr)⟩
 have r6:6≤lv→∀ rest,n5 o6 rest→pL5 fT f n (l++rest)=some (x,rest):=fun T9 rest hr=>by obtain⟨c,q1,q2⟩:=s6 T9 rest (ui hr);exact nT hs q1 q2 (wT hr)
 have s5:5≤lv→∀ rest,n5 o6 rest→∃ c,c<s∧Il [bF [43],bF [45],bF [43,43]] (pL5 fT f n) l x c rest:=fun OT rest hr=>by by_cases e:lv=5;(·exact h5 e rest hr);exact⟨0,by omega,wR (r6 (by omega) rest hr)⟩
 have r5:5≤lv→∀ rest,n5 o5 rest→pL4 fT f n (l++rest)=some (x,rest):=fun OT rest hr=>by obtain⟨c,q1,q2⟩:=s5 OT rest (ui hr);exact nT hs q1 q2 (wT hr)
 have r4:4≤lv→∀ rest,n5 o4 rest→pL3 fT f n (l++rest)=some (x,rest):=fun Fq rest hr=>by by_cases e:lv=4;(·exact h4 e rest hr);exact Oq (r5 (by omega) rest (ui hr)) (wT hr)
 have n3:3≤lv→∀ m,s≤m→∀ rest,n5 o4 rest→SX fT f n m (l++rest)=some (x,rest):=fun B4 m hm rest hr=>by by_cases e:lv=3;(·exact h3 e m hm rest hr);exact acb (by omega) (by rw [hh];simpa using ht4 (by omega)) (r4 (by omega) rest hr)
 have s2:2≤lv→∀ rest,n5 o4 rest→∃ c,c<s∧Il [fw [97,110,100]] (SX fT f n n) l x c rest:=fun zJ rest hr=>by by_cases e:lv=2;(·exact h2 e rest hr);exact⟨0,by omega,wR (n3 (by omega) n hs rest hr)⟩
 have r2:2≤lv→∀ rest,n5 o2 rest→pL1 fT f n (l++rest)=some (x,rest):=fun zJ rest hr=>by obtain⟨c,q1,q2⟩:=s2 zJ rest (ui hr);exact nT hs q1 q2 (wT hr)
 have s1:1≤lv→∀ rest,n5 o2 rest→∃ c,c<s∧Il [fw [111,114]] (pL1 fT f n) l x c rest:=fun nn rest hr=>by by_cases e:lv=1;(·exact h1 e rest hr);exact⟨0,by omega,wR (r2 (by omega) rest hr)⟩
 exact⟨⟨t,r,hl,hk,ht4,ht8⟩,h8,u7,s6,s5,r4,n3,s2,s1⟩
theorem j9 (nV:1≤s) (hs:s≤n) {t:eL} {r:List eL} (hl:l=t :: r) (hk:t ∉ Ud∧t≠fw (bt Fa)∧t≠fw (bt E9)∧t≠bF [45]) (h:∀ rest,n5 Kq rest→fL fT f n (l++rest)=some (x,rest)):RX fT f n l x 9 s :=
 sR nV hs ⟨t,r,hl,hk.1,fun _=>hk.2.1,fun _=>hk.2.2⟩ (fun _ rest hr=>⟨0,0,by omega,by omega,fun m _=>c8 (h rest hr)⟩)
  (by omega) (by omega) (by omega) (by omega) (by omega) (by omega) (by omega)
theorem acd (nV:1≤s) (hs:s≤n) (h:∀ rest,Cx rest→f (l++rest)=some (x,rest)):RX fT f n (bF [40] :: (l++[bF [41]])) x 9 s :=
 j9 nV hs rfl (by decide) fun rest _=>by
  have:=S5 fT f n (h (bF [41] :: rest) (gY (by decide)))
  simpa only [al,aw,aC] using this
theorem RX.low (h:RX fT f n l x lv s) {lw:Int} (hw:lw≤lv):RX fT f n l x lw s :=
 ⟨by obtain⟨t,r,a,b,c,d⟩:=h.hd;exact⟨t,r,a,b,fun q=>c (by omega),fun q=>d (by omega)⟩,fun q=>h.p8 (by omega),fun q=>h.u7 (by omega),fun q=>h.s6 (by omega),fun q=>h.s5 (by omega),fun q=>h.r4 (by omega),fun q=>h.n3 (by omega),fun q=>h.s2 (by omega),fun q=>h.s1 (by omega)⟩
theorem BP {k:Ex} {p:List Pc} {least:Int} (nV:1≤s) (hs:s≤n) (h9:least≤9) (h:least≤lv→RX fT f n (dq p) k lv s) (hf:∀ rest,Cx rest→f (dq p++rest)=some (k,rest)):RX fT f n (dq (qG lv least p)) k least s:=by
 unfold qG;by_cases hl:least≤lv;·rw [if_pos hl];exact (h hl).low hl
 rw [if_neg hl];have e:dq ([fX [40]]++p++[fX [41]])=bF [40] :: (dq p++[bF [41]]):=by simp [cA,dq,bF]
 rw [e];exact (acd nV hs hf).low h9
end
end
end Go.Proofs.YtfbbfmcggbapoaaGreatDoor
end
