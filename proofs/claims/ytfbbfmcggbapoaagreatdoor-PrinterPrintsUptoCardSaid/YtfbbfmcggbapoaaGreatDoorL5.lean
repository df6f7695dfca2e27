import Derived.Test.YtfbbfmcggbapoaaGreatDoorL4
import Derived.Shelf.Strconv.Itoa3
import Derived.Lib.AppendIntMem
open Array renaming size_replicate->awI,toArray_toList->cJ,toList_inj->ake
open Bool renaming and_eq_true->aG,and_false->aO,and_self->o8,and_true->aJ,false_and->aP,false_eq_true->bw,false_or->aX,not_false->aK,not_true->aR,or_false->aT,or_self->bg,or_true->aZ,true_and->aL,true_or->a8
open Function renaming comp_def->aww
open Go.Proofs.Tryz renaming prog->ak
open Int renaming cast_ofNat_Int->bQ,le_refl->cn,natCast_nonneg->gV,toNat_natCast->gx,toNat_one->QZ,toNat_zero->bN
open List renaming all_append->mO,all_cons->cI,all_eq_true->ba,all_flatMap->avX,all_nil->ew,append_assoc->ay,append_nil->ai,cons_append->al,drop_drop->av2,drop_eq_getElem_cons->ed,drop_eq_nil_of_le->dq,drop_length->av8,drop_zero->ze,eq_nil_of_length_eq_zero->dn,filter_append->awc,flatMap_append->qq,flatMap_cons->ag,flatMap_nil->aj,getElem?_append_left->bz,getElem?_append_right->bm,getElem?_cons_succ->cu,getElem?_cons_zero->aI,getElem?_eq_some_iff->az,getElem?_map->ae,getElem?_zipWith->awg,headD_cons->a7,length_append->ab,length_cons->af,length_drop->eL,length_eq_zero_iff->b9,length_map->aC,length_nil->ah,length_take->eK,length_zipWith->aa2,lt_irrefl->avW,lt_trans->awk,map_cons->bo,map_drop->awj,mem_append_left->fT,mem_append_right->gO,mem_cons->dp,mem_cons_of_mem->bZ,mem_cons_self->cP,mem_flatMap->fU,mem_iff_getElem?->br,mem_map_of_mem->aa1,mem_of_getElem?->aw,mem_of_mem_drop->avV,nil_append->aq,not_all_eq_any_not->awP,not_mem_nil->ja,replicate_succ->aV,replicate_zero->aW,set_append_right->eR,set_cons_succ->ni,set_cons_zero->kP,tail_cons->n8,take_add_one->cg,take_append_drop->ji,take_left->rW,take_length->aE,take_of_length_le->b8,take_zero->dF
open Nat renaming add_assoc->eD,add_comm->VQ,add_sub_cancel_left->eC,add_zero->fI,le_refl->aA,lt_or_ge->bn,not_lt_zero->bR,pos_of_ne_zero->awx,sub_self->dW,zero_le->aY
open Option renaming getD_none->av5,isNone_none->aeX,map_eq_some_iff->bp
open Option.some renaming injEq->aD
open Std renaming lt_of_le_of_ne->awF
set_option linter.all false
set_option maxRecDepth 100000
set_option maxHeartbeats 4000000
section
namespace Go.Proofs.YtfbbfmcggbapoaaGreatDoor
open Go.Eng
variable [bJ]
section
structure Lin {α:Type} (lt:α->α->Bool):Prop where
 irrefl:∀ x,lt x x=false
 trans:∀ x y z,lt x y=true->lt y z=true->lt x z=true
 tri:∀ x y,lt x y=false->lt y x=false->x=y
section
variable {α:Type} [DecidableEq α] {lt:α->α->Bool}
end
end
section
attribute [local irreducible] runM gQ rv dv lX xm EC
theorem xW {α:Type} (l:List α) (f:α->V) (size:Nat) (hs:∀ a,(f a).cells.length=size) (i:Nat) (hi:i<=l.length) (mem:List bx):cutAt mem size (i:Int) none (.slice (l.map f))=some (.slice ((l.drop i).map f)):=by
 unfold cutAt;have h1:iM (l.map f) (i:Int).toNat size=true:=by unfold iM;split;(·rename_i h;rw [ae,bp] at h;obtain⟨t,-,rfl⟩:=h;simp [hs]);rfl
 dsimp only;rw [gH ⟨gV _,by simpa using hi,by simp,h1⟩];congr 2;rw [<- awj,gx];refine b8 ?_;simp only [av5,aC,eL];omega
end
section
def WX (x:Ex):Prop:=∀ v O,O.length+x.pr.length<=34359738368->∃ r m,WR O x.pr [] r m/\bK ak 45 [.ptr 0 0,ca x] (bM 129 v O []) r m
theorem wex {x:Ex} (h:WX x) {v:Nat} {O:List UInt8} (hO:O.length+x.pr.length<=34359738368) (l:List bx):∃ r m,WR O x.pr l r m/\bK ak 45 [.ptr 0 0,.agg (xM x)] (.ox 129 1 v O.length :: .pq 5 v O :: l) r m:=by have h:=h v O hO;simp only [aS,aH,ax,aM] at h;exact uC h (by simp [aQ,bC]) _
theorem ahE (x:Ex):Cn 198 [.agg (xM x)] (num x.lvl):=by have h:=TN x;simp only [aS,aH,ax,aM] at h;exact h
def jD:List (List UInt8)->List g6->List UInt8
 | _,[]=>[]
 | P,s :: r=>if s=⟨#[]⟩ then P.headD []++jD P.tail r else bt s++jD P r
def pg:List g6->Nat
 | []=>0
 | s :: r=>if s=⟨#[]⟩ then pg r+1 else pg r
theorem kK (P:List (List UInt8)) (r:List g6):jD P (⟨#[]⟩ :: r)=P.headD []++jD P.tail r:=by rw [jD,gH rfl]
theorem fg {P:List (List UInt8)} {s:g6} {r:List g6} (h:¬ s=⟨#[]⟩):jD P (s :: r)=bt s++jD P r:=by rw [jD,g5 h]
theorem kL (r:List g6):pg (⟨#[]⟩ :: r)=pg r+1:=by rw [pg,gH rfl]
theorem fh {s:g6} {r:List g6} (h:¬ s=⟨#[]⟩):pg (s :: r)=pg r:=by rw [pg,g5 h]
theorem TO {s:g6} (h:¬ s=⟨#[]⟩):0<s.size:=awx fun e=>h (TG e)
theorem G0 {α:Type} {l:List α} {i:Nat} {x:α} (h:l[i]?=some x):l.drop i=x :: l.drop (i+1):=by obtain⟨h1,h2⟩:=az.1 h;rw [ed h1,h2]
section
attribute [local go_sem] aC bM
theorem tR (x:Ex) (hX:WX x) (least:Int) (v:Nat) (O:List UInt8) (hO:O.length+(ku x.lvl least x.pr).length<=34359738368):∃ r_ m_,(WR O (ku x.lvl least x.pr) []) r_ m_/\bK ak 115 [.ptr 0 0,.agg (xM x),num least] (bM 129 v O []) r_ m_:=by
 refine ma [] 22 [] 2 Tryz.func115 Tryz.call115 fun K hK=>?_;simp only [bM];simp only [go_sem];refine cL (ahE x) ?_;simp only [go_sem];apply bE <;> intro kj;·(have hle:least<=x.lvl:=by simpa using kj);(have hp:ku x.lvl least x.pr=x.pr:=by unfold ku;rw [gH hle]);rw [hp] at hO;simp only [go_sem];refine cW (wex hX (by omega) _) ?_;rintro _ _ ⟨rfl,O2,v2,tQ,rfl⟩;simp only [go_sem];exact hK _ _ ⟨rfl,_,_,by rw [hp];first|exact k7|(simp only [*,ag,aj,ai,aN,ay,al,aq]),rfl⟩
 have hle:¬ least<=x.lvl:=by simpa using kj
 have hp:ku x.lvl least x.pr=[40]++x.pr++[41]:=by unfold ku;rw [g5 hle]
 have ec:=hO;rw [hp] at ec;simp only [ag,aj,ai,aN,ab,af,ah] at ec;simp only [go_sem];refine cW (mf (cO [⟨#[40]⟩] (by simp) (jz (by decide) ml) _ _ (by simp only [ag,aj,ai,aN,ab,af,ah];omega)) _ 1 rfl rfl (fun _=>rfl) rfl) ?_;rintro _ _ ⟨rfl,O3,v3,uF,rfl⟩;have D2:=yJ List.length uF;simp only [ag,aj,ai,aN,ab,af,ah] at D2;simp only [go_sem];refine cW (wex hX (by omega) _) ?_;rintro _ _ ⟨rfl,O4,v4,D3,rfl⟩;have JQ:=yJ List.length D3;simp only [ag,aj,ai,aN,ab,af,ah] at JQ;simp only [go_sem];refine cW (mf (cO [⟨#[41]⟩] (by simp) (jz (by decide) ml) _ _ (by simp only [ag,aj,ai,aN,ab,af,ah];omega)) _ 2 rfl rfl (fun _=>rfl) rfl) ?_;rintro _ _ ⟨rfl,O5,v5,TI,rfl⟩;have XM:=yJ List.length TI;simp only [ag,aj,ai,aN,ab,af,ah] at XM;simp only [go_sem];exact hK _ _ ⟨rfl,_,_,by rw [hp];first|exact k7|(simp only [*,ag,aj,ai,aN,ay,al,aq]),rfl⟩
theorem l6 (ks:List Ex) (yE:ks.length<=1048576) (hW:∀ k∈ks,WX k) (l:List g6) (hl:l.length<=1048576) (hc:pg l<=ks.length) (v:Nat) (O:List UInt8) (hO:O.length+(jD (ks.map Ex.pr) l).length<=34359738368):∃ r_ m_,(WR O (jD (ks.map Ex.pr) l) [.rows 0 1 (l.map str)]) r_ m_/\bK ak 116 [.ptr 0 0,.slice (ks.map ca),.ms 2 0 0 l.length] (bM 129 v O [.rows 0 1 (l.map str)]) r_ m_:=by
 refine ma [] 28 [] 3 Tryz.func116 Tryz.call116 fun K hK=>?_;simp only [bM];simp only [go_sem];refine ij tt_ok [] (fun a:Nat×Nat×List UInt8×List Ex=>[(0,.ptr 0 0),(1,.slice (a.2.2.2.map ca)),(8,.ms 2 0 0 l.length),(9,num l.length),(10,num a.1)]) (fun a:Nat×Nat×List UInt8×List Ex=>bM 129 a.2.1 a.2.2.1 [.rows 0 1 (l.map str)]) (fun a=>l.length-a.1) (fun a=>a.1<=l.length/\a.2.2.1++jD (a.2.2.2.map Ex.pr) (l.drop a.1)=O++jD (ks.map Ex.pr) l/\(∀ k∈a.2.2.2,WX k)/\pg (l.drop a.1)<=a.2.2.2.length/\a.2.2.2.length<=1048576) ((0,v,O,ks)) 3 (da (by omega) (by simp only [bQ,go_sem] <;> rfl)) (⟨aY _,by rw [ze],hW,by rw [ze];exact hc,yE⟩) ?_;rintro⟨i,va,Oa,K⟩ ⟨hi,lE,Qn,G1,TP⟩;try dsimp only at hi lE Qn G1 TP
 try dsimp only [bM]
 intro Z1 dm;simp only [go_sem];apply bE <;> intro ql;·have bH:=jq ql;have hw:=bj i (by omega);obtain⟨s,Qo⟩:=gA bH;(have bF:(i:Int)<(l.length:Int):=by omega);rw [G0 Qo] at lE G1;have uP:=yJ List.length lE;rw [ab,ab] at uP;simp only [hw,ae,Qo,bF,cY,go_sem];apply bE <;> intro mc;(·have Qp:s=⟨#[]⟩:=qB mc;subst Qp;rw [kK] at lE uP;rw [kL] at G1;(obtain⟨k,K2,rfl⟩:∃ k K2,K=k :: K2:=by cases K with|nil=>simp at G1|cons k K2=>exact⟨k,K2,rfl⟩);have hWk:=Qn k (cP ..);have ZQ:((k :: K2).map Ex.pr).headD []=k.pr:=rfl;have Lp:((k :: K2).map Ex.pr).tail=K2.map Ex.pr:=rfl;rw [ZQ,Lp] at lE uP;rw [ab] at uP;(have hcut:∀ mem,cutAt mem 8 1 none (.slice (.agg (xM k) :: K2.map ca))=some (.slice (K2.map ca)):=fun mem=>by have h:=xW (k :: K2) ca 8 uA 1 (by simp) mem;simp only [bo,aS,aH,ax,aM] at h;exact h);simp only [hw,ae,Qo,bF,cY,hcut,bo,aI,cn,bN,aS,aH,ax,aM,go_sem];refine cW (wex hWk (by omega) _) ?_;rintro _ _ ⟨rfl,Oy,vy,jV,rfl⟩;simp only [hw,ae,Qo,bF,cY,hcut,bo,aI,cn,bN,aS,aH,ax,aM,go_sem];refine dm _ ⟨(i+1,vy,Oy,K2),?_,?_,da (by omega) (by simp only [hw,go_sem])⟩;(·exact⟨bH,by rw [<- lE,jV];simp only [dD,ag,aj,ai,aN,ay],by first|exact fun k hk=>Qn k (bZ _ hk)|exact Qn,by first|exact G1|(simp only [af] at G1;dsimp only;omega),by first|exact TP|(simp only [af] at TP;dsimp only;omega)⟩);dsimp only;omega);have Qp:¬ s=⟨#[]⟩:=k9 mc;rw [fg Qp] at lE uP;rw [fh Qp] at G1;obtain⟨K2,rfl⟩:=gy K;rw [ab] at uP;simp only [hw,ae,Qo,bF,cY,go_sem];refine cW (mf (cO [s] (by simp) (jz (TO Qp) ml) _ _ (by simp only [ag,aj,ai,aN,ab,af,ah];omega)) _ 1 rfl rfl (fun _=>rfl) rfl) ?_;rintro _ _ ⟨rfl,Oy,vy,jV,rfl⟩;simp only [hw,ae,Qo,bF,cY,go_sem];refine dm _ ⟨(i+1,vy,Oy,K2),?_,?_,da (by omega) (by simp only [hw,go_sem])⟩;(·exact⟨bH,by rw [<- lE,jV];simp only [dD,ag,aj,ai,aN,ay],by first|exact fun k hk=>Qn k (bZ _ hk)|exact Qn,by first|exact G1|(simp only [af] at G1;dsimp only;omega),by first|exact TP|(simp only [af] at TP;dsimp only;omega)⟩);dsimp only;omega
 have fP:=ki ql;have jx:i=l.length:=by omega
 rw [jx,av8] at lE;have hOf:Oa=O++jD (ks.map Ex.pr) l:=by rw [<- lE];simp [jD]
 simp only [go_sem];exact hK _ _ ⟨rfl,_,_,hOf,rfl⟩
theorem CT (ks:List Ex) (yE:ks.length<=1048576) (hW:∀ k∈ks,WX k) (l:List g6) (hl:l.length<=1048576) (hc:pg l<=ks.length) (v:Nat) (O:List UInt8) (hO:O.length+(jD (ks.map Ex.pr) l).length<=34359738368):∃ r_ m_,(WR O (jD (ks.map Ex.pr) l) []) r_ m_/\bK ak 116 [.ptr 0 0,.slice (ks.map ca),.slice (l.map str)] (bM 129 v O []) r_ m_:=by
 refine ma [] 28 [] 2 Tryz.func116 Tryz.call116 fun K hK=>?_;simp only [bM];simp only [go_sem];refine ij tt_ok [] (fun a:Nat×Nat×List UInt8×List Ex=>[(0,.ptr 0 0),(1,.slice (a.2.2.2.map ca)),(8,.slice (l.map str)),(9,num l.length),(10,num a.1)]) (fun a:Nat×Nat×List UInt8×List Ex=>bM 129 a.2.1 a.2.2.1 []) (fun a=>l.length-a.1) (fun a=>a.1<=l.length/\a.2.2.1++jD (a.2.2.2.map Ex.pr) (l.drop a.1)=O++jD (ks.map Ex.pr) l/\(∀ k∈a.2.2.2,WX k)/\pg (l.drop a.1)<=a.2.2.2.length/\a.2.2.2.length<=1048576) ((0,v,O,ks)) 2 (da (by omega) (by simp only [bQ,go_sem] <;> rfl)) (⟨aY _,by rw [ze],hW,by rw [ze];exact hc,yE⟩) ?_;rintro⟨i,va,Oa,K⟩ ⟨hi,lE,Qn,G1,TP⟩;try dsimp only at hi lE Qn G1 TP
 try dsimp only [bM]
 intro Z1 dm;simp only [go_sem];apply bE <;> intro ql;·have bH:=jq ql;have hw:=bj i (by omega);obtain⟨s,Qo⟩:=gA bH;(have bF:(i:Int)<(l.length:Int):=by omega);rw [G0 Qo] at lE G1;have uP:=yJ List.length lE;rw [ab,ab] at uP;simp only [hw,ae,Qo,bF,cY,go_sem];apply bE <;> intro mc;(·have Qp:s=⟨#[]⟩:=qB mc;subst Qp;rw [kK] at lE uP;rw [kL] at G1;(obtain⟨k,K2,rfl⟩:∃ k K2,K=k :: K2:=by cases K with|nil=>simp at G1|cons k K2=>exact⟨k,K2,rfl⟩);have hWk:=Qn k (cP ..);have ZQ:((k :: K2).map Ex.pr).headD []=k.pr:=rfl;have Lp:((k :: K2).map Ex.pr).tail=K2.map Ex.pr:=rfl;rw [ZQ,Lp] at lE uP;rw [ab] at uP;(have hcut:∀ mem,cutAt mem 8 1 none (.slice (.agg (xM k) :: K2.map ca))=some (.slice (K2.map ca)):=fun mem=>by have h:=xW (k :: K2) ca 8 uA 1 (by simp) mem;simp only [bo,aS,aH,ax,aM] at h;exact h);simp only [hw,ae,Qo,bF,cY,hcut,bo,aI,cn,bN,aS,aH,ax,aM,go_sem];refine cW (wex hWk (by omega) _) ?_;rintro _ _ ⟨rfl,Oy,vy,jV,rfl⟩;simp only [hw,ae,Qo,bF,cY,hcut,bo,aI,cn,bN,aS,aH,ax,aM,go_sem];refine dm _ ⟨(i+1,vy,Oy,K2),?_,?_,da (by omega) (by simp only [hw,go_sem])⟩;(·exact⟨bH,by rw [<- lE,jV];simp only [dD,ag,aj,ai,aN,ay],by first|exact fun k hk=>Qn k (bZ _ hk)|exact Qn,by first|exact G1|(simp only [af] at G1;dsimp only;omega),by first|exact TP|(simp only [af] at TP;dsimp only;omega)⟩);dsimp only;omega);have Qp:¬ s=⟨#[]⟩:=k9 mc;rw [fg Qp] at lE uP;rw [fh Qp] at G1;obtain⟨K2,rfl⟩:=gy K;rw [ab] at uP;simp only [hw,ae,Qo,bF,cY,go_sem];refine cW (mf (cO [s] (by simp) (jz (TO Qp) ml) _ _ (by simp only [ag,aj,ai,aN,ab,af,ah];omega)) _ 0 rfl rfl (fun _=>rfl) rfl) ?_;rintro _ _ ⟨rfl,Oy,vy,jV,rfl⟩;simp only [hw,ae,Qo,bF,cY,go_sem];refine dm _ ⟨(i+1,vy,Oy,K2),?_,?_,da (by omega) (by simp only [hw,go_sem])⟩;(·exact⟨bH,by rw [<- lE,jV];simp only [dD,ag,aj,ai,aN,ay],by first|exact fun k hk=>Qn k (bZ _ hk)|exact Qn,by first|exact G1|(simp only [af] at G1;dsimp only;omega),by first|exact TP|(simp only [af] at TP;dsimp only;omega)⟩);dsimp only;omega
 have fP:=ki ql;have jx:i=l.length:=by omega
 rw [jx,av8] at lE;have hOf:Oa=O++jD (ks.map Ex.pr) l:=by rw [<- lE];simp [jD]
 simp only [go_sem];exact hK _ _ ⟨rfl,_,_,hOf,rfl⟩
end
end
section
theorem ZZ {ls:List Lb} {P:List (List UInt8)} {g:Lb->List UInt8->List UInt8} {i:Nat} {x:List UInt8} (h:(List.zipWith g ls P)[i]?=some x):∃ l p,ls[i]?=some l/\P[i]?=some p/\x=g l p:=by rw [awg] at h;cases h1:ls[i]? with|none=>rw [h1] at h;cases h|some l =>cases h2:P[i]? with|none=>rw [h1,h2] at h;cases h|some p=>rw [h1,h2] at h;cases h;exact⟨l,p,rfl,rfl,rfl⟩
theorem TQ {ks:List Ex} {i:Nat} {p:List UInt8} (h:(ks.map Ex.pr)[i]?=some p):∃ k,ks[i]?=some k/\p=k.pr:=by rw [ae,bp] at h;obtain⟨k,hk,rfl⟩:=h;exact⟨k,hk,rfl⟩
theorem xX {ks:List Ex} {i:Nat} {k:Ex} (h:ks[i]?=some k):((ks.drop i).map Ex.pr).headD []=k.pr:=by rw [G0 h];rfl
theorem N2 (ks:List Ex) (i:Nat) (hi:i<=ks.length) (mem:List bx):cutAt mem 8 (i:Int) none (.slice (ks.map ca))=some (.slice ((ks.drop i).map ca)):=xW ks ca 8 uA i hi mem
section
attribute [local go_sem] aC ae bM cr au ax aB al aq
theorem Mm (ls:List Lb) (ks:List Ex) (V9:ls.length<=1048576) (yE:ks.length<=1048576) (hW:∀ k∈ks,WX k) (i:Nat) (a:Lb) (k:Ex) (Ay:ls[i]?=some a) (dd:ks[i]?=some k) (hn:0<a.name.size) (v:Nat) (O:List UInt8) (hO:O.length+(bt a.name++[58,32]++k.pr).length<=34359738368):∃ r_ m_,(WR O (bt a.name++[58,32]++k.pr) [.box [.ptr 0 0],.box [.slice (ls.map cr)],.box [.slice (ks.map ca)]]) r_ m_/\bK ak 197 [num i,.ptr 2 0,.ptr 4 0,.ptr 3 0] (bM 129 v O [.box [.ptr 0 0],.box [.slice (ls.map cr)],.box [.slice (ks.map ca)]]) r_ m_:=by
 refine ma [] 16 [] 5 Tryz.func197 Tryz.call197 fun K hK=>?_;simp only [bM];have bH:=(az.1 Ay).1;have bF:(i:Int)<(ls.length:Int):=by omega
 have hik:=(az.1 dd).1;have hcut:=N2 ks i (by omega);have ec:=hO;simp only [ag,aj,ai,aN,ab,af,ah] at ec;have dI:¬ a.name=⟨#[]⟩:=by intro e;rw [e] at hn;exact absurd hn (by decide)
 have Du:(ks.drop i).length=ks.length-i:=eL;have si:jD ((ks.drop i).map Ex.pr) [a.name,⟨#[58,32]⟩,⟨#[]⟩]=bt a.name++[58,32]++k.pr:=by rw [fg dI,fg (by decide),kK,jD];rw [xX dd];simp only [dD,ag,aj,ai,aN,ay]
 simp only [Ay,bF,hcut,go_sem];refine lr [pR,pR,pN,j2 [1,2],pR,pN,j2 [4,5],pM [4,5,6],j2 [4,5,6,7],pM [4,5,6,7,8],⟨.z,0,[],[0,1,2,3,4,5,6,7,8,9],[]⟩] 0 ?_;simp only [Ay,bF,hcut,go_sem];refine yL (uC (CT (ks.drop i) (by omega) (fun k hk=>hW k (avV hk)) [a.name,⟨#[58,32]⟩,⟨#[]⟩] (by simp) (by rw [fh dI,fh (by decide),kL,pg];omega) _ _ (by rw [si];simp only [ag,aj,ai,aN,ab,af,ah];omega)) (by simp [aQ,bC]) _) ?_;rintro _ _ ⟨rfl,O1,v1,k7,rfl⟩;rw [si] at k7;have oc:=yJ List.length k7;simp only [ag,aj,ai,aN,ab,af,ah] at oc;simp only [Ay,bF,hcut,go_sem];exact hK _ _ ⟨rfl,_,_,k7,rfl⟩
end
section
attribute [local go_sem] aC ae bM aS aH ax aM
theorem TR (x:Ex) (yE:x.kids.length<=1048576) (i:Nat) (k:Ex) (Ay:x.kids[i]?=some k) (hX:WX k) (v:Nat) (O:List UInt8) (hO:O.length+k.pr.length<=34359738368):∃ r_ m_,(WR O k.pr [.box [.ptr 0 0],.box (xM x)]) r_ m_/\bK ak 119 [num i,.ptr 2 0,.ptr 3 0] (bM 129 v O [.box [.ptr 0 0],.box (xM x)]) r_ m_:=by
 refine ma [] 11 [] 4 Tryz.func119 Tryz.call119 fun K hK=>?_;simp only [bM];have bH:=(az.1 Ay).1;have bF:(i:Int)<(x.kids.length:Int):=by omega
 simp only [Ay,bF,go_sem];refine lr [pR,pN,j2 [1],pN,j2 [1,2,3],j2 [1,2,3,4],⟨.z,0,[],[0,1,2,3,4,5],[]⟩] 0 ?_;simp only [Ay,bF,go_sem];refine yL (wex hX (by omega) _) ?_;rintro _ _ ⟨rfl,O1,v1,k7,rfl⟩;simp only [Ay,bF,go_sem];exact hK _ _ ⟨rfl,_,_,k7,rfl⟩
end
section
attribute [local go_sem] aC ae bM cr au ax aB al aq
theorem XQ (x:Ex) (V9:x.labels.length<=1048576) (yE:x.kids.length<=1048576) (hW:∀ k∈x.kids,WX k) (i:Nat) (a:Lb) (k:Ex) (Ay:x.labels[i]?=some a) (dd:x.kids[i+1]?=some k) (hn:0<a.name.size) (hvv:0<a.var.size) (v:Nat) (O:List UInt8) (hO:O.length+(bt a.name++[32]++bt a.var++[32,61,62,32]++k.pr).length<=34359738368):∃ r_ m_,(WR O (bt a.name++[32]++bt a.var++[32,61,62,32]++k.pr) [.box [.ptr 0 0],.box (xM x)]) r_ m_/\bK ak 201 [num i,.ptr 2 0,.ptr 3 0] (bM 129 v O [.box [.ptr 0 0],.box (xM x)]) r_ m_:=by
 refine ma [] 24 [] 4 Tryz.func201 Tryz.call201 fun K hK=>?_;simp only [bM];have bH:=(az.1 Ay).1;have bF:(i:Int)<(x.labels.length:Int):=by omega
 have hik:=(az.1 dd).1;have hw:=bj i (by omega);have hcut:=N2 x.kids (i+1) (by omega);have ec:=hO;simp only [ag,aj,ai,aN,ab,af,ah] at ec;have dI:¬ a.name=⟨#[]⟩:=by intro e;rw [e] at hn;exact absurd hn (by decide)
 have hnv:¬ a.var=⟨#[]⟩:=by intro e;rw [e] at hvv;exact absurd hvv (by decide)
 have Du:(x.kids.drop (i+1)).length=x.kids.length-(i+1):=eL;have si:jD ((x.kids.drop (i+1)).map Ex.pr) [a.name,⟨#[32]⟩,a.var,⟨#[32,61,62,32]⟩,⟨#[]⟩]=bt a.name++[32]++bt a.var++[32,61,62,32]++k.pr:=by rw [fg dI,fg (by decide),fg hnv,fg (by decide),kK,jD];rw [xX dd];simp only [dD,ag,aj,ai,aN,ay]
 simp only [Ay,bF,hw,hcut,go_sem];refine lr [pR,pN,j2 [1],pN,pM [3],j2 [1,2,3,4],pN,j2 [6],pN,j2 [6,7,8],pM [6,7,8,9],j2 [6,7,8,9,10],pN,j2 [12],pN,j2 [12,13,14],pM [12,13,14,15],j2 [12,13,14,15,16],pM [6,7,8,9,10,11,12,13,14,15,16,17],⟨.z,0,[],[0,1,2,3,4,5,6,7,8,9,10,11,12,13,14,15,16,17,18],[]⟩] 0 ?_;simp only [Ay,bF,hw,hcut,go_sem];refine yL (uC (CT (x.kids.drop (i+1)) (by omega) (fun k hk=>hW k (avV hk)) [a.name,⟨#[32]⟩,a.var,⟨#[32,61,62,32]⟩,⟨#[]⟩] (by simp) (by rw [fh dI,fh (by decide),fh hnv,fh (by decide),kL,pg];omega) _ _ (by rw [si];simp only [ag,aj,ai,aN,ab,af,ah];omega)) (by simp [aQ,bC]) _) ?_;rintro _ _ ⟨rfl,O1,v1,k7,rfl⟩;rw [si] at k7;have oc:=yJ List.length k7;simp only [ag,aj,ai,aN,ab,af,ah] at oc;simp only [Ay,bF,hw,hcut,go_sem];exact hK _ _ ⟨rfl,_,_,k7,rfl⟩
end
theorem ahF {ls:List Lb} {ks:List Ex} (V9:ls.length<=1048576) (yE:ks.length<=1048576) (hW:∀ k∈ks,WX k) (hn:∀ a∈ls,0<a.name.size):∀ (i:Nat) (x:List UInt8),(List.zipWith (fun (l:Lb) p=>bt l.name++[58,32]++p) ls (ks.map Ex.pr))[i]?=some x->∀ v O,O.length+x.length<=34359738368->∃ r m,WR O x [.box [.ptr 0 0],.box [.slice (ls.map cr)],.box [.slice (ks.map ca)]] r m/\bK ak 197 (num i :: [.ptr 2 0,.ptr 4 0,.ptr 3 0]) (bM 129 v O [.box [.ptr 0 0],.box [.slice (ls.map cr)],.box [.slice (ks.map ca)]]) r m:=by intro i x hx v O hO;obtain⟨l,p,h1,h2,rfl⟩:=ZZ hx;obtain⟨k,h3,rfl⟩:=TQ h2;exact Mm ls ks V9 yE hW i l k h1 h3 (hn l (aw h1)) v O hO
def nP (ls:List Lb) (i:Nat):Nat:=((ls.take i).filter Lb.opt).length
theorem Qq {ls:List Lb} {i:Nat} {a:Lb} (h:ls[i]?=some a):nP ls (i+1)=nP ls i+(if a.opt=true then 1 else 0):=by unfold nP;rw [cg,h,awc,ab];cases ho:a.opt <;> simp [ho]
theorem XR (ls:List Lb) (i:Nat):nP ls i<=fR ls:=by unfold nP fR;exact (List.Sublist.filter _ (List.take_sublist i ls)).length_le
theorem TS:∀ (ls:List Lb) (P:List (List UInt8)),(A7 ls P).length=ls.length
 | [],_=>rfl
 | l :: r,P=>by unfold A7;split <;> simp [TS r]
theorem TU:∀ (ls:List Lb) (P:List (List UInt8)) (i:Nat) (x:List UInt8),(A7 ls P)[i]?=some x->∃ l,ls[i]?=some l/\x=if l.opt=true then bt l.name++[58,32]++l.ty.pr++[32,61,32]++(P.drop (nP ls i)).headD [] else bt l.name++[58,32]++l.ty.pr
 | [],P,i,x,h=>by simp [A7] at h
 | l :: r,P,0,x,h=>by
  refine⟨l,rfl,?_⟩
  unfold A7 at h
  split at h <;> (simp only [aI,aD] at h;subst h) <;> simp [nP, *]
 | l :: r,P,i+1,x,h=>by
  unfold A7 at h
  by_cases ho:l.opt=true
  ·rw [gH ho,cu] at h
   obtain⟨a,h1,h2⟩:=TU r P.tail i x h
   refine⟨a,h1,?_⟩
   have e:nP (l :: r) (i+1)=nP r i+1:=by simp [nP,ho]
   rw [h2,e]
   cases P <;> simp
  rw [g5 ho,cu] at h
  obtain⟨a,h1,h2⟩:=TU r P i x h
  refine⟨a,h1,?_⟩
  have e:nP (l :: r) (i+1)=nP r i:=by simp [nP,ho]
  rw [h2,e]
def N3 (x:Ex) (i:Nat):List V:=[.slice ((x.kids.drop (nP x.labels i)).map ca)]
theorem E7 (ls:List Lb) (ks:List Ex) (V9:ls.length<=1048576) (yE:ks.length<=1048576) (Z0:ls.length<=ks.length) (hW:∀ k∈ks,WX k) (hn:∀ a∈ls,0<a.name.size) (v:Nat) (O:List UInt8) (hO:O.length+(NU ls (ks.map Ex.pr)).length<=34359738368):∃ r_ m_,(WR O (NU ls (ks.map Ex.pr)) []) r_ m_/\bK ak 114 [.ptr 0 0,.slice (ls.map cr),.slice (ks.map ca)] (bM 129 v O []) r_ m_:=by refine ma [] 11 [] 2 Tryz.func114 Tryz.call114 fun K hK=>?_;simp only [bM];simp only [aC,bM,go_sem];refine cW (wf3 (y1 197 [.ptr 2 0,.ptr 4 0,.ptr 3 0] (List.zipWith (fun (l:Lb) p=>bt l.name++[58,32]++p) ls (ks.map Ex.pr)) _ (by rw [aa2,aC];omega) V9 ⟨#[44,32]⟩ (by decide) [.ptr 0 0] [.slice (ls.map cr)] (fun _=>[.slice (ks.map ca)]) rfl rfl rfl (fun _=>rfl) (ahF V9 yE hW hn) _ _ hO) rfl rfl rfl _) ?_;rintro _ _ ⟨rfl,O1,v1,k7,rfl⟩;simp only [aC,bM,go_sem];exact hK _ _ ⟨rfl,_,_,k7,rfl⟩
section
attribute [local go_sem] aC ae bM N3 cr au ax aB al aq
theorem Mn (x:Ex) (V9:x.labels.length<=1048576) (yE:x.kids.length<=1048576) (hW:∀ k∈x.kids,WX k) (hoc:fR x.labels<=x.kids.length) (i:Nat) (a:Lb) (Ay:x.labels[i]?=some a) (hn:0<a.name.size) (hT:WT a.ty) (v:Nat) (O:List UInt8) (hO:O.length+(if a.opt=true then bt a.name++[58,32]++a.ty.pr++[32,61,32]++((x.kids.map Ex.pr).drop (nP x.labels i)).headD [] else bt a.name++[58,32]++a.ty.pr).length<=34359738368):∃ r_ m_,(WR O (if a.opt=true then bt a.name++[58,32]++a.ty.pr++[32,61,32]++((x.kids.map Ex.pr).drop (nP x.labels i)).headD [] else bt a.name++[58,32]++a.ty.pr) [.box [.ptr 0 0],.box (xM x),.box (N3 x (i+1))]) r_ m_/\bK ak 199 [num i,.ptr 2 0,.ptr 3 0,.ptr 4 0] (bM 129 v O [.box [.ptr 0 0],.box (xM x),.box (N3 x i)]) r_ m_:=by
 refine ma [] 34 [] 5 Tryz.func199 Tryz.call199 fun K hK=>?_;simp only [bM,N3];have bH:=(az.1 Ay).1;have bF:(i:Int)<(x.labels.length:Int):=by omega
 have nj:=Qq Ay;have pE:=XR x.labels (i+1);have ec:O.length+((bt a.name).length+(2+a.ty.pr.length))<=34359738368:=by revert hO;split <;> (intro hO;simp only [ab,af,ah] at hO;omega)
 simp only [Ay,bF,go_sem];refine lr [pR,pN,j2 [1],pN,j2 [1,2,3],pM [1,2,3,4],j2 [1,2,3,4,5],pM [1,2,3,4,5,6],⟨.z,0,[],[0,1,2,3,4,5,6,7],[]⟩] 0 ?_;simp only [Ay,bF,go_sem];refine yL (uC (oZ [a.name,⟨#[58,32]⟩] (by simp) (jz hn (jz (by decide) ml)) _ _ (by simp only [ag,aj,ai,aN,ab,af,ah];omega)) rfl _) ?_;rintro _ _ ⟨rfl,O1,v1,k7,rfl⟩;have oc:=yJ List.length k7;simp only [ag,aj,ai,aN,ab,af,ah] at oc;simp only [Ay,bF,go_sem];refine lr [pR,pN,j2 [1],pN,j2 [1,2,3],pM [1,2,3,4],j2 [1,2,3,4,5],⟨.z,0,[],[0,1,2,3,4,5,6],[]⟩] 0 ?_;simp only [Ay,bF,go_sem];refine yL (JP (hT) (by omega) _) ?_;rintro _ _ ⟨rfl,O2,v2,tQ,rfl⟩;have Ad:=yJ List.length tQ;simp only [ag,aj,ai,aN,ab,af,ah] at Ad;simp only [Ay,bF,go_sem];apply bE <;> intro pc
 ·have ko:a.opt=true:=pc;rw [gH ko] at hO nj;obtain⟨k,dd⟩:=gB x.kids (nP x.labels i) (by omega);have ZQ:((x.kids.map Ex.pr).drop (nP x.labels i)).headD []=k.pr:=by rw [<- awj];exact xX dd
  rw [ZQ] at hO;have fw:=hO;simp only [ag,aj,ai,aN,ab,af,ah] at fw;have si:jD ((x.kids.drop (nP x.labels i)).map Ex.pr) [⟨#[32,61,32]⟩,⟨#[]⟩]=[32,61,32]++k.pr:=by rw [fg (by decide),kK,jD];rw [xX dd];simp only [dD,ag,aj,ai,aN,ay]
  have hcut:∀ mem,cutAt mem 8 1 none (.slice ((x.kids.drop (nP x.labels i)).map ca))=some (.slice ((x.kids.drop (nP x.labels i+1)).map ca)):=fun mem=>by have h:=N2 (x.kids.drop (nP x.labels i)) 1 (by rw [eL];omega) mem;rw [av2] at h;exact h
  have hzk:N3 x (i+1)=[.slice ((x.kids.drop (nP x.labels i+1)).map ca)]:=by unfold N3;rw [nj]
  simp only [hcut,Ay,bF,go_sem];refine cW (mf (l6 (x.kids.drop (nP x.labels i)) (by rw [eL];omega) (fun k hk=>hW k (avV hk)) [⟨#[32,61,32]⟩,⟨#[]⟩] (by simp) (by rw [fh (by decide),kL,pg];rw [eL];omega) _ _ (by rw [si];simp only [ag,aj,ai,aN,ab,af,ah];omega)) _ 3 rfl rfl (fun _=>rfl) rfl) ?_;rintro _ _ ⟨rfl,O3,v3,uF,rfl⟩;rw [si] at uF;have D2:=yJ List.length uF;simp only [ag,aj,ai,aN,ab,af,ah] at D2;simp only [hcut,Ay,bF,go_sem]
  first
   | exact hK _ _ ⟨rfl,O3,v3,by rw [gH ko,ZQ,uF,tQ,k7];simp only [dD,ag,aj,ai,aN,ay],by rw [hzk];rfl⟩
   | exact hK _ _ ⟨rfl,O2,v2,by rw [g5 ko,tQ,k7];simp only [dD,ag,aj,ai,aN,ay],by rw [hzk];rfl⟩
 have ko:¬ a.opt=true:=by rw [show a.opt=false from pc];decide
 rw [g5 ko] at nj;have hzk:N3 x (i+1)=N3 x i:=by unfold N3;rw [nj];rfl
 simp only [Ay,bF,go_sem]
 first
  | exact hK _ _ ⟨rfl,O3,v3,by rw [gH ko,ZQ,uF,tQ,k7];simp only [dD,ag,aj,ai,aN,ay],by rw [hzk];rfl⟩
  | exact hK _ _ ⟨rfl,O2,v2,by rw [g5 ko,tQ,k7];simp only [dD,ag,aj,ai,aN,ay],by rw [hzk];rfl⟩
end
end
section
def gg (x:Ex):Nat:=if x.kind=5 then x.labels.length else if x.kind=6 then 1 else if x.kind=7 then 1 else if x.kind=8 then fR x.labels+1 else if x.kind=9 then x.labels.length+1 else if x.kind=10 then 2
 else if x.kind=11 then 1 else if x.kind=12 then 3 else if x.kind=13 then x.labels.length+1 else if x.kind=15 then 3 else if x.kind=16 then 1 else 0
structure N4 (x:Ex):Prop where
 k0:0<=x.kind
 k1:x.kind<=16
 lt:x.types.length<=1048576
 ll:x.labels.length<=1048576
 lk:x.kids.length<=1048576
 ln:∀ a∈x.labels,0<a.name.size
 lv:x.kind=13->∀ a∈x.labels,0<a.var.size
 nm:x.kind=3\/x.kind=4\/x.kind=6\/x.kind=7\/x.kind=10\/x.kind=15\/x.kind=16->0<x.name.size
 tx:x.kind=15->0<x.text.size
 ts:x.text.size<=1048576
 b0:x.kind=2->x.num=0\/x.num=1
 n0 : -9223372036854775808<=x.num
 n1:x.num<=9223372036854775807
 ty:11<=x.kind->x.kind<=15->∃ a r,x.types=a :: r
 kd:gg x<=x.kids.length
 wt:∀ t∈x.types,WT t
 wl:x.kind=8->∀ a∈x.labels,WT a.ty
theorem kd1 {l:List Ex} (h:1<=l.length):∃ a r,l=a :: r:=by cases l with|nil=>simp at h|cons a r=>exact⟨a,r,rfl⟩
theorem kd2 {l:List Ex} (h:2<=l.length):∃ a b r,l=a :: b :: r:=by match l,h with|[],h=>simp at h|[_],h=>simp at h|a :: b :: r,_=>exact⟨a,b,r,rfl⟩
theorem kd3 {l:List Ex} (h:3<=l.length):∃ a b c r,l=a :: b :: c :: r:=by match l,h with|[],h=>simp at h|[_],h=>simp at h|[_,_],h=>simp at h|a :: b :: c :: r,_=>exact⟨a,b,c,r,rfl⟩
theorem h01:(0:Int)<=1:=by decide
theorem N5 {s:g6} (h:0<s.size):¬ s=⟨#[]⟩:=by intro e;rw [e] at h;exact absurd h (by decide)
theorem TV (ls:List Lb):nP ls ls.length=fR ls:=by unfold nP fR;rw [aE]
theorem ado {x:Ex} (hx:N4 x) (hk:x.kind=8) (hW:∀ k∈x.kids,WX k) (hoc:fR x.labels<=x.kids.length):∀ (i:Nat) (y:List UInt8),(A7 x.labels (x.kids.map Ex.pr))[i]?=some y->∀ v O,O.length+y.length<=34359738368->∃ r m,WR O y [.box [.ptr 0 0],.box (xM x),.box (N3 x (i+1))] r m/\bK ak 199 (num i :: [.ptr 2 0,.ptr 3 0,.ptr 4 0]) (bM 129 v O [.box [.ptr 0 0],.box (xM x),.box (N3 x i)]) r m:=by intro i y hy v O hO;obtain⟨l,h1,rfl⟩:=TU _ _ _ _ hy;exact Mn x hx.ll hx.lk hW hoc i l h1 (hx.ln l (aw h1)) (hx.wl hk l (aw h1)) v O hO
theorem adp {x:Ex} (hx:N4 x) (hk:x.kind=13) (hW:∀ k∈x.kids,WX k) {a:Ex} {r:List Ex} (mM:x.kids=a :: r):∀ (i:Nat) (y:List UInt8),(List.zipWith (fun (l:Lb) p=>bt l.name++[32]++bt l.var++[32,61,62,32]++p) x.labels (r.map Ex.pr))[i]?=some y->∀ v O,O.length+y.length<=34359738368->∃ r m,WR O y [.box [.ptr 0 0],.box (xM x)] r m/\bK ak 201 (num i :: [.ptr 2 0,.ptr 3 0]) (bM 129 v O [.box [.ptr 0 0],.box (xM x)]) r m:=by intro i y hy v O hO;obtain⟨l,p,h1,h2,rfl⟩:=ZZ hy;obtain⟨k,h3,rfl⟩:=TQ h2;exact XQ x hx.ll hx.lk hW i l k h1 (by rw [mM];exact h3) (hx.ln l (aw h1)) (hx.lv hk l (aw h1)) v O hO
theorem ahH {x:Ex} (hx:N4 x) (hW:∀ k∈x.kids,WX k):∀ (i:Nat) (y:List UInt8),(x.kids.map Ex.pr)[i]?=some y->∀ v O,O.length+y.length<=34359738368->∃ r m,WR O y [.box [.ptr 0 0],.box (xM x)] r m/\bK ak 119 (num i :: [.ptr 2 0,.ptr 3 0]) (bM 129 v O [.box [.ptr 0 0],.box (xM x)]) r m:=by intro i y hy v O hO;obtain⟨k,h3,rfl⟩:=TQ hy;exact TR x hx.lk i k h3 (hW k (aw h3)) v O hO
theorem TW (x:Ex) (hx:N4 x) (hk:x.kind=8) (hW:∀ k∈x.kids,WX k) (v:Nat) (O:List UInt8) (hO:O.length+(x.pr).length<=34359738368):∃ r_ m_,(WR O (x.pr) []) r_ m_/\bK ak 117 [.ptr 0 0,.agg (xM x)] (bM 129 v O []) r_ m_:=by
 refine ma [] 20 [] 2 Tryz.func117 Tryz.call117 fun K hK=>?_;simp only [bM];have u5:gg x=fR x.labels+1:=by simp [gg,hk]
 have fe:=hx.kd;rw [u5] at fe;have Z0:=hx.lk;obtain⟨k,dd⟩:=gB x.kids (fR x.labels) (by omega);have KM:(x.kids.map Ex.pr)[fR x.labels]?.getD []=k.pr:=by rw [ae,dd];rfl
 have hp:x.pr=[102,110,40]++(jn [44,32] (A7 x.labels (x.kids.map Ex.pr))++([41,32,61,62,32]++k.pr)):=by rw [<- KM,x.eS];unfold rN fR;simp [hk]
 have ec:=hO;rw [hp] at ec;simp only [ag,aj,ai,aN,ab,af,ah] at ec;have Az:N3 x x.labels.length=[.slice ((x.kids.drop (fR x.labels)).map ca)]:=by unfold N3;rw [TV]
 have si:jD ((x.kids.drop (fR x.labels)).map Ex.pr) [⟨#[41,32,61,62,32]⟩,⟨#[]⟩]=[41,32,61,62,32]++k.pr:=by rw [fg (by decide),kK,jD];rw [xX dd];simp only [dD,ag,aj,ai,aN,ay]
 simp only [aC,bM,Az,go_sem];refine cW (mf (cO [⟨#[102,110,40]⟩] (by simp) (jz (by decide) ml) _ _ (by simp only [ag,aj,ai,aN,ab,af,ah];omega)) _ 3 rfl rfl (fun _=>rfl) rfl) ?_;rintro _ _ ⟨rfl,O1,v1,k7,rfl⟩;have oc:=yJ List.length k7;simp only [ag,aj,ai,aN,ab,af,ah] at oc;simp only [aC,bM,Az,go_sem];refine cW (wf3 (y1 199 [.ptr 2 0,.ptr 3 0,.ptr 4 0] (A7 x.labels (x.kids.map Ex.pr)) _ (by rw [TS]) hx.ll ⟨#[44,32]⟩ (by decide) [.ptr 0 0] (xM x) (N3 x) rfl rfl rfl (fun _=>rfl) (ado hx hk hW (by omega)) _ _ (by rw [aN];omega)) rfl rfl rfl _) ?_;rintro _ _ ⟨rfl,O2,v2,tQ,rfl⟩;have Ad:=yJ List.length tQ;simp only [ag,aj,ai,aN,ab,af,ah] at Ad;simp only [aC,bM,Az,go_sem];refine cW (mf (l6 (x.kids.drop (fR x.labels)) (by rw [eL];omega) (fun k hk=>hW k (avV hk)) [⟨#[41,32,61,62,32]⟩,⟨#[]⟩] (by simp) (by rw [fh (by decide),kL,pg];rw [eL];omega) _ _ (by rw [si];simp only [ag,aj,ai,aN,ab,af,ah];omega)) _ 4 rfl rfl (fun _=>rfl) rfl) ?_;rintro _ _ ⟨rfl,O3,v3,uF,rfl⟩;rw [si] at uF;have D2:=yJ List.length uF;simp only [ag,aj,ai,aN,ab,af,ah] at D2;simp only [aC,bM,Az,go_sem];exact hK _ _ ⟨rfl,_,_,by rw [hp,uF,tQ,k7];simp only [dD,ag,aj,ai,aN,ay],rfl⟩
section
attribute [local go_sem] aC bM lM aI cn bN
theorem TX (x:Ex) (hx:N4 x) (hk:x.kind=16) (hW:∀ k∈x.kids,WX k) (v:Nat) (O:List UInt8) (hO:O.length+(x.pr).length<=34359738368):∃ r_ m_,(WR O (x.pr) []) r_ m_/\bK ak 120 [.ptr 0 0,.agg (xM x)] (bM 129 v O []) r_ m_:=by
 refine ma [] 50 [] 2 Tryz.func120 Tryz.call120 fun K hK=>?_;simp only [bM];have u5:gg x=1:=by simp [gg,hk]
 have fe:=hx.kd;rw [u5] at fe;have EK:=hx.nm (by omega);have Z0:=hx.lk;obtain⟨a,r,mM⟩:=kd1 fe;have Gm:x.pr=ZP x (x.kids.map Ex.pr):=by rw [x.eS];simp [rN,hk]
 have qg:x.kids.map ca = .agg (xM a) :: r.map ca:=by rw [mM,bo];simp only [aS,aH,ax,aM]
 have yE:x.kids.length=r.length+1:=by rw [mM];rfl
 simp only [qg,go_sem];refine cL (Ae x.name) ?_;simp only [qg,go_sem];apply bE <;> intro mc;·(have h1:x.kids.length=1:=by have h0:=qB mc;omega);(have hp:x.pr=bt x.name++([32]++ku a.lvl (Av x.name).2.1 a.pr):=by rw [Gm];unfold ZP;rw [gH h1,mM];simp);have ec:=hO;rw [hp] at ec;simp only [ag,aj,ai,aN,ab,af,ah] at ec;simp only [qg,go_sem];refine cW (mf (cO [x.name,⟨#[32]⟩] (by simp) (jz EK (jz (by decide) ml)) _ _ (by simp only [ag,aj,ai,aN,ab,af,ah];omega)) _ 2 rfl rfl (fun _=>rfl) rfl) ?_;rintro _ _ ⟨rfl,O2,v2,tQ,rfl⟩;have Ad:=yJ List.length tQ;simp only [ag,aj,ai,aN,ab,af,ah] at Ad;simp only [qg,go_sem];refine lr [pN,pN,j2 [1],j2 [1,2],j2 [1,2,3],pR,j2 [5],⟨.z,0,[],[0,1,2,3,4,5,6],[]⟩] 0 ?_;simp only [qg,go_sem];refine yL (uC (tR a (hW a (by rw [mM];simp)) (Av x.name).2.1 _ _ (by omega)) (by simp [aQ,bC]) _) ?_;rintro _ _ ⟨rfl,O3,v3,uF,rfl⟩;have D2:=yJ List.length uF;simp only [ab] at D2;simp only [qg,go_sem];exact hK _ _ ⟨rfl,_,_,by rw [hp];simp only [*,ag,aj,ai,aN,ay,al,aq],rfl⟩
 have h1:¬ x.kids.length=1:=fun e=>(k9 mc) (by omega);obtain⟨b,r2,hr⟩:=kd1 (l:=r) (by omega);subst hr;have hmr:(b :: r2).map ca = .agg (xM b) :: r2.map ca:=by rw [bo];simp only [aS,aH,ax,aM]
 rw [hmr] at qg;have hp:x.pr=ku a.lvl (Av x.name).2.1 a.pr++([32]++(bt x.name++([32]++ku b.lvl (Av x.name).2.2 b.pr))):=by rw [Gm];unfold ZP;rw [g5 h1,mM];simp
 have ec:=hO;rw [hp] at ec;simp only [ag,aj,ai,aN,ab,af,ah] at ec;simp only [hmr,cu,h01,QZ,qg,go_sem];refine lr [pN,pN,j2 [1],j2 [1,2],j2 [1,2,3],pR,j2 [5],⟨.z,0,[],[0,1,2,3,4,5,6],[]⟩] 0 ?_;simp only [hmr,cu,h01,QZ,qg,go_sem];refine yL (uC (tR a (hW a (by rw [mM];simp)) (Av x.name).2.1 _ _ (by omega)) (by simp [aQ,bC]) _) ?_;rintro _ _ ⟨rfl,O4,v4,D3,rfl⟩;have JQ:=yJ List.length D3;simp only [ab] at JQ;simp only [hmr,cu,h01,QZ,qg,go_sem];refine cW (mf (cO [⟨#[32]⟩,x.name,⟨#[32]⟩] (by simp) (jz (by decide) (jz EK (jz (by decide) ml))) _ _ (by simp only [ag,aj,ai,aN,ab,af,ah];omega)) _ 2 rfl rfl (fun _=>rfl) rfl) ?_;rintro _ _ ⟨rfl,O5,v5,TI,rfl⟩;have XM:=yJ List.length TI;simp only [ag,aj,ai,aN,ab,af,ah] at XM;simp only [hmr,cu,h01,QZ,qg,go_sem];refine lr [pN,pN,j2 [1],j2 [1,2],j2 [1,2,3],pR,j2 [5],⟨.z,0,[],[0,1,2,3,4,5,6],[]⟩] 0 ?_;simp only [hmr,cu,h01,QZ,qg,go_sem];refine yL (uC (tR b (hW b (by rw [mM];simp)) (Av x.name).2.2 _ _ (by omega)) (by simp [aQ,bC]) _) ?_;rintro _ _ ⟨rfl,O6,v6,ZU,rfl⟩;have hl6:=yJ List.length ZU;simp only [ab] at hl6;simp only [hmr,cu,h01,QZ,qg,go_sem];exact hK _ _ ⟨rfl,_,_,by rw [hp];simp only [*,ag,aj,ai,aN,ay,al,aq],rfl⟩
end
section
attribute [local go_sem] aC bM aI cn bN
theorem TY (x:Ex) (hx:N4 x) (hk3:x.kind=12\/x.kind=15\/x.kind=13) (hW:∀ k∈x.kids,WX k) (v:Nat) (O:List UInt8) (hO:O.length+(x.pr).length<=34359738368):∃ r_ m_,(WR O (x.pr) []) r_ m_/\bK ak 121 [.ptr 0 0,.agg (xM x)] (bM 129 v O []) r_ m_:=by
 refine ma [] 58 [] 2 Tryz.func121 Tryz.call121 fun K hK=>?_;simp only [bM];have fe:=hx.kd;have Z0:=hx.lk;obtain⟨t0,ts,Mo⟩:=hx.ty (by omega) (by omega);have ra:x.types.map cA = .agg (tM t0) :: ts.map cA:=by rw [Mo,bo];simp only [aF,au,ax,aB]
 simp only [ra,go_sem];apply bE <;> intro Mp;·(have hk:x.kind=12:=by simpa using Mp);(have u5:gg x=3:=by simp [gg,hk]);rw [u5] at fe;obtain⟨a,b,c,r,mM⟩:=kd3 fe;(have hp:x.pr=[105,102]++([91]++(t0.pr++([93]++([32]++(a.pr++([32,116,104,101,110,32]++(b.pr++([32,101,108,115,101,32]++c.pr)))))))):=by rw [x.eS];simp [rN,Dz,lj,hk,mM,Mo]);have ec:=hO;rw [hp] at ec;simp only [ag,aj,ai,aN,ab,af,ah] at ec;(have si:jD (x.kids.map Ex.pr) [⟨#[32]⟩,⟨#[]⟩,⟨#[32,116,104,101,110,32]⟩,⟨#[]⟩,⟨#[32,101,108,115,101,32]⟩,⟨#[]⟩]=[32]++(a.pr++([32,116,104,101,110,32]++(b.pr++([32,101,108,115,101,32]++c.pr)))):=by rw [fg (by decide),kK,fg (by decide),kK,fg (by decide),kK,jD];rw [mM];simp only [dD,bo,a7,n8,ag,aj,ai,aN,ay]);simp only [ra,go_sem];refine lr [pR,pN,j2 [1],j2 [1,2],j2 [1,2,3],⟨.z,0,[],[0,1,2,3,4],[]⟩] 0 ?_;simp only [ra,go_sem];refine yL (uC (pX ⟨#[105,102]⟩ (by decide) t0 (hx.wt t0 (by rw [Mo];exact cP ..)) _ _ (by simp only [ag,aj,ai,aN,ab,af,ah];omega)) (by simp [aQ,bC]) _) ?_;rintro _ _ ⟨rfl,O1,v1,k7,rfl⟩;have oc:=yJ List.length k7;simp only [ag,aj,ai,aN,ab,af,ah] at oc;simp only [ra,go_sem];refine cW (mf (l6 (x.kids) (hx.lk) (hW) [⟨#[32]⟩,⟨#[]⟩,⟨#[32,116,104,101,110,32]⟩,⟨#[]⟩,⟨#[32,101,108,115,101,32]⟩,⟨#[]⟩] (by simp) (by rw [fh (by decide),kL,fh (by decide),kL,fh (by decide),kL,pg];omega) _ _ (by rw [si];simp only [ag,aj,ai,aN,ab,af,ah];omega)) _ 2 rfl rfl (fun _=>rfl) rfl) ?_;rintro _ _ ⟨rfl,O2,v2,tQ,rfl⟩;rw [si] at tQ;have Ad:=yJ List.length tQ;simp only [ag,aj,ai,aN,ab,af,ah] at Ad;simp only [ra,go_sem];exact hK _ _ ⟨rfl,_,_,by rw [hp];simp only [*,ag,aj,ai,aN,ay,al,aq],rfl⟩
 have asB:¬ x.kind=12:=by simpa using Mp
 simp only [ra,go_sem];apply bE <;> intro xY;·(have hk:x.kind=15:=by simpa using xY);(have u5:gg x=3:=by simp [gg,hk]);rw [u5] at fe;obtain⟨a,b,c,r,mM⟩:=kd3 fe;have hnn:=N5 (hx.nm (by omega));have gi:=N5 (hx.tx hk);(have hp:x.pr=[102,111,108,100]++([91]++(t0.pr++([93]++([32]++(bt x.name++([44,32]++(bt x.text++([32,105,110,32]++(a.pr++([32,102,114,111,109,32]++(b.pr++([32,61,62,32]++c.pr)))))))))))):=by rw [x.eS];simp [rN,Dz,lj,hk,mM,Mo]);have ec:=hO;rw [hp] at ec;simp only [ag,aj,ai,aN,ab,af,ah] at ec;(have si:jD (x.kids.map Ex.pr) [⟨#[32]⟩,x.name,⟨#[44,32]⟩,x.text,⟨#[32,105,110,32]⟩,⟨#[]⟩,⟨#[32,102,114,111,109,32]⟩,⟨#[]⟩,⟨#[32,61,62,32]⟩,⟨#[]⟩]=[32]++(bt x.name++([44,32]++(bt x.text++([32,105,110,32]++(a.pr++([32,102,114,111,109,32]++(b.pr++([32,61,62,32]++c.pr)))))))):=by rw [fg (by decide),fg hnn,fg (by decide),fg gi,fg (by decide),kK,fg (by decide),kK,fg (by decide),kK,jD];rw [mM];simp only [dD,bo,a7,n8,ag,aj,ai,aN,ay]);simp only [ra,go_sem];refine lr [pR,pN,j2 [1],j2 [1,2],j2 [1,2,3],⟨.z,0,[],[0,1,2,3,4],[]⟩] 0 ?_;simp only [ra,go_sem];refine yL (uC (pX ⟨#[102,111,108,100]⟩ (by decide) t0 (hx.wt t0 (by rw [Mo];exact cP ..)) _ _ (by simp only [ag,aj,ai,aN,ab,af,ah];omega)) (by simp [aQ,bC]) _) ?_;rintro _ _ ⟨rfl,O3,v3,uF,rfl⟩;have D2:=yJ List.length uF;simp only [ag,aj,ai,aN,ab,af,ah] at D2;simp only [ra,go_sem];refine cW (mf (l6 (x.kids) (hx.lk) (hW) [⟨#[32]⟩,x.name,⟨#[44,32]⟩,x.text,⟨#[32,105,110,32]⟩,⟨#[]⟩,⟨#[32,102,114,111,109,32]⟩,⟨#[]⟩,⟨#[32,61,62,32]⟩,⟨#[]⟩] (by simp) (by rw [fh (by decide),fh hnn,fh (by decide),fh gi,fh (by decide),kL,fh (by decide),kL,fh (by decide),kL,pg];omega) _ _ (by rw [si];simp only [ag,aj,ai,aN,ab,af,ah];omega)) _ 2 rfl rfl (fun _=>rfl) rfl) ?_;rintro _ _ ⟨rfl,O4,v4,D3,rfl⟩;rw [si] at D3;have JQ:=yJ List.length D3;simp only [ag,aj,ai,aN,ab,af,ah] at JQ;simp only [ra,go_sem];exact hK _ _ ⟨rfl,_,_,by rw [hp];simp only [*,ag,aj,ai,aN,ay,al,aq],rfl⟩
 have hk:x.kind=13:=by have h15:¬ x.kind=15:=(by simpa using xY);omega
 simp only [ra,go_sem];apply bE <;> intro rK;·(have u5:gg x=x.labels.length+1:=by simp [gg,hk]);rw [u5] at fe;obtain⟨a,r,mM⟩:=kd1 (l:=x.kids) (by omega);(have yE:x.kids.length=r.length+1:=by rw [mM];rfl);(have hp:x.pr=[109,97,116,99,104]++([91]++(t0.pr++([93]++([32]++(a.pr++([32,123]++(jn [44,32] (List.zipWith (fun (l:Lb) p=>bt l.name++[32]++bt l.var++[32,61,62,32]++p) x.labels (r.map Ex.pr))++[125]))))))):=by rw [x.eS];simp [rN,Dz,lj,hk,D1,mM,Mo]);have ec:=hO;rw [hp] at ec;simp only [ag,aj,ai,aN,ab,af,ah] at ec;(have si:jD (x.kids.map Ex.pr) [⟨#[32]⟩,⟨#[]⟩,⟨#[32,123]⟩]=[32]++(a.pr++[32,123]):=by rw [fg (by decide),kK,fg (by decide),jD];rw [mM];simp only [dD,bo,a7,n8,ag,aj,ai,aN,ay]);simp only [ra,go_sem];refine lr [pR,pN,j2 [1],j2 [1,2],j2 [1,2,3],⟨.z,0,[],[0,1,2,3,4],[]⟩] 0 ?_;simp only [ra,go_sem];refine yL (uC (pX ⟨#[109,97,116,99,104]⟩ (by decide) t0 (hx.wt t0 (by rw [Mo];exact cP ..)) _ _ (by simp only [ag,aj,ai,aN,ab,af,ah];omega)) (by simp [aQ,bC]) _) ?_;rintro _ _ ⟨rfl,O5,v5,TI,rfl⟩;have XM:=yJ List.length TI;simp only [ag,aj,ai,aN,ab,af,ah] at XM;simp only [ra,go_sem];refine cW (mf (l6 (x.kids) (hx.lk) (hW) [⟨#[32]⟩,⟨#[]⟩,⟨#[32,123]⟩] (by simp) (by rw [fh (by decide),kL,fh (by decide),pg];omega) _ _ (by rw [si];simp only [ag,aj,ai,aN,ab,af,ah];omega)) _ 2 rfl rfl (fun _=>rfl) rfl) ?_;rintro _ _ ⟨rfl,O6,v6,ZU,rfl⟩;rw [si] at ZU;have hl6:=yJ List.length ZU;simp only [ag,aj,ai,aN,ab,af,ah] at hl6;simp only [ra,go_sem];refine cW (wf2 (uE 201 [.ptr 2 0,.ptr 3 0] (List.zipWith (fun (l:Lb) p=>bt l.name++[32]++bt l.var++[32,61,62,32]++p) x.labels (r.map Ex.pr)) _ (by first|(simp;done)|(rw [aa2,aC];omega)) hx.ll ⟨#[44,32]⟩ (by decide) [.ptr 0 0] [num x.kind,str x.mod,str x.name,str x.text,num x.num,.slice (.agg (tM t0) :: ts.map cA),.slice (x.labels.map cr),.slice (x.kids.map ca)] rfl rfl rfl (by have h:=adp hx hk hW mM;simp only [xM,tM,dM,ra] at h;exact h) _ _ (by rw [aN];omega)) rfl rfl rfl _) ?_;rintro _ _ ⟨rfl,O7,v7,hO7,rfl⟩;have hl7:=yJ List.length hO7;simp only [ag,aj,ai,aN,ab,af,ah] at hl7;simp only [ra,go_sem];refine cW (mf (cO [⟨#[125]⟩] (by simp) (jz (by decide) ml) _ _ (by simp only [ag,aj,ai,aN,ab,af,ah];omega)) _ 3 rfl rfl (fun _=>rfl) rfl) ?_;rintro _ _ ⟨rfl,O8,v8,hO8,rfl⟩;have hl8:=yJ List.length hO8;simp only [ag,aj,ai,aN,ab,af,ah] at hl8;simp only [ra,go_sem];exact hK _ _ ⟨rfl,_,_,by rw [hp];simp only [*,ag,aj,ai,aN,ay,al,aq],rfl⟩
 exact absurd rK (by simp [hk])
end
end
end Go.Proofs.YtfbbfmcggbapoaaGreatDoor
end
section
namespace Go.Proofs.YtfbbfmcggbapoaaGreatDoor
open Go.Proofs Go.Lib Go.RowKit Go.Shelf Go.Sort
set_option maxHeartbeats 6400000
def kM:Go.Shelf.Ren:=⟨fun|171=>111|243=>194|246=>253|283=>276|284=>277|285=>278|286=>279|129=>289|317=>288|318=>290|319=>291|320=>292|337=>303|338=>304|n=>n,fun|3=>3|9=>9|2=>2|4=>4|171=>256|0=>0|53=>257|37=>125|5=>5|173=>260|212=>267|51=>268|20=>20|213=>269|46=>209|232=>278|233=>279|n=>n,fun|17=>1|18=>2|19=>3|n=>n⟩
theorem uG:Go.Proofs.LaysM.n171 ak kM := {
 mixed:=kr
 f129:=Tryz.func289.trans (yJ some kr)
 f171:=Tryz.func111.trans (yJ some kr)
 f243:=Tryz.func194.trans (yJ some kr)
 f246:=Tryz.func253.trans (yJ some kr)
 f283:=Tryz.func276.trans (yJ some kr)
 f284:=Tryz.func277.trans (yJ some kr)
 f285:=Tryz.func278.trans (yJ some kr)
 f286:=Tryz.func279.trans (yJ some kr)
 f317:=Tryz.func288.trans (yJ some kr)
 f318:=Tryz.func290.trans (yJ some kr)
 f319:=Tryz.func291.trans (yJ some kr)
 f320:=Tryz.func292.trans (yJ some kr)
 f337:=Tryz.func303.trans (yJ some kr)
 f338:=Tryz.func304.trans (yJ some kr)
 t0:=Tryz.underlying0
 a0:=Tryz.isAgg0
 z0:=Tryz.sizeOf0
 v0:=Tryz.zeroValue0
 t2:=Tryz.underlying2
 a2:=Tryz.isAgg2
 z2:=Tryz.sizeOf2
 v2:=Tryz.zeroValue2
 t3:=Tryz.underlying3
 a3:=Tryz.isAgg3
 z3:=Tryz.sizeOf3
 v3:=Tryz.zeroValue3
 t4:=Tryz.underlying4
 a4:=Tryz.isAgg4
 z4:=Tryz.sizeOf4
 v4:=Tryz.zeroValue4
 t5:=Tryz.underlying5
 a5:=Tryz.isAgg5
 z5:=Tryz.sizeOf5
 v5:=Tryz.zeroValue5
 t9:=Tryz.underlying9
 a9:=Tryz.isAgg9
 z9:=Tryz.sizeOf9
 v9:=Tryz.zeroValue9
 t20:=Tryz.underlying20
 a20:=Tryz.isAgg20
 z20:=Tryz.sizeOf20
 v20:=Tryz.zeroValue20
 t37:=Tryz.underlying125
 a37:=Tryz.isAgg125
 z37:=Tryz.sizeOf125
 v37:=Tryz.zeroValue125
 t46:=Tryz.underlying209
 a46:=Tryz.isAgg209
 z46:=Tryz.sizeOf209
 v46:=Tryz.zeroValue209
 t51:=Tryz.underlying268
 a51:=Tryz.isAgg268
 z51:=Tryz.sizeOf268
 v51:=Tryz.zeroValue268
 t53:=Tryz.underlying257
 a53:=Tryz.isAgg257
 z53:=Tryz.sizeOf257
 v53:=Tryz.zeroValue257
 t171:=Tryz.underlying256
 a171:=Tryz.isAgg256
 z171:=Tryz.sizeOf256
 v171:=Tryz.zeroValue256
 t173:=Tryz.underlying260
 a173:=Tryz.isAgg260
 z173:=Tryz.sizeOf260
 v173:=Tryz.zeroValue260
 t212:=Tryz.underlying267
 a212:=Tryz.isAgg267
 z212:=Tryz.sizeOf267
 v212:=Tryz.zeroValue267
 t213:=Tryz.underlying269
 a213:=Tryz.isAgg269
 z213:=Tryz.sizeOf269
 t232:=Tryz.underlying278
 a232:=Tryz.isAgg278
 z232:=Tryz.sizeOf278
 v232:=Tryz.zeroValue278
 t233:=Tryz.underlying279
 a233:=Tryz.isAgg279
 z233:=Tryz.sizeOf279
 v233:=Tryz.zeroValue279
 g17:=kr
 g18:=kr
 g19:=kr
 i0:=kr
 i2:=kr
 i3:=kr
 i4:=kr
 i5:=kr
 i9:=kr
 i20:=kr
 i37:=kr
 i46:=kr
 i51:=kr
 i53:=kr
 i171:=kr
 i173:=kr
 i212:=kr
 i232:=kr
 i233:=kr
 m17:=kr
 m18:=kr
 m19:=kr }
theorem JS (u:Nat) (h:u<18446744073709551616) (w:World):Calls ak 289 #[.int .u64 u] w fun e w'=>e = .returned (.int .i64 (Lib.bitLen u))/\w'=w :=
 Any.bits_Len64 (P:=ak) (ρ:=kM) { uG with } u w (by omega) (by omega)
theorem JT (x:Nat) (h:x<=64) (w:World):Calls ak 288 #[.int .i64 x] w fun e w'=>e = .returned (.int .i64 (Lib.l10 x))/\w'=w :=
 Any.internal_strconv_log10Pow2 (P:=ak) (ρ:=kM) { uG with } x h w
theorem JU (b:Bool) (w:World):Calls ak 290 #[.bool b] w fun e w'=>e = .returned (.int .i64 (if b then 1 else 0))/\w'=w :=
 Any.internal_strconv_bool2_int (P:=ak) (ρ:=kM) { uG with } b w
def CU (w:World):Prop:=∀ q,q<20->w.cell? ⟨1,q,none⟩=some (.int .u64 ((10 ^ q:Nat):Int))
theorem xZ (u:Nat) (h1:1<=u) (h2:u<18446744073709551616) (w:World) (hp:CU w):Calls ak 277 #[.int .u64 u] w fun e w'=>e = .returned (.int .i64 (Lib.nDigits u))/\w'=w:=by
 obtain⟨hn,hl⟩:=Lib.numDigits_eq u h1 h2;have h64:Lib.bitLen u<=64:=Lib.bitLen_le u 64 (aA _) h2;have hto:((u:Int)).toNat=u:=by omega
 have hc:=hp (Lib.l10 (Lib.bitLen u)) (by omega);generalize hq:Lib.l10 (Lib.bitLen u)=q at hn hl hc;generalize hT:10 ^ q=T at hn hc;have asD:q<20:=by omega
 have Hn:=Lib.hid hn;clear hn hp;go_enter Tryz.func277,Tryz.ntmps277
 go_wp2_with (first
  | (go_at_call 289;refine (JS u h2 _).mono ?_;rintro e w' ⟨rfl,rfl⟩)
  | (go_at_call 288;refine (JT _ h64 _).mono ?_;rintro e w' ⟨rfl,rfl⟩)
  | (go_at_call 290;refine (JU _ _).mono ?_;rintro e w' ⟨rfl,rfl⟩))
 all_goals go_ret
 all_goals (refine⟨?_,rfl⟩;have hn:=Hn.out;congr 2;split at hn <;> simp_all <;> omega)
theorem CU.alloc {w:World} (h:CU w) (o:Obj):CU (w.alloc o):=fun q hq=>by have h1:=h q hq;rw [<- h1];have bH:=World.block_lt_of_cell? w _ h1;unfold World.cell?;rw [Below.heap_alloc w _ _ bH]
theorem G2 (u:Nat) (h1:100<=u) (h2:u<9223372036854775808) (w:World) (hp:CU w) :
  Calls ak 253 #[.int .i64 u,.int .i64 10] w fun e w'=>e = .returned (.string ⟨(Lib.decDigits u).toArray⟩)/\∃ k os,w'=grow (w.drewN k) os:=by
 have hu:u<18446744073709551616:=by omega
 have am3:Lib.nDigits u<=20:=by have:=Lib.numDigits_eq u (by omega) hu;split at this <;> omega
 have EN:ak.arrayLen 256=24:=by simp [Program.arrayLen,Tryz.underlying256]
 have wC:∀ W,(Instr.sliceAt 256 (.pointer (some ⟨w.heap.size,0,none⟩)) (some (.int .i64 1)) (some (.int .i64 (1+(Lib.nDigits u:Int)))) none).run ak W = .ok (.slice (some ⟨w.heap.size,1,none⟩) (Lib.nDigits u) 23) W:=fun W=>by rw [run_sliceAt_array_lh W 256 ⟨w.heap.size,0,none⟩ (by simp [Program.arrayLen,Program.elem,Tryz.underlying256]) .i64 .i64 1 (1+(Lib.nDigits u:Int)) (by omega) (by omega) (by rw [EN];omega)];go_simp;omega
 have pZ:=Lib.holds_zero w 256 (Lib.nDigits u) (by omega);have ly:(Array.replicate (Lib.nDigits u) (0:UInt8)).size=Lib.nDigits u:=awI;have hf:=Any.internal_strconv_formatBase10 (P:=ak) (ρ:=kM) { uG with } w.heap.size 1 23 u (Array.replicate (Lib.nDigits u) 0) (w.alloc (.cells Lib.zeros24 256)) pZ (by rw [ly];exact Lib.lt_pow_nDigits u) hu (by rw [ly];omega);rw [ly] at hf;replace hf:Calls ak 278 #[.slice (some ⟨w.heap.size,1,none⟩) (Lib.nDigits u) 23,.int .u64 u] (w.alloc (.cells Lib.zeros24 256)) _:=hf;have adr:=Lib.hid pZ;clear pZ EN;go_enter Tryz.func253,Tryz.ntmps253;go_wp2_with (go_at_call 277;refine (xZ u (by omega) hu _ (hp.alloc _)).mono ?_;rintro e w' ⟨rfl,rfl⟩);go_at_call 278;refine hf.mono ?_;rintro e w' ⟨rfl,k,v',dk,rfl,hF⟩;have Q9:(convert 125 9 (.slice (some ⟨w.heap.size,1,none⟩) (Lib.nDigits u) 23)).run ak ((putRow (fun (b:UInt8)=>Value.int .u8 (b.toNat:Int)) (w.alloc (.cells Lib.zeros24 256)) w.heap.size 1 dk).drewN k) = .ok (.string ⟨(Lib.decDigits u).toArray⟩) ((putRow (fun (b:UInt8)=>Value.int .u8 (b.toNat:Int)) (w.alloc (.cells Lib.zeros24 256)) w.heap.size 1 dk).drewN k):=by have h:=run_convert_bytes_back (P:=ak) ((putRow (fun (b:UInt8)=>Value.int .u8 (b.toNat:Int)) (w.alloc (.cells Lib.zeros24 256)) w.heap.size 1 dk).drewN k) 125 9 5 ⟨w.heap.size,1,none⟩ 23 (Lib.decDigits u) Tryz.underlying125 Tryz.underlying5 Tryz.underlying9 (fun j hj=>by rw [Lib.row_is_numeral hF j hj,Lib.add_plain,World.cell?_drewN];exact cell?_putRow (fun (b:UInt8)=>Value.int .u8 (b.toNat:Int)) _ w.heap.size 1 _ dk adr.out (by rw [hF.size,ly]) j (by rw [hF.size];rw [Lib.decDigits_length] at hj;exact hj));rw [Lib.decDigits_length] at h;exact h
 go_wp2;go_ret;obtain⟨os,eo⟩:=Lib.fin_pos w (.cells Lib.zeros24 256) dk k;exact⟨rfl,k,os,eo⟩
theorem Mq (u:Nat) (hu1:1<=u) (h2:u<=9223372036854775808) (w:World) (hp:CU w) :
  Calls ak 253 #[.int .i64 (-(u:Int)),.int .i64 10] w fun e w'=>e = .returned (.string ⟨(45 :: Lib.decDigits u).toArray⟩)/\∃ k os,w'=grow (w.drewN k) os:=by
 have hu:u<18446744073709551616:=by omega
 have am3:Lib.nDigits u<=20:=by have:=Lib.numDigits_eq u (by omega) hu;split at this <;> omega
 have hwr:IntKind.u64.wrap (-IntKind.u64.wrap (-(u:Int)))=(u:Int):=by rw [IntKind.wrap_u64,IntKind.wrap_u64];omega
 have EN:ak.arrayLen 256=24:=by simp [Program.arrayLen,Tryz.underlying256]
 have wC:∀ W,(Instr.sliceAt 256 (.pointer (some ⟨w.heap.size,0,none⟩)) (some (.int .i64 1)) (some (.int .i64 (1+(Lib.nDigits u:Int)))) none).run ak W = .ok (.slice (some ⟨w.heap.size,1,none⟩) (Lib.nDigits u) 23) W:=fun W=>by rw [run_sliceAt_array_lh W 256 ⟨w.heap.size,0,none⟩ (by simp [Program.arrayLen,Program.elem,Tryz.underlying256]) .i64 .i64 1 (1+(Lib.nDigits u:Int)) (by omega) (by omega) (by rw [EN];omega)];go_simp;omega
 have pZ:=Lib.holds_zero w 256 (Lib.nDigits u) (by omega);have ly:(Array.replicate (Lib.nDigits u) (0:UInt8)).size=Lib.nDigits u:=awI;have hf:=Any.internal_strconv_formatBase10 (P:=ak) (ρ:=kM) { uG with } w.heap.size 1 23 u (Array.replicate (Lib.nDigits u) 0) (w.alloc (.cells Lib.zeros24 256)) pZ (by rw [ly];exact Lib.lt_pow_nDigits u) hu (by rw [ly];omega);rw [ly] at hf;replace hf:Calls ak 278 #[.slice (some ⟨w.heap.size,1,none⟩) (Lib.nDigits u) 23,.int .u64 u] (w.alloc (.cells Lib.zeros24 256)) _:=hf;have adr:=Lib.hid pZ;clear pZ EN;go_enter Tryz.func253,Tryz.ntmps253;go_wp2_with (go_at_call 277;refine (xZ u (by omega) hu _ (hp.alloc _)).mono ?_;rintro e w' ⟨rfl,rfl⟩);go_at_call 278;refine hf.mono ?_;rintro e w' ⟨rfl,k,v',dk,rfl,hF⟩;have IP:((putRow (fun (b:UInt8)=>Value.int .u8 (b.toNat:Int)) (w.alloc (.cells Lib.zeros24 256)) w.heap.size 1 dk).drewN k).cell? ⟨w.heap.size,0,none⟩=some (.int .u8 0):=by rw [World.cell?_drewN,cell?_putRow_other _ _ _ _ _ _ (Or.inr (Or.inl (Nat.zero_lt_one))),World.cell?_alloc_new];exact Lib.zeros24_at 0 (by omega)
 have nd:((putRow (fun (b:UInt8)=>Value.int .u8 (b.toNat:Int)) (w.alloc (.cells Lib.zeros24 256)) w.heap.size 1 dk).drewN k).frozen? ⟨w.heap.size,0,none⟩=false:=by rw [World.frozen?_drewN,frozen?_putRow];exact World.frozen?_alloc_new _ _ _ _
 have EN:ak.arrayLen 256=24:=by simp [Program.arrayLen,Tryz.underlying256]
 have asE:∀ W,(Instr.sliceAt 256 (.pointer (some ⟨w.heap.size,0,none⟩)) none (some (.int .i64 (1+(Lib.nDigits u:Int)))) none).run ak W = .ok (.slice (some ⟨w.heap.size,0,none⟩) (1+Lib.nDigits u) 24) W:=fun W=>by rw [run_sliceAt_array_h W 256 ⟨w.heap.size,0,none⟩ (by simp [Program.arrayLen,Program.elem,Tryz.underlying256]) .i64 (1+(Lib.nDigits u:Int)) (by omega) (by rw [EN];omega)];go_simp;omega
 clear EN;have Q9:(convert 125 9 (.slice (some ⟨w.heap.size,0,none⟩) (1+Lib.nDigits u) 24)).run ak (((putRow (fun (b:UInt8)=>Value.int .u8 (b.toNat:Int)) (w.alloc (.cells Lib.zeros24 256)) w.heap.size 1 dk).drewN k).setCell ⟨w.heap.size,0,none⟩ (.int .u8 45)) = .ok (.string ⟨(45 :: Lib.decDigits u).toArray⟩) (((putRow (fun (b:UInt8)=>Value.int .u8 (b.toNat:Int)) (w.alloc (.cells Lib.zeros24 256)) w.heap.size 1 dk).drewN k).setCell ⟨w.heap.size,0,none⟩ (.int .u8 45)):=by have h:=run_convert_bytes_back (P:=ak) (((putRow (fun (b:UInt8)=>Value.int .u8 (b.toNat:Int)) (w.alloc (.cells Lib.zeros24 256)) w.heap.size 1 dk).drewN k).setCell ⟨w.heap.size,0,none⟩ (.int .u8 45)) 125 9 5 ⟨w.heap.size,0,none⟩ 24 (45 :: Lib.decDigits u) Tryz.underlying125 Tryz.underlying5 Tryz.underlying9 (fun j hj=>by rw [Lib.add_plain];cases j with|zero=>exact World.cell?_setCell_same _ _ _ IP|succ i =>(have hi:i<(Lib.decDigits u).length:=by simpa using hj);rw [World.cell?_setCell_other _ _ _ _ (by simp),List.getElem_cons_succ,Lib.row_is_numeral hF i hi,World.cell?_drewN,show 0+(i+1)=1+i by omega];exact cell?_putRow (fun (b:UInt8)=>Value.int .u8 (b.toNat:Int)) _ w.heap.size 1 _ dk adr.out (by rw [hF.size,ly]) i (by rw [hF.size];rw [Lib.decDigits_length] at hi;exact hi));rw [af,Lib.decDigits_length,VQ] at h;exact h
 go_wp2;go_ret;obtain⟨os,eo⟩:=Lib.fin_neg w (.cells Lib.zeros24 256) dk k (.int .u8 45);exact⟨rfl,k,os,eo⟩
theorem JV (u:Nat) (h:u<100) (w:World):Calls ak 253 #[.int .i64 u,.int .i64 10] w fun e w'=>e = .returned (.string ⟨(Lib.decDigits u).toArray⟩)/\w'=w :=
 Any.internal_strconv_FormatInt_10_small (P:=ak) (ρ:=kM) { uG with } u h w
end Go.Proofs.YtfbbfmcggbapoaaGreatDoor
namespace Go.Proofs.YtfbbfmcggbapoaaGreatDoor
open Go.Eng
open Go.RowKit (Below)
open Go.Sort (grow)
variable [bJ]
def jg:List Value:=(List.range 20).map fun q=>.int .u64 ((10 ^ q:Nat):Int)
theorem Qr (hP:bJ.uO 1=some jg) (n:Int) (h0 : -9223372036854775808<=n) (h1:n<=9223372036854775807):dz ak 253 [num n,num 10] (str (bs (Lib.itoa n))):=by
 refine⟨Tryz.call253,fun F hg w xs hF hx=>?_⟩;obtain⟨x,ys,sA,hr,Co⟩:=hx.of_cons;obtain⟨y,zs,hys,H7,hz⟩:=Co.of_cons;have Rr:=hz.of_nil;subst Rr;have e1:=fL hr;have e2:=fL H7;subst e1;subst e2;subst hys;obtain rfl:xs = #[.int .i64 n,.int .i64 10]:=by rw [<- cJ (xs:=xs),sA]
 have hp:CU w:=fun q hq=>hF _ _ (hg.t 1 jg q _ hP (by simp [jg,hq]));suffices hs:∃ l:List UInt8,Lib.itoa n=l/\Calls ak 253 #[.int .i64 n,.int .i64 10] w fun e w'=>e = .returned (.string ⟨l.toArray⟩)/\∃ k os,w'=grow (w.drewN k) os by obtain⟨l,hl,hc⟩:=hs;rw [hl];refine hc.mono ?_;rintro e w' ⟨rfl,k,os,rfl⟩;have hb:Below w.heap.size w (grow (w.drewN k) os):=Go.Lib.below_grow _ _ (aA _) _ _;exact⟨F,_,rfl,fun _ _ h=>h,fun ad z hz=>by rw [hb.cell (World.block_lt_of_cell? w ad (hF ad z hz))];exact hF ad z hz,fun _ _ h=>.inl h,⟨hg,.sc _ _⟩,hb⟩
 by_cases hn:n<0;·obtain⟨u,rfl⟩:∃ u:Nat,n = -(u:Int):=⟨n.natAbs,by omega⟩;exact⟨_,Lib.itoa_neg u (by omega),Mq u (by omega) (by omega) w hp⟩
 obtain⟨u,rfl⟩:∃ u:Nat,n=u:=⟨n.toNat,by omega⟩;rcases bn u 100 with hs|hs
 ·exact⟨_,Lib.itoa_nonneg u,(JV u hs w).mono fun e w' h=>⟨h.1,0,#[],by rw [h.2];simp [World.drewN_zero]⟩⟩
 exact⟨_,Lib.itoa_nonneg u,G2 u hs (by omega) w hp⟩
theorem TZ (hP:bJ.uO 1=some jg) (n:Int) (h0 : -9223372036854775808<=n) (h1:n<=9223372036854775807):Cn 194 [num n] (str (bs (Lib.itoa n))):=by refine cM [] 5 [.tmp 2] Tryz.func194 Tryz.call194 fun K hK=>?_;simp only [go_sem];refine cL (⟨_,rfl,Qr hP n h0 h1⟩:∃ r_,(fun w=>w=str (bs (Lib.itoa n))) r_/\_) ?_;simp only [go_sem];exact hK _ rfl
theorem XS (hP:bJ.uO 1=some jg) (n:Int) (h0 : -9223372036854775808<=n) (h1:n<=9223372036854775807):Cn 111 [num n] (str (bs (Lib.itoa n))):=by refine cM [] 5 [.tmp 2] Tryz.func111 Tryz.call111 fun K hK=>?_;simp only [go_sem];refine cL (TZ hP n h0 h1) ?_;simp only [go_sem];exact hK _ rfl
end Go.Proofs.YtfbbfmcggbapoaaGreatDoor
end
section
namespace Go.Proofs.YtfbbfmcggbapoaaGreatDoor
open Go.Eng
variable [bJ]
open Nat renaming reduceAdd -> zA, reduceLT -> zB, reduceLeDiff -> zC, reduceMul -> zD, reduceEqDiff -> zE, reduceSub -> zF
section
theorem N6 (n:Int):0<(bs (Lib.itoa n)).size:=by
 rw [nz];have h:∀ u,1<=(Lib.decDigits u).length:=fun u=>by rw [Lib.decDigits_length];exact Lib.nDigits_pos u
 unfold Lib.itoa;split;·rw [af];omega
 exact h _
theorem T0 (s:g6):0<(bs (Dy s)).size:=by rw [nz];unfold Dy;simp
def boB (b:Bool):g6:=if b=true then ⟨#[116,114,117,101]⟩ else ⟨#[102,97,108,115,101]⟩
theorem XT (b:Bool):0<(boB b).size:=by cases b <;> decide
theorem ads (b:Bool):bt (boB b)=if b=true then [116,114,117,101] else [102,97,108,115,101]:=by cases b <;> rfl
theorem adt (b:Bool):Cn 196 [bl b] (str (boB b)):=by
 refine cM [] 4 [.tmp 2] Tryz.func196 Tryz.call196 fun K hK=>?_;simp only [go_sem];apply bE <;> intro Q4;·subst Q4;simp only [go_sem];exact hK _ rfl
 subst Q4;simp only [go_sem];exact hK _ rfl
theorem ahI (b:Bool):Cn 113 [bl b] (str (boB b)):=by refine cM [] 5 [.tmp 2] Tryz.func113 Tryz.call113 fun K hK=>?_;simp only [go_sem];refine cL (adt b) ?_;simp only [go_sem];exact hK _ rfl
section
attribute [local go_sem] aC bM
theorem Mr (hP:bJ.uO 1=some jg) (x:Ex) (hx:N4 x) (hW:∀ k∈x.kids,WX k) (v:Nat) (O:List UInt8) (hO:O.length+(x.pr).length<=34359738368):∃ r_ m_,(WR O (x.pr) []) r_ m_/\bK ak 45 [.ptr 0 0,ca x] (bM 129 v O []) r_ m_:=by
 refine ma [30000] 167 [] 2 Tryz.func45 Tryz.call45 fun K hK=>?_;simp only [bM];have fe:=hx.kd;have Z0:=hx.lk;simp only [aS,aH,ax,aM];simp only [go_sem];apply bE <;> intro kj
 ·have hk:x.kind=0:=by simpa using kj
  have hp:x.pr=bt (bs (Lib.itoa x.num)):=by rw [x.eS];simp [rN,Dz,lj,hk,E5]
  have ec:=hO;rw [hp] at ec;try simp only [ag,aj,ai,aN,ab,af,ah] at ec
  have hbi:=E5 (Lib.itoa x.num);simp only [go_sem];refine lr [pR,pN,j2 [1],pM [1,2],pM [1,2,3],⟨.z,0,[],[0,1,2,3,4],[]⟩] 0 ?_;simp only [go_sem];refine lQ (XS hP x.num hx.n0 hx.n1) ?_;simp only [go_sem];refine yL (uC (oZ [(bs (Lib.itoa x.num))] (by simp) (jz (N6 _) ml) _ _ (by simp only [ag,aj,ai,aN,ab,af,ah];omega)) rfl _) ?_;rintro _ _ ⟨rfl,O2,v2,tQ,rfl⟩;have Ad:=yJ List.length tQ;simp only [ag,aj,ai,aN,ab,af,ah] at Ad;simp only [go_sem]
  first
   | (have N7:=hp;rw [hp] at hK;exact hK _ _ ⟨rfl,_,_,by simp only [*,ag,aj,ai,aN,ay,al,aq],rfl⟩)
   | (refine hK _ _ ⟨rfl,_,_,?_,rfl⟩;assumption)
 have hn0:¬ x.kind=0:=by simpa using kj
 simp only [go_sem];apply bE <;> intro oq
 ·have hk:x.kind=1:=by simpa using oq
  have hp:x.pr=bt (bs (Dy x.text)):=by rw [x.eS];simp [rN,Dz,lj,hk,E5]
  have ec:=hO;rw [hp] at ec;try simp only [ag,aj,ai,aN,ab,af,ah] at ec
  have hbi:=E5 (Dy x.text);simp only [go_sem];refine lr [pR,pN,j2 [1],pM [1,2],pM [1,2,3],⟨.z,0,[],[0,1,2,3,4],[]⟩] 0 ?_;simp only [go_sem];refine lQ (JR x.text hx.ts) ?_;simp only [go_sem];refine yL (uC (oZ [(bs (Dy x.text))] (by simp) (jz (T0 _) ml) _ _ (by simp only [ag,aj,ai,aN,ab,af,ah];omega)) rfl _) ?_;rintro _ _ ⟨rfl,O4,v4,D3,rfl⟩;have JQ:=yJ List.length D3;simp only [ag,aj,ai,aN,ab,af,ah] at JQ;simp only [go_sem]
  first
   | (have N7:=hp;rw [hp] at hK;exact hK _ _ ⟨rfl,_,_,by simp only [*,ag,aj,ai,aN,ay,al,aq],rfl⟩)
   | (refine hK _ _ ⟨rfl,_,_,?_,rfl⟩;assumption)
 have Wa:¬ x.kind=1:=by simpa using oq
 simp only [go_sem];apply bE <;> intro x3
 ·have hk:x.kind=2:=by simpa using x3
  have hp:x.pr=bt (boB (decide (x.num=1))):=by rw [x.eS];simp [rN,Dz,lj,hk,ads]
  have ec:=hO;rw [hp] at ec;try simp only [ag,aj,ai,aN,ab,af,ah] at ec
  simp only [go_sem];refine lr [pR,pN,j2 [1],pM [1,2],pM [1,2,3],pM [1,2,3,4],⟨.z,0,[],[0,1,2,3,4,5],[]⟩] 0 ?_;simp only [go_sem];refine lQ (ahI (decide (x.num=1))) ?_;simp only [go_sem];refine yL (uC (oZ [(boB (decide (x.num=1)))] (by simp) (jz (XT _) ml) _ _ (by simp only [ag,aj,ai,aN,ab,af,ah];omega)) rfl _) ?_;rintro _ _ ⟨rfl,O6,v6,ZU,rfl⟩;have hl6:=yJ List.length ZU;simp only [ag,aj,ai,aN,ab,af,ah] at hl6;simp only [go_sem]
  first
   | (have N7:=hp;rw [hp] at hK;exact hK _ _ ⟨rfl,_,_,by simp only [*,ag,aj,ai,aN,ay,al,aq],rfl⟩)
   | (refine hK _ _ ⟨rfl,_,_,?_,rfl⟩;assumption)
 have hn2:¬ x.kind=2:=by simpa using x3
 simp only [go_sem];refine sq tt_ok [30000] ?_;simp only [go_sem];apply bE <;> intro wk
 ·have hk:x.kind=3\/x.kind=4:=by first|exact .inl (by simpa using wk)|exact .inr (by simpa using wk)
  have hp:x.pr=EZ x.mod x.name (x.types.map Ty.pr):=by rw [x.eS];rcases hk with hk|hk <;> simp [rN,hk]
  simp only [go_sem];refine cW (uC (GY x.mod x.name (hx.nm (by omega)) x.types hx.lt hx.wt _ _ (by rw [<- hp];omega)) (by simp [aQ,bC]) _) ?_;rintro _ _ ⟨rfl,O7,v7,hO7,rfl⟩;simp only [go_sem]
  first
   | (have N7:=hp;rw [hp] at hK;exact hK _ _ ⟨rfl,_,_,by simp only [*,ag,aj,ai,aN,ay,al,aq],rfl⟩)
   | (refine hK _ _ ⟨rfl,_,_,?_,rfl⟩;assumption)
 have am4:=k9 wk;simp only [go_sem];apply bE <;> intro wk
 ·have hk:x.kind=3\/x.kind=4:=by first|exact .inl (by simpa using wk)|exact .inr (by simpa using wk)
  have hp:x.pr=EZ x.mod x.name (x.types.map Ty.pr):=by rw [x.eS];rcases hk with hk|hk <;> simp [rN,hk]
  simp only [go_sem];refine cW (uC (GY x.mod x.name (hx.nm (by omega)) x.types hx.lt hx.wt _ _ (by rw [<- hp];omega)) (by simp [aQ,bC]) _) ?_;rintro _ _ ⟨rfl,O8,v8,hO8,rfl⟩;simp only [go_sem]
  first
   | (have N7:=hp;rw [hp] at hK;exact hK _ _ ⟨rfl,_,_,by simp only [*,ag,aj,ai,aN,ay,al,aq],rfl⟩)
   | (refine hK _ _ ⟨rfl,_,_,?_,rfl⟩;assumption)
 have am4:=k9 wk;simp only [go_sem];apply bE <;> intro Qj
 ·have hk:x.kind=5:=by simpa using Qj
  have u5:gg x=x.labels.length:=by simp [gg,hk]
  rw [u5] at fe;have hp:x.pr=[123]++(NU x.labels (x.kids.map Ex.pr)++[125]):=by rw [x.eS];simp [rN,Dz,lj,hk]
  have ec:=hO;rw [hp] at ec;try simp only [ag,aj,ai,aN,ab,af,ah] at ec
  simp only [go_sem];refine cW (mf (cO [⟨#[123]⟩] (by simp) (jz (by decide) ml) _ _ (by simp only [ag,aj,ai,aN,ab,af,ah];omega)) _ 2 rfl rfl (fun _=>rfl) rfl) ?_;rintro _ _ ⟨rfl,O9,v9,hO9,rfl⟩;have hl9:=yJ List.length hO9;simp only [ag,aj,ai,aN,ab,af,ah] at hl9;simp only [go_sem];refine cW (uC (E7 x.labels (x.kids) hx.ll (hx.lk) (by omega) (hW) hx.ln _ _ (by omega)) (by simp [aQ,bC]) _) ?_;rintro _ _ ⟨rfl,O10,v10,adb,rfl⟩;have ade:=yJ List.length adb;simp only [ag,aj,ai,aN,ab,af,ah] at ade;simp only [go_sem];refine cW (mf (cO [⟨#[125]⟩] (by simp) (jz (by decide) ml) _ _ (by simp only [ag,aj,ai,aN,ab,af,ah];omega)) _ 3 rfl rfl (fun _=>rfl) rfl) ?_;rintro _ _ ⟨rfl,O11,v11,Qk,rfl⟩;have TK:=yJ List.length Qk;simp only [ag,aj,ai,aN,ab,af,ah] at TK;simp only [go_sem]
  first
   | (have N7:=hp;rw [hp] at hK;exact hK _ _ ⟨rfl,_,_,by simp only [*,ag,aj,ai,aN,ay,al,aq],rfl⟩)
   | (refine hK _ _ ⟨rfl,_,_,?_,rfl⟩;assumption)
 have hn5:¬ x.kind=5:=by simpa using Qj
 simp only [go_sem];apply bE <;> intro JW
 ·have hk:x.kind=6:=by simpa using JW
  have u5:gg x=1:=by simp [gg,hk]
  rw [u5] at fe;obtain⟨a,r,mM⟩:=kd1 fe;have EK:=hx.nm (by omega);have qg:x.kids.map ca = .agg (xM a) :: r.map ca:=by rw [mM,bo];simp only [aS,aH,ax,aM]
  have hp:x.pr=ku a.lvl 8 a.pr++([46]++bt x.name):=by rw [x.eS];simp [rN,Dz,lj,hk,mM]
  have ec:=hO;rw [hp] at ec;try simp only [ag,aj,ai,aN,ab,af,ah] at ec
  simp only [qg,aI,cn,bN,go_sem];refine lr [pR,pN,j2 [1],j2 [1,2],j2 [1,2,3],⟨.z,0,[],[0,1,2,3,4],[]⟩] 0 ?_;simp only [qg,aI,cn,bN,go_sem];refine yL (uC (tR a (hW a (by rw [mM];simp)) 8 _ _ (by omega)) (by simp [aQ,bC]) _) ?_;rintro _ _ ⟨rfl,O12,v12,XN,rfl⟩;have adk:=yJ List.length XN;simp only [ab] at adk;simp only [qg,aI,cn,bN,go_sem];refine cW (mf (cO [⟨#[46]⟩,x.name] (by simp) (jz (by decide) (jz EK ml)) _ _ (by simp only [ag,aj,ai,aN,ab,af,ah];omega)) _ 2 rfl rfl (fun _=>rfl) rfl) ?_;rintro _ _ ⟨rfl,O13,v13,adf,rfl⟩;have adg:=yJ List.length adf;simp only [ag,aj,ai,aN,ab,af,ah] at adg;simp only [qg,aI,cn,bN,go_sem]
  first
   | (have N7:=hp;rw [hp] at hK;exact hK _ _ ⟨rfl,_,_,by simp only [*,ag,aj,ai,aN,ay,al,aq],rfl⟩)
   | (refine hK _ _ ⟨rfl,_,_,?_,rfl⟩;assumption)
 have hn6:¬ x.kind=6:=by simpa using JW
 simp only [go_sem];apply bE <;> intro XU
 ·have hk:x.kind=7:=by simpa using XU
  have u5:gg x=1:=by simp [gg,hk]
  rw [u5] at fe;obtain⟨a,r,mM⟩:=kd1 fe;have hnn:=N5 (hx.nm (by omega));have hp:x.pr=[60]++(bt x.name++([58,32]++(a.pr++[62]))):=by rw [x.eS];simp [rN,Dz,lj,hk,mM]
  have ec:=hO;rw [hp] at ec;try simp only [ag,aj,ai,aN,ab,af,ah] at ec
  have si:jD (x.kids.map Ex.pr) [⟨#[60]⟩,x.name,⟨#[58,32]⟩,⟨#[]⟩,⟨#[62]⟩]=[60]++(bt x.name++([58,32]++(a.pr++[62]))):=by rw [fg (by decide),fg hnn,fg (by decide),kK,fg (by decide),jD];rw [mM];simp only [dD,bo,a7,n8,ag,aj,ai,aN,ay]
  simp only [go_sem];refine cW (mf (l6 (x.kids) (hx.lk) (hW) [⟨#[60]⟩,x.name,⟨#[58,32]⟩,⟨#[]⟩,⟨#[62]⟩] (by simp) (by rw [fh (by decide),fh hnn,fh (by decide),kL,fh (by decide),pg];omega) _ _ (by rw [si];simp only [ag,aj,ai,aN,ab,af,ah];omega)) _ 2 rfl rfl (fun _=>rfl) rfl) ?_;rintro _ _ ⟨rfl,O14,v14,ahJ,rfl⟩;rw [si] at ahJ;have am5:=yJ List.length ahJ;simp only [ag,aj,ai,aN,ab,af,ah] at am5;simp only [go_sem]
  first
   | (have N7:=hp;rw [hp] at hK;exact hK _ _ ⟨rfl,_,_,by simp only [*,ag,aj,ai,aN,ay,al,aq],rfl⟩)
   | (refine hK _ _ ⟨rfl,_,_,?_,rfl⟩;assumption)
 have hn7:¬ x.kind=7:=by simpa using XU
 simp only [go_sem];apply bE <;> intro T1
 ·have hk:x.kind=8:=by simpa using T1
  simp only [go_sem];refine cW (uC (TW x hx hk hW _ _ hO) (by simp [aQ,bC]) _) ?_;rintro _ _ ⟨rfl,O15,v15,asG,rfl⟩;simp only [go_sem]
  first
   | (have N7:=hp;rw [hp] at hK;exact hK _ _ ⟨rfl,_,_,by simp only [*,ag,aj,ai,aN,ay,al,aq],rfl⟩)
   | (refine hK _ _ ⟨rfl,_,_,?_,rfl⟩;assumption)
 have hn8:¬ x.kind=8:=by simpa using T1
 simp only [go_sem];apply bE <;> intro ahK
 ·have hk:x.kind=9:=by simpa using ahK
  have u5:gg x=x.labels.length+1:=by simp [gg,hk]
  rw [u5] at fe;obtain⟨a,r,mM⟩:=kd1 (l:=x.kids) (by omega);have yE:x.kids.length=r.length+1:=by rw [mM];rfl
  have qg:x.kids.map ca = .agg (xM a) :: r.map ca:=by rw [mM,bo];simp only [aS,aH,ax,aM]
  have hcut:∀ mem,cutAt mem 8 1 none (.slice (.agg (xM a) :: r.map ca))=some (.slice (r.map ca)):=fun mem=>by have h:=N2 (a :: r) 1 (by simp) mem;simp only [bo,aS,aH,ax,aM] at h;exact h
  have hp:x.pr=ku a.lvl 8 a.pr++([40]++(NU x.labels (r.map Ex.pr)++[41])):=by rw [x.eS];simp [rN,Dz,lj,hk,mM]
  have ec:=hO;rw [hp] at ec;try simp only [ag,aj,ai,aN,ab,af,ah] at ec
  simp only [hcut,qg,aI,cn,bN,go_sem];refine lr [pR,pN,j2 [1],j2 [1,2],j2 [1,2,3],⟨.z,0,[],[0,1,2,3,4],[]⟩] 0 ?_;simp only [hcut,qg,aI,cn,bN,go_sem];refine yL (uC (tR a (hW a (by rw [mM];simp)) 8 _ _ (by omega)) (by simp [aQ,bC]) _) ?_;rintro _ _ ⟨rfl,O16,v16,am6,rfl⟩;have am7:=yJ List.length am6;simp only [ab] at am7;simp only [hcut,qg,aI,cn,bN,go_sem];refine cW (mf (cO [⟨#[40]⟩] (by simp) (jz (by decide) ml) _ _ (by simp only [ag,aj,ai,aN,ab,af,ah];omega)) _ 2 rfl rfl (fun _=>rfl) rfl) ?_;rintro _ _ ⟨rfl,O17,v17,am8,rfl⟩;have am9:=yJ List.length am8;simp only [ag,aj,ai,aN,ab,af,ah] at am9;simp only [hcut,qg,aI,cn,bN,go_sem];refine lr [pR,pN,j2 [1],pN,j2 [3],j2 [3,4],⟨.z,0,[],[0,1,2,3,4,5],[]⟩] 0 ?_;simp only [hcut,qg,aI,cn,bN,go_sem];refine yL (uC (E7 x.labels (r) hx.ll (by omega) (by omega) (fun k hk=>hW k (by rw [mM];exact bZ _ hk)) hx.ln _ _ (by omega)) (by simp [aQ,bC]) _) ?_;rintro _ _ ⟨rfl,O18,v18,ana,rfl⟩;have anb:=yJ List.length ana;simp only [ag,aj,ai,aN,ab,af,ah] at anb;simp only [hcut,qg,aI,cn,bN,go_sem];refine cW (mf (cO [⟨#[41]⟩] (by simp) (jz (by decide) ml) _ _ (by simp only [ag,aj,ai,aN,ab,af,ah];omega)) _ 3 rfl rfl (fun _=>rfl) rfl) ?_;rintro _ _ ⟨rfl,O19,v19,ane,rfl⟩;have anf:=yJ List.length ane;simp only [ag,aj,ai,aN,ab,af,ah] at anf;simp only [hcut,qg,aI,cn,bN,go_sem]
  first
   | (have N7:=hp;rw [hp] at hK;exact hK _ _ ⟨rfl,_,_,by simp only [*,ag,aj,ai,aN,ay,al,aq],rfl⟩)
   | (refine hK _ _ ⟨rfl,_,_,?_,rfl⟩;assumption)
 have hn9:¬ x.kind=9:=by simpa using ahK
 simp only [go_sem];apply bE <;> intro JX
 ·have hk:x.kind=10:=by simpa using JX
  have u5:gg x=2:=by simp [gg,hk]
  rw [u5] at fe;obtain⟨a,b,r,mM⟩:=kd2 fe;have hnn:=N5 (hx.nm (by omega));have hp:x.pr=[108,101,116,32]++(bt x.name++([32,61,32]++(a.pr++([32,105,110,32]++b.pr)))):=by rw [x.eS];simp [rN,Dz,lj,hk,mM]
  have ec:=hO;rw [hp] at ec;try simp only [ag,aj,ai,aN,ab,af,ah] at ec
  have si:jD (x.kids.map Ex.pr) [⟨#[108,101,116,32]⟩,x.name,⟨#[32,61,32]⟩,⟨#[]⟩,⟨#[32,105,110,32]⟩,⟨#[]⟩]=[108,101,116,32]++(bt x.name++([32,61,32]++(a.pr++([32,105,110,32]++b.pr)))):=by rw [fg (by decide),fg hnn,fg (by decide),kK,fg (by decide),kK,jD];rw [mM];simp only [dD,bo,a7,n8,ag,aj,ai,aN,ay]
  simp only [go_sem];refine cW (mf (l6 (x.kids) (hx.lk) (hW) [⟨#[108,101,116,32]⟩,x.name,⟨#[32,61,32]⟩,⟨#[]⟩,⟨#[32,105,110,32]⟩,⟨#[]⟩] (by simp) (by rw [fh (by decide),fh hnn,fh (by decide),kL,fh (by decide),kL,pg];omega) _ _ (by rw [si];simp only [ag,aj,ai,aN,ab,af,ah];omega)) _ 2 rfl rfl (fun _=>rfl) rfl) ?_;rintro _ _ ⟨rfl,O20,v20,ahL,rfl⟩;rw [si] at ahL;have ang:=yJ List.length ahL;simp only [ag,aj,ai,aN,ab,af,ah] at ang;simp only [go_sem]
  first
   | (have N7:=hp;rw [hp] at hK;exact hK _ _ ⟨rfl,_,_,by simp only [*,ag,aj,ai,aN,ay,al,aq],rfl⟩)
   | (refine hK _ _ ⟨rfl,_,_,?_,rfl⟩;assumption)
 have asH:¬ x.kind=10:=by simpa using JX
 simp only [go_sem];apply bE <;> intro N8
 ·have hk:x.kind=11:=by simpa using N8
  have u5:gg x=1:=by simp [gg,hk]
  rw [u5] at fe;obtain⟨a,r,mM⟩:=kd1 fe;obtain⟨t0,ts,Mo⟩:=hx.ty (by omega) (by omega);have ra:x.types.map cA = .agg (tM t0) :: ts.map cA:=by rw [Mo,bo];simp only [aF,au,ax,aB]
  have hp:x.pr=[40]++(a.pr++([32,58,32]++(t0.pr++[41]))):=by rw [x.eS];simp [rN,Dz,lj,hk,mM,Mo]
  have ec:=hO;rw [hp] at ec;try simp only [ag,aj,ai,aN,ab,af,ah] at ec
  have si:jD (x.kids.map Ex.pr) [⟨#[40]⟩,⟨#[]⟩,⟨#[32,58,32]⟩]=[40]++(a.pr++[32,58,32]):=by rw [fg (by decide),kK,fg (by decide),jD];rw [mM];simp only [dD,bo,a7,n8,ag,aj,ai,aN,ay]
  simp only [ra,aI,cn,bN,go_sem];refine cW (mf (l6 (x.kids) (hx.lk) (hW) [⟨#[40]⟩,⟨#[]⟩,⟨#[32,58,32]⟩] (by simp) (by rw [fh (by decide),kL,fh (by decide),pg];omega) _ _ (by rw [si];simp only [ag,aj,ai,aN,ab,af,ah];omega)) _ 2 rfl rfl (fun _=>rfl) rfl) ?_;rintro _ _ ⟨rfl,O21,v21,ahM,rfl⟩;rw [si] at ahM;have anh:=yJ List.length ahM;simp only [ag,aj,ai,aN,ab,af,ah] at anh;simp only [ra,aI,cn,bN,go_sem];refine lr [pR,pN,j2 [1],j2 [1,2],j2 [1,2,3],⟨.z,0,[],[0,1,2,3,4],[]⟩] 0 ?_;simp only [ra,aI,cn,bN,go_sem];refine yL (JP (hx.wt t0 (by rw [Mo];exact cP ..)) (by omega) _) ?_;rintro _ _ ⟨rfl,O22,v22,ani,rfl⟩;have anj:=yJ List.length ani;simp only [ag,aj,ai,aN,ab,af,ah] at anj;simp only [ra,aI,cn,bN,go_sem];refine cW (mf (cO [⟨#[41]⟩] (by simp) (jz (by decide) ml) _ _ (by simp only [ag,aj,ai,aN,ab,af,ah];omega)) _ 3 rfl rfl (fun _=>rfl) rfl) ?_;rintro _ _ ⟨rfl,O23,v23,ank,rfl⟩;have anl:=yJ List.length ank;simp only [ag,aj,ai,aN,ab,af,ah] at anl;simp only [ra,aI,cn,bN,go_sem]
  first
   | (have N7:=hp;rw [hp] at hK;exact hK _ _ ⟨rfl,_,_,by simp only [*,ag,aj,ai,aN,ay,al,aq],rfl⟩)
   | (refine hK _ _ ⟨rfl,_,_,?_,rfl⟩;assumption)
 have asI:¬ x.kind=11:=by simpa using N8
 simp only [go_sem];apply bE <;> intro aab
 ·have hk:x.kind=14:=by simpa using aab
  obtain⟨t0,ts,Mo⟩:=hx.ty (by omega) (by omega);have ra:x.types.map cA = .agg (tM t0) :: ts.map cA:=by rw [Mo,bo];simp only [aF,au,ax,aB]
  obtain⟨q1,pf⟩:=gz (if x.kids=[] then ([]:List UInt8) else [32]);have hp:x.pr=[91]++(t0.pr++([124]++(q1++(jn [44,32] (x.kids.map Ex.pr)++[93])))):=by rw [x.eS,<- pf];by_cases AP:x.kids=[] <;> simp [rN,hk,Mo,lj,AP,jn]
  have ec:=hO;rw [hp] at ec;simp only [ag,aj,ai,aN,ab,af,ah] at ec;simp only [ra,aI,cn,bN,go_sem];refine cW (mf (cO [⟨#[91]⟩] (by simp) (jz (by decide) ml) _ _ (by simp only [ag,aj,ai,aN,ab,af,ah];omega)) _ 2 rfl rfl (fun _=>rfl) rfl) ?_;rintro _ _ ⟨rfl,OA,vA,Ms,rfl⟩;have XW:=yJ List.length Ms;simp only [ag,aj,ai,aN,ab,af,ah] at XW;simp only [ra,aI,cn,bN,go_sem];refine lr [pR,pN,j2 [1],j2 [1,2],j2 [1,2,3],⟨.z,0,[],[0,1,2,3,4],[]⟩] 0 ?_;simp only [ra,aI,cn,bN,go_sem];refine yL (JP (hx.wt t0 (by rw [Mo];exact cP ..)) (by omega) _) ?_;rintro _ _ ⟨rfl,OB,vB,XX,rfl⟩;have hlB:=yJ List.length XX;simp only [ag,aj,ai,aN,ab,af,ah] at hlB;simp only [ra,aI,cn,bN,go_sem];refine cW (mf (cO [⟨#[124]⟩] (by simp) (jz (by decide) ml) _ _ (by simp only [ag,aj,ai,aN,ab,af,ah];omega)) _ 3 rfl rfl (fun _=>rfl) rfl) ?_;rintro _ _ ⟨rfl,OC,vC,DB,rfl⟩;have Qs:=yJ List.length DB;simp only [ag,aj,ai,aN,ab,af,ah] at Qs;simp only [ra,aI,cn,bN,go_sem];refine rI (n:=167) tt_ok [30000] (fun a:Nat×List UInt8=>[(2,.ptr 2 0),(3,.ptr 3 0)]) (fun a:Nat×List UInt8=>bM 129 a.1 a.2 [.box [.ptr 0 0],.box [num x.kind,str x.mod,str x.name,str x.text,num x.num,.slice (.agg (tM t0) :: ts.map cA),.slice (x.labels.map cr),.slice (x.kids.map ca)]]) 4 (fun a=>a.2=O++([91]++(t0.pr++([124]++q1)))) (fun Z1 dm=>?_) ?_;·simp only [ra,aI,cn,bN,go_sem];apply bE <;> intro aac;(·(have AP:¬ x.kids=[]:=fun e=>by have h0:=qB aac;rw [e] at h0;simp at h0);rw [g5 AP] at pf;have Ej:=yJ List.length pf;simp only [ag,aj,ai,aN,ab,af,ah] at Ej;simp only [ra,aI,cn,bN,go_sem];refine cW (mf (cO [⟨#[32]⟩] (by simp) (jz (by decide) ml) _ _ (by simp only [ag,aj,ai,aN,ab,af,ah];omega)) _ 4 rfl rfl (fun _=>rfl) rfl) ?_;rintro _ _ ⟨rfl,Oy,vy,jV,rfl⟩;have CR:=yJ List.length jV;simp only [ag,aj,ai,aN,ab,af,ah] at CR;simp only [ra,aI,cn,bN,go_sem];refine dm _ ⟨(vy,Oy),?_,da (by omega) (by simp only [ra,aI,cn,bN,go_sem])⟩;dsimp only;rw [jV,DB,XX,Ms,<- pf];simp only [dD,ag,aj,ai,aN,ay]);have AP:x.kids=[]:=dn (by have h0:=k9 aac;omega);rw [gH AP] at pf;obtain⟨Oy,jV⟩:=gy OC;obtain⟨vy,Qg⟩:=gy vC;rw [<- jV,<- Qg];simp only [ra,aI,cn,bN,go_sem];refine dm _ ⟨(vy,Oy),?_,da (by omega) (by simp only [ra,aI,cn,bN,go_sem])⟩;dsimp only;rw [jV,DB,XX,Ms,<- pf];simp only [dD,ag,aj,ai,aN,ay]
  rintro⟨vb,Ob⟩ pe;dsimp only at pe;have yp:=yJ List.length pe;simp only [ag,aj,ai,aN,ab,af,ah] at yp;dsimp only [bM];simp only [ra,aI,cn,bN,go_sem];refine cW (wf2 (uE 119 [.ptr 2 0,.ptr 3 0] (x.kids.map Ex.pr) _ (by first|(simp;done)|(rw [aa2,aC];omega)) hx.lk ⟨#[44,32]⟩ (by decide) [.ptr 0 0] [num x.kind,str x.mod,str x.name,str x.text,num x.num,.slice (.agg (tM t0) :: ts.map cA),.slice (x.labels.map cr),.slice (x.kids.map ca)] rfl rfl rfl (by have h:=ahH hx hW;simp only [xM,tM,dM,ra] at h;exact h) _ _ (by rw [aN];omega)) rfl rfl rfl _) ?_;rintro _ _ ⟨rfl,O28,v28,anm,rfl⟩;have ann:=yJ List.length anm;simp only [ag,aj,ai,aN,ab,af,ah] at ann;simp only [ra,aI,cn,bN,go_sem];refine cW (mf (cO [⟨#[93]⟩] (by simp) (jz (by decide) ml) _ _ (by simp only [ag,aj,ai,aN,ab,af,ah];omega)) _ 2 rfl rfl (fun _=>rfl) rfl) ?_;rintro _ _ ⟨rfl,O29,v29,ano,rfl⟩;have anp:=yJ List.length ano;simp only [ag,aj,ai,aN,ab,af,ah] at anp;simp only [ra,aI,cn,bN,go_sem]
  first
   | (have N7:=hp;rw [hp] at hK;exact hK _ _ ⟨rfl,_,_,by simp only [*,ag,aj,ai,aN,ay,al,aq],rfl⟩)
   | (refine hK _ _ ⟨rfl,_,_,?_,rfl⟩;assumption)
 have asJ:¬ x.kind=14:=by simpa using aab
 simp only [go_sem];apply bE <;> intro aad
 ·have hk:x.kind=16:=by simpa using aad
  simp only [go_sem];refine cW (uC (TX x hx hk hW _ _ hO) (by simp [aQ,bC]) _) ?_;rintro _ _ ⟨rfl,O30,v30,asK,rfl⟩;simp only [go_sem]
  first
   | (have N7:=hp;rw [hp] at hK;exact hK _ _ ⟨rfl,_,_,by simp only [*,ag,aj,ai,aN,ay,al,aq],rfl⟩)
   | (refine hK _ _ ⟨rfl,_,_,?_,rfl⟩;assumption)
 have asL:¬ x.kind=16:=by simpa using aad
 simp only [go_sem];refine cW (uC (TY x hx (by have:=hx.k0;have:=hx.k1;omega) hW _ _ hO) (by simp [aQ,bC]) _) ?_;rintro _ _ ⟨rfl,O31,v31,asM,rfl⟩;simp only [go_sem]
 first
  | (have N7:=hp;rw [hp] at hK;exact hK _ _ ⟨rfl,_,_,by simp only [*,ag,aj,ai,aN,ay,al,aq],rfl⟩)
  | (refine hK _ _ ⟨rfl,_,_,?_,rfl⟩;assumption)
end
theorem JY (hP:bJ.uO 1=some jg) (P:Ex->Prop) (hX:∀ x,P x->N4 x/\∀ k∈x.kids,P k):∀ (N:Nat) (x:Ex),x.size<=N->P x->WX x
 | 0,x,h,_=>absurd x.size_pos (by omega)
 | N+1,x,h,hx=>by
  obtain⟨h1,h2⟩:=hX x hx
  refine Mr hP x h1 fun k hk=>JY hP P hX N k ?_ (h2 k hk)
  have hs:=x.oE
  obtain⟨i,hi⟩:=br.1 hk
  have:=bX Ex.size hi
  omega
end
section
theorem wm (a b:g6):(S3 a b=true/\a≠b/\S3 b a=false/\yO a b = -1)\/(a=b/\S3 b a=false/\yO a b=0)\/(S3 b a=true/\a≠b/\yO a b=1):=by
 unfold yO;rw [GF,GF];by_cases h1:a.data.toList<b.data.toList;·(have dI:a≠b:=fun e=>by subst e;exact avW _ h1);have h2:¬ b.data.toList<a.data.toList:=fun h2=>avW _ (awk h1 h2);exact .inl ⟨decide_eq_true h1,dI,decide_eq_false h2,by rw [gH (decide_eq_true h1)]⟩
 by_cases he:a=b;·subst he;exact .inr (.inl ⟨rfl,decide_eq_false h1,by rw [g5 (by simpa using h1),gH rfl]⟩)
 have dI:a.data.toList≠b.data.toList:=fun e=>he (by cases a;cases b;congr 1;exact ake.1 e);have h2:b.data.toList<a.data.toList:=awF h1 dI.symm;exact .inr (.inr ⟨decide_eq_true h2,he,by rw [g5 (by simpa using h1),g5 he]⟩)
theorem ahO {a b:g6} (h:yO a b=0):yV a b=5:=by
 rcases wm a b with ⟨-,-,-,h4⟩|⟨h1,-,-⟩|⟨-,-,h4⟩
 ·rw [h] at h4;cases h4
 ·unfold yV;rw [gH h1]
 rw [h] at h4;cases h4
theorem ahP {a b:g6} (h:0<yO a b):yV a b=1:=by
 rcases wm a b with ⟨-,-,-,h4⟩|⟨-,-,h4⟩|⟨h1,h2,-⟩
 ·rw [h4] at h;exact absurd h (by decide)
 ·rw [h4] at h;exact absurd h (by decide)
 unfold yV;rw [g5 h2,gH h1]
theorem ahQ {a b:g6} (h:¬ yO a b=0) (h':¬ 0<yO a b):yV a b=0:=by
 rcases wm a b with ⟨-,h2,h3,-⟩|⟨-,-,h4⟩|⟨-,-,h4⟩
 ·unfold yV;rw [g5 h2,g5 (by rw [h3];simp)]
 ·exact absurd h4 h
 rw [h4] at h';exact absurd (by decide) h'
theorem G3 {ns:List g6} {i:Nat} {a b:g6} (hi:1<=i) (ha:ns[i-1]?=some a) (hb:ns[i]?=some b):iU (ns.drop (i-1))=if yV a b=0 then iU (ns.drop i) else yV a b:=by have h1:=(az.1 ha);have h2:=(az.1 hb);rw [ed h1.1,h1.2,show i-1+1=i by omega,ed h2.1,h2.2];rfl
theorem Bd {ns:List g6} {i:Nat} (h:ns.length<=i+1):iU (ns.drop i)=0:=by cases hd:ns.drop i with|nil=>rfl|cons a r =>have:=yJ List.length hd;rw [eL,af] at this;have:r=[]:=b9.1 (by omega);subst this;rfl
theorem Ag:∀ (a b:List UInt8),Lib.compareBytes a b=if Op.bytesLess a b=true then -1 else if a=b then 0 else 1
 | [],[]=>by simp [Lib.compareBytes,Op.bytesLess]
 | [],_ :: _=>by simp [Lib.compareBytes,Op.bytesLess]
 | _ :: _,[]=>by simp [Lib.compareBytes,Op.bytesLess]
 | a :: l1,b :: l2=>by
  have ih:=Ag l1 l2
  unfold Lib.compareBytes Op.bytesLess
  by_cases h1:a<b
  ·simp [h1]
  by_cases h2:b<a
  ·have dI:a≠b:=fun e=>by subst e;exact UInt8.lt_irrefl _ h2
   simp [h1,h2,dI]
  have e:a=b:=UInt8.le_antisymm (UInt8.not_lt.1 h2) (UInt8.not_lt.1 h1)
  subst e
  simp [h1,ih]
theorem XY (s t:g6):∃ r,(fun v=>v=num (yO s t)) r/\sS ak 283 [str s,str t] r:=by
 refine⟨_,rfl,(show sS ak 283 [str s,str t] (j6 (.int .i64 (yO s t))) from Sz (P:=ak) (fn:=Tryz.f283) (ext:=Extern.BytealgCompare.compare) Tryz.func283 kr rfl kr kr (l:=[.string s,.string t]) rfl fun w=>?_)⟩;have h:=Lib.run_compareString (P:=ak) s t w;rw [h];congr 2;rw [Ag];unfold yO S3;rw [<- ByteArray.toList_eq,<- ByteArray.toList_eq];by_cases hl:Op.bytesLess s.toList t.toList=true;·rw [gH hl,gH hl]
 rw [g5 hl,g5 hl];by_cases he:s=t;·rw [gH he,gH (by rw [he])]
 rw [g5 he,g5 fun e=>he (by have h:=cY s t;rw [e] at h;simpa using h)]
theorem XZ (s t:g6):Cn 271 [str s,str t] (num (yO s t)):=by refine cM [] 8 [.tmp 4] Tryz.func271 Tryz.call271 fun K hK=>?_;simp only [go_sem];refine cN (XY _ _) ?_;rintro _ rfl;simp only [go_sem];exact hK _ rfl
theorem CV (s t:g6):Cn 241 [str s,str t] (num (yO s t)):=by refine cM [] 8 [.tmp 4] Tryz.func241 Tryz.call241 fun K hK=>?_;simp only [go_sem];refine cL (XZ _ _) ?_;simp only [go_sem];exact hK _ rfl
theorem Qt (hG:bJ.g=some 0) (x:Fd):Cn 175 [gZ x] (bl (!dC x.name)):=by refine cM [] 7 [.tmp 2] Tryz.func175 Tryz.call175 fun K hK=>?_;simp only [dD,bL,au];simp only [go_sem];refine cL (jv hG _) ?_;simp only [go_sem];exact hK _ rfl
theorem Mt (x:Fd):Cn 235 [gZ x] (bl (x.opt)):=by refine cM [] 5 [.tmp 2] Tryz.func235 Tryz.call235 fun K hK=>?_;simp only [dD,bL,au];simp only [go_sem];exact hK _ rfl
theorem Qu (x:Fd):Cn 178 [gZ x] (str x.name):=by refine cM [] 5 [.tmp 2] Tryz.func178 Tryz.call178 fun K hK=>?_;simp only [dD,bL,au];simp only [go_sem];exact hK _ rfl
section
attribute [local go_sem] dr
theorem T3 (g:FuncId) (q:Fd->Bool) (l:List Fd) (hg:∀ x∈l,Cn g [gZ x] (bl (q x))) (hl:l.length<=1048576):∃ r_,(fun w=>∃ k:Int,w=num k/\decide (0<=k)=l.any q) r_/\dz ak 181 [.slice (jw l),.sc (.func (.func g) #[] #[])] r_:=by
 refine cM [] 19 [.tmp 4] Tryz.func181 Tryz.call181 fun K hK=>?_;simp only [go_sem];refine di tt_ok [] [8] 0 [0,1,7] (fun vs=>((l.length:Int)-Go.Eng.intOf (vs.headD .undef)).toNat) (fun vs=>∃ i:Nat,vs=[num i]/\i<=l.length/\∀ j<i,∀ x,l[j]?=some x->q x=false) (by omega) (by simp only [go_sem]) (⟨0,rfl,aY _,fun j hj=>absurd hj (bR j)⟩) fun vs hI Z1 dm=>?_;obtain⟨i,rfl,hi,cZ⟩:=hI;simp only [go_sem];apply bE <;> intro kj;·have bH:=jq kj;have hw:=bj i (by omega);obtain⟨x,hx⟩:=gA bH;simp only [dD,hw,bP,hx,bL,au,go_sem];refine cL (by have h:=hg x (aw hx);simp only [dD,bL,au] at h;exact h) ?_;simp only [dD,hw,bP,hx,bL,au,go_sem];apply bE <;> intro iG;(·(have cj:decide (0<=(i:Int))=l.any q:=by rw [ka hx iG];exact decide_eq_true (gV i));simp only [dD,hw,bP,hx,bL,au,go_sem];exact hK _ ⟨_,rfl,cj⟩);simp only [dD,hw,bP,hx,bL,au,go_sem];refine dm _ (fN (by omega) (by simp only [dD,hw,bP,hx,bL,au,go_sem]) ?_ ?_) <;> simp only [eO,lk,reduceIte,zE];(·refine⟨i+1,rfl,bH,fun j hj=>?_⟩;(rcases bn j i with h|h);(·exact cZ j h);(obtain rfl:j=i:=by omega);intro y hy;rw [hx] at hy;cases hy;exact iG);simp only [Go.Eng.intOf,a7];omega
 have fP:=ki kj;have cj:decide (0<=(-1:Int))=l.any q:=(any_none fun j hj=>cZ j (by omega)).symm ▸ rfl;simp only [go_sem];exact hK _ ⟨_,rfl,cj⟩
end
theorem CW (g:FuncId) (q:Fd->Bool) (l:List Fd) (hg:∀ x∈l,Cn g [gZ x] (bl (q x))) (hl:l.length<=1048576):Cn 93 [.slice (jw l),.sc (.func (.func g) #[] #[])] (bl (l.any q)):=by refine cM [] 9 [.tmp 4] Tryz.func93 Tryz.call93 fun K hK=>?_;simp only [go_sem];refine cF (T3 g q l hg hl) ?_;rintro _ ⟨k,rfl,hk⟩;simp only [go_sem];exact hK _ (yJ bl hk)
section
attribute [local go_sem] dr bP bL au
theorem T4 (g:FuncId) (l:List Fd) (hg:∀ x∈l,Cn g [gZ x] (str (Fd.name x))) (hl:l.length<=1048576):Cn 177 [.slice (jw l),.sc (.func (.func g) #[] #[])] (num (iU (l.map Fd.name))):=by
 refine cM [] 33 [.tmp 4] Tryz.func177 Tryz.call177 fun K hK=>?_;simp only [go_sem];refine di tt_ok [] [5] 0 [0,1] (fun vs=>((l.length:Int)-Go.Eng.intOf (vs.headD .undef)).toNat) (fun vs=>∃ i:Nat,vs=[num i]/\1<=i/\(1<i->i<=l.length)/\iU (l.map Fd.name)=iU ((l.map Fd.name).drop (i-1))) (by omega) (by simp only [go_sem]) (⟨1,rfl,aA _,fun h=>absurd h (by decide),rfl⟩) fun vs hI Z1 dm=>?_;obtain⟨i,rfl,hi,hle,hinv⟩:=hI;simp only [go_sem];apply bE <;> intro jf;·have bH:=jq jf;obtain⟨x,hx⟩:=gB l (i-1) (by omega);obtain⟨y,hy⟩:=gA bH;have hw:=bj i (by omega);(have jk:IntKind.i64.wrap ((i:Int)-1)=((i-1:Nat):Int):=by rw [IntWalk.i64_in _ (by omega)];omega);have jH:iU ((l.map Fd.name).drop (i-1))=if yV (Fd.name x) (Fd.name y)=0 then iU ((l.map Fd.name).drop i) else yV (Fd.name x) (Fd.name y):=G3 hi (by rw [ae,hx];rfl) (by rw [ae,hy];rfl);simp only [dD,hw,jk,hx,hy,go_sem];refine lr [pN,pN,pN,pN,pR,pR,pN,pN,pN,pN,pR,pR,pN,pN,pN] 0 ?_;simp only [dD,hw,jk,hx,hy,go_sem];refine lQ (by have h:=hg x (aw hx);simp only [dD,bL,au] at h;exact h) ?_;simp only [dD,hw,jk,hx,hy,go_sem];refine lQ (by have h:=hg y (aw hy);simp only [dD,bL,au] at h;exact h) ?_;simp only [dD,hw,jk,hx,hy,go_sem];refine lQ (CV _ _) ?_;simp only [dD,hw,jk,hx,hy,go_sem];apply bE <;> intro pc;(·(have cj:5=iU (l.map Fd.name):=by rw [hinv,jH,ahO (qB pc)];rfl);simp only [dD,hw,jk,hx,hy,go_sem];exact hK _ (yJ num cj));simp only [dD,hw,jk,hx,hy,go_sem];apply bE <;> intro ph;(·(have cj:1=iU (l.map Fd.name):=by rw [hinv,jH,ahP (qB ph)];rfl);simp only [dD,hw,jk,hx,hy,go_sem];exact hK _ (yJ num cj));have qX:yV (Fd.name x) (Fd.name y)=0:=ahQ (k9 pc) (k9 ph);simp only [dD,hw,jk,hx,hy,go_sem];refine dm _ (fN (by omega) (by simp only [dD,hw,jk,hx,hy,go_sem]) ?_ ?_) <;> simp only [eO,lk,reduceIte,zE];(·exact⟨i+1,rfl,by omega,fun _=>bH,by rw [hinv,jH,gH qX];rfl⟩);simp only [Go.Eng.intOf,a7];omega
 have fP:=ki jf;have cj:(0:Int)=iU (l.map Fd.name):=by rw [hinv];exact (Bd (by rw [aC];omega)).symm
 simp only [go_sem];exact hK _ (yJ num cj)
end
end
theorem ci0 (n:Nat):((n:Int)=0)=(n=0):=by rw [eq_iff_iff];omega
theorem ci1 (n:Nat):((n:Int)=1)=(n=1):=by rw [eq_iff_iff];omega
def ahS (t:Ty) (ao:Bool):Bool :=
  (decide (t.kind=8) || !ao) &&
  (if t.kind=0\/t.kind=1\/t.kind=2\/t.kind=3\/t.kind=4 then jI t.mod&&jI t.name&&decide (t.args.length=0)&&decide (t.bT.length=0)
   else if t.kind=5 then jI t.mod&&jI t.name&&decide (t.args.length=1)&&decide (t.bT.length=0)
   else if t.kind=6\/t.kind=7 then jI t.mod&&jI t.name&&decide (t.args.length=0)
   else if t.kind=8 then jI t.mod&&jI t.name&&decide (t.args.length=1)
   else if t.kind=9 then jI t.mod&&decide (t.args.length=0)&&decide (t.bT.length=0)
   else if t.kind=10 then decide (t.bT.length=0) else false)
theorem adu (t:Ty):L8 t=ahS t (t.bT.any Fd.opt):=rfl
theorem Qv (t:Ty) (hl:t.bT.length<=1048576):Cn 171 [cA t] (bl (L8 t)):=by refine cM [] 106 [.tmp 2] Tryz.func171 Tryz.call171 fun K hK=>?_;have qp:=adu t;have Bx:=CW 235 Fd.opt t.bT (fun x _=>Mt x) hl;obtain⟨ao,hao⟩:=gz (t.bT.any Fd.opt);obtain⟨em,iK⟩:=gz (decide (t.mod=⟨#[]⟩));obtain⟨en,gp⟩:=gz (decide (t.name=⟨#[]⟩));obtain⟨na,vh⟩:=gz t.args.length;obtain⟨nf,Q5⟩:=gz t.bT.length;rw [hao] at qp Bx;unfold ahS jI at qp;rw [iK,gp,vh,Q5] at qp;obtain⟨k,hk⟩:=gz t.kind;rw [hk] at qp;rw [qp] at hK;clear hao qp;simp only [aF,au];rw [hk];clear hk;simp only [dr,bc,cY,iK,gp,vh,Q5,go_sem];refine lr [pN,pR,pN,pN,pR,pN,pN,pR,pN,pN,pR,pN,pN,pN,pN,pN] 0 ?_;repeat' (simp only [dr,bc,cY,iK,gp,vh,Q5,go_sem];first|apply bE <;> intro hg|refine cL (Bx) ?_|(exact hK _ (yJ bl (by clear hK Bx iK gp vh Q5;simp_all [ci0,ci1]))))
theorem aaf (n:Nat):(32<(n:Int))=(32<n):=by rw [eq_iff_iff];omega
theorem ahT (n:Nat):(8<(n:Int))=(8<n):=by rw [eq_iff_iff];omega
theorem T5 (t:Ty):pd t=if L8 t=false then 1 else if 32<t.bT.length\/8<t.args.length then 7
 else if (t.kind=9/\yR t.name=false)\/(t.kind=10/\(lD t.mod=false\/iv t.name=false)) then 4
 else if (t.bT.any fun x=>!dC x.name)=true then 4 else iU (t.bT.map Fd.name):=rfl
theorem JZ (hG:bJ.g=some 0) (t:Ty) (hl:t.bT.length<=1048576) (hm:t.mod.size<=1048576):Cn 89 [cA t] (num (pd t)):=by refine cM [] 50 [.tmp 2] Tryz.func89 Tryz.call89 fun K hK=>?_;have hS:=Qv t hl;rw [aF] at hS;simp only [au] at hS;obtain⟨sb,hsb⟩:=gy (L8 t);obtain⟨nb,qX⟩:=gy (t.bT.any (fun x=>!dC x.name));have gi:=T5 t;have hA:=CW 175 (fun x=>!dC x.name) t.bT (fun x _=>Qt hG x) hl;have hI:=T4 178 t.bT (fun x _=>Qu x) hl;rw [<- hsb] at gi hS;rw [<- qX] at gi hA;clear hsb qX;simp only [aF,au];simp only [dr,bc,go_sem];refine cL (hS) ?_;repeat' (simp only [dr,bc,go_sem];first|apply bE <;> intro hg|refine cL (Jo _) ?_|refine cL (yS hG t.mod hm) ?_|refine cL (qM _) ?_|refine cL (hA) ?_|refine cL (hI) ?_|(exact hK _ (yJ num (by clear hK hA hI hS;rw [gi];clear gi;simp_all [aaf,ahT] <;> (intro h;omega)))))
section
section
variable {σ:Type} {M:σ->List bx} {n k k1 k2:Nat}
theorem T6 (hn:∀ s,(M s).length=n) (hk:k<n) (gW:k1<n) (kh:k2<n) (h1:∀ s,(M s)[k1]?=some (.box [.kx k])) (h2:∀ s,(M s)[k2]?=some (.box [.jh (.func 170) [] [.ptr k1 0,.ptr k2 0]])) (hb:∀ s,(M s).all (a6 n)=true)
  (step:σ->Ty->σ×Bool) (G:σ->Prop) (hG:∀ s u,G s->(step s u).2=true->G (step s u).1) {B:Nat} (hB:B<=1048576) (Pd:Ty->Prop) (hy:∀ s u,G s->u.size<=B->Pd u->KJ ak k [cA u] (M s) (step s u).2 (M (step s u).1)) :
  ∀ (N:Nat) (t:Ty) (s:σ),G s->(∀ v∈t.nodes,Pd v)->t.size<=N->N<=B->bK ak 170 [cA t,.ptr k1 0,.ptr k2 0] (M s) (bl (dP step s t.nodes).2) (M (dP step s t.nodes).1):=by
 have g0:∀ s (l:List bx),(M s++l)[n]?=l[0]?:=fun s l=>by rw [bm (by rw [hn];exact aA _),hn,dW]
 have g1:∀ s (l:List bx),(M s++l)[n+1]?=l[1]?:=fun s l=>by rw [bm (by rw [hn];omega),hn,eC]
 have ZI:∀ s (l:List bx),(M s++l)[k1]?=some (.box [.kx k]):=fun s l=>by rw [bz (by rw [hn];exact gW)];exact h1 s
 have gk2:∀ s (l:List bx),(M s++l)[k2]?=some (.box [.jh (.func 170) [] [.ptr k1 0,.ptr k2 0]]):=fun s l=>by rw [bz (by rw [hn];exact kh)];exact h2 s
 have gs:∀ s (l:List bx) X,(M s++l).set n X=M s++l.set 0 X:=fun s l X=>by rw [eR _ _ (by rw [hn];exact aA _),hn,dW]
 have gt:∀ s (l:List bx),(M s++l).take n=M s:=fun s l=>by rw [<- hn s,rW]
 have ZJ:∀ s,(M s).take n=M s:=fun s=>by rw [b8 (by rw [hn];exact aA _)]
 have fy:∀ s u (l:List bx),G s->u.size<=B->Pd u->KJ ak k [cA u] (M s++l) (step s u).2 (M (step s u).1++l):=fun s u l hg hu hp=>by refine (hy s u hg hu hp).frame (by rw [hn];exact hk) ?_ (by rw [hn];exact hb s) (by rw [hn,hn]) (by rw [hn];exact hb _) l;rw [aF];simp [aQ,bC,au]
 intro N;induction N with|zero=>intro t s hg hP h;have:=t.size_pos;omega|succ N ih =>intro t s hg hP hN hNB;have Cx:=t.gI;have nL:=t.eA;have L6:=bB Ty.size Ty.size_pos t.parts;have dI:=t.dZ;have hp:=yU t (by omega);have Tl:=fun l=>fy s t l hg (by omega) (hP t (by rw [t.dZ];simp));(have ZK:∀ u s (l:List bx),G s->(∀ v∈u.nodes,Pd v)->u.size<=N->bK ak 170 [cA u,.ptr k1 0,.ptr k2 0] (M s++l) (bl (dP step s u.nodes).2) (M (dP step s u.nodes).1++l):=fun u s l hg hq hu=>by refine (ih u s hg hq hu (by omega)).frame ?_ (by rw [hn];exact hb s) rfl (by rw [hn,hn]) (by rw [hn];exact hb _) l;rw [aF,hn];simp [aQ,bC,au,gW,kh]);simp only [aF,au] at ZK;refine oO tt_ok (fn:=Tryz.f170) n (by rw [hn];exact aA _) Tryz.func170 rfl Tryz.call170 ?_;simp only [dD,dj,Tryz.ntmps170,af,ah,zA,zF,aV,aW];rw [aF] at hp Tl ⊢;simp only [au] at hp Tl ⊢;refine bY fun K hK=>?_;simp only [hn,go_sem];refine hK _ ?_;refine bS ?_;refine bY fun K hK=>?_;simp only [ZI,g0,hn,go_sem];refine .inl ⟨_,_,Tl _,?_⟩;(try simp only [go_sem]);refine hK _ ?_;cases Tm:(step s t).2 with|false =>refine bD rfl ?_;refine bY fun K hK=>?_;simp only [go_sem];refine hK _ ?_;refine cy ⟨.inl rfl,?_⟩;(have oh:dP step s t.nodes=((step s t).1,false):=by rw [dI];simp [dP,Tm]);rw [oh];exact⟨rfl,rfl,by dsimp only;rw [gt];exact hb _,(gt _ _).symm⟩|true =>refine bD rfl (cR ?_);show fc _ _ _ _ _ _;refine bS ?_;refine bY fun K hK=>?_;simp only [ZI,g0,hn,go_sem];refine .inl ⟨_,_,by simp only [bc,go_sem,aE],hp,?_⟩;(try simp only [bc,go_sem]);refine hK _ ?_;obtain⟨ps,Cy⟩:∃ ps,ps=t.parts:=⟨_,rfl⟩;rw [<- Cy] at nL L6 dI ⊢;have Tu:∀ u∈ps,∀ v∈u.nodes,Pd v:=fun u hu v hv=>hP v (by rw [dI];exact bZ _ (fU.2 ⟨u,hu,hv⟩));refine cz (dY (fun N st=>∃ (i:Nat) (s':σ),G s'/\N=ps.length-i/\i<=ps.length/\dP step s (t :: (ps.take i).flatMap Ty.nodes)=(s',true) /\ st = { fr:=[.undef,.ptr k1 0,.ptr k2 0,.undef,.undef,.undef,.undef,.undef,.undef,.undef,.undef,.undef,.slice (cV ps),num ps.length,num i]++List.replicate 8 .undef,mem:=M s' }) ps.length ?_ ?_);(·refine⟨n,(false::true::true::(rp 9 false [true,true,true])),by rw [hn];exact aA _,by simp only [cp,aQ,bC,a6,zB,gW,kh,lP],by dsimp only;rw [gt];exact hb _,0,(step s t).1,hG s t hg Tm,by omega,by omega,by simp [dP,Tm],?_⟩;dsimp only;rw [gt];rfl);rintro N' st ⟨i,s',Ib,rfl,hi,Tn,rfl⟩;simp only [dD,aV,aW];by_cases bH:i<ps.length;(·have hd:=kD bH;refine bY fun K hK=>?_;simp only [bc,hd,go_sem];refine hK _ ?_;refine bS (bD rfl (cR ?_));refine bS (cz ?_);obtain⟨u,hu⟩:=gA bH;have hus:=bX Ty.size hu;have kq:=fun l=>ZK u s' l Ib (Tu u (aw hu)) (by omega);(have AZ:(ps.take (i+1)).flatMap Ty.nodes=(ps.take i).flatMap Ty.nodes++u.nodes:=by rw [cg,hu];simp);(have EO:dP step s (t :: (ps.take (i+1)).flatMap Ty.nodes)=dP step s' u.nodes:=by rw [AZ,<- al,jS,Tn];simp);refine bY fun K hK=>?_;simp only [cK,hu,aF,au,hn,g0,gs,go_sem];refine hK _ ?_;refine bY fun K hK=>?_;simp only [gk2,g0,hn,go_sem];(refine .inr <| .inl ⟨_,_,kq _,?_⟩);(try simp only [go_sem]);refine hK _ ?_;cases To:(dP step s' u.nodes).2 with|false =>refine bD rfl ?_;refine bY fun K hK=>?_;simp only [go_sem];refine hK _ ?_;refine cy ⟨.inl rfl,?_⟩;(have oh:dP step s t.nodes=((dP step s' u.nodes).1,false):=by (have CB:ps.flatMap Ty.nodes=(ps.take (i+1)).flatMap Ty.nodes++(ps.drop (i+1)).flatMap Ty.nodes:=by rw [<- qq,ji]);rw [dI,CB,<- al,jS,EO,To];simp);rw [oh];exact⟨rfl,rfl,by dsimp only;rw [gt];exact hb _,(gt _ _).symm⟩|true =>refine bD rfl (cR ?_);show fc _ _ _ _ _ _;refine jR fun K hK=>?_;simp only [go_sem];refine hK _ ?_;have iR:=bj i (by omega);rw [iR];refine⟨ps.length-(i+1),by omega,n,(false::true::true::(rp 9 false [true,true,true])),by rw [hn];exact aA _,by simp only [cp,aQ,bC,a6,zB,gW,kh,lP],by dsimp only;rw [gt];exact hb _,i+1,(dP step s' u.nodes).1,rL step hG _ _ Ib To,rfl,bH,by rw [EO,<- To],?_⟩;dsimp only;rw [gt];rfl);have hd:=kE bH;refine bY fun K hK=>?_;simp only [bc,hd,go_sem];refine hK _ ?_;refine bS (bD rfl (fA ?_));(have jx:i=ps.length:=by omega);subst jx;show fc _ _ _ _ _ _;refine bY fun K hK=>?_;simp only [go_sem];refine hK _ ?_;refine cy ⟨.inl rfl,?_⟩;rw [aE] at Tn;rw [dI,Tn];exact⟨rfl,rfl,by dsimp only;rw [ZJ];exact hb _,(ZJ _).symm⟩
end
section
variable {σ:Type} {M:σ->List bx} {n k kt:Nat}
theorem T7 (hn:∀ s,(M s).length=n) (hk:k<n) (P0:kt<n) {t:Ty} (h1:∀ s,(M s)[kt]?=some (.box (au t))) (hb:∀ s,(M s).all (a6 n)=true)
  (step:σ->Ty->σ×Bool) (G:σ->Prop) (hG:∀ s u,G s->(step s u).2=true->G (step s u).1) {B:Nat} (hB:B<=1048576) (Pd:Ty->Prop) (hy:∀ s u,G s->u.size<=B->Pd u->KJ ak k [cA u] (M s) (step s u).2 (M (step s u).1)) (ht:t.size<=B) (hP:∀ v∈t.nodes,Pd v) (s:σ) (hs:G s) :
  bK ak 169 [.kx k,.ptr kt 0] (M s) (.fZ []) (M (dP step s t.nodes).1):=by
 have g0:∀ s (l:List bx),(M s++l)[n]?=l[0]?:=fun s l=>by rw [bm (by rw [hn];exact aA _),hn,dW]
 have g1:∀ s (l:List bx),(M s++l)[n+1]?=l[1]?:=fun s l=>by rw [bm (by rw [hn];omega),hn,eC]
 have ZL:∀ s (l:List bx),(M s++l)[kt]?=some (.box (au t)):=fun s l=>by rw [bz (by rw [hn];exact P0)];exact h1 s
 have gs:∀ s (l:List bx) X,(M s++l).set (n+1) X=M s++l.set 1 X:=fun s l X=>by rw [eR _ _ (by rw [hn];omega),hn,eC]
 have gt:∀ s (l:List bx),(M s++l).take n=M s:=fun s l=>by rw [<- hn s,rW]
 have hw:∀ s,G s->bK ak 170 [cA t,.ptr n 0,.ptr (n+1) 0] (M s++[.box [.kx k],.box [.jh (.func 170) [] [.ptr n 0,.ptr (n+1) 0]]]) (bl (dP step s t.nodes).2) (M (dP step s t.nodes).1++[.box [.kx k],.box [.jh (.func 170) [] [.ptr n 0,.ptr (n+1) 0]]]):=fun s hs=>by refine T6 (M:=fun s=>M s++[.box [.kx k],.box [.jh (.func 170) [] [.ptr n 0,.ptr (n+1) 0]]]) (n:=n+2) (k:=k) (k1:=n) (k2:=n+1) (fun s=>by simp [hn]) (by omega) (by omega) (by omega) (fun s=>g0 _ _) (fun s=>g1 _ _) (fun s=>?_) step G hG hB Pd (fun s u hg hu hq=>?_) t.size t s hs hP (aA _) ht;(·rw [mO,aG];refine⟨rz (by omega) (hb s),?_⟩;simp [a6,aQ,bC];omega);refine (hy s u hg hu hq).frame (by rw [hn];exact hk) ?_ (by rw [hn];exact hb s) (by rw [hn,hn]) (by rw [hn];exact hb _) _;rw [aF];simp [aQ,bC,au]
 refine oO tt_ok (fn:=Tryz.f169) n (by rw [hn];exact aA _) Tryz.func169 rfl Tryz.call169 ?_;simp only [dD,dj,Tryz.ntmps169,af,ah,zA,zF,aV,aW];have vk:=hw s hs;rw [aF] at vk;simp only [au] at vk ZL;refine bY fun K hK=>?_;simp only [hn,go_sem];refine hK _ ?_;refine bY fun K hK=>?_;simp only [hn,ab,ay,go_sem];refine hK _ ?_;refine bY fun K hK=>?_;simp only [hn,g1,gs,go_sem];refine hK _ ?_;refine jR fun K hK=>?_;simp only [hn,g1,ZL,go_sem];refine .inr <| .inl ⟨_,_,vk,?_⟩
 try simp only [go_sem]
 refine hK _ ?_;refine⟨.inr rfl,rfl,rfl,?_,?_⟩;·dsimp only;rw [gt];exact hb _
 dsimp only;rw [gt]
theorem Mu {n0:Nat} {st:St} {Q:Exit->St->Prop} {f:Operand} {params:Array Tmp} {assign body:Code} {t:Ty} (pre:σ->List bx) (s0:σ) (n kt:Nat) (nG:st.mem=pre s0) (hn:∀ s,(pre s).length=n) (P0:kt<n)
  (ht:∀ s,(pre s)[kt]?=some (.box (au t))) (hb:∀ s,(pre s).all (a6 (n+1))=true) (AM:st.fr.all (aQ (n+1))=true) (hf:st.eval f = .jh (.func 169) [] [.ptr kt 0]) (hp:params.size=1) (step:σ->Ty->σ×Option Code) {B:Nat} (hB:B<=1048576) (ly:t.size<=B) (Pd:Ty->Prop) (hPt:∀ v∈t.nodes,Pd v)
  (CC:∀ s u,u.size<=B->Pd u->∀ (l:Nat) (LR LB:bx),a6 (n+1) LR=true->a6 (n+1) LB=true->fc ak (some l) (n+1) assign { fr:=pL params.toList [cA u] st.fr,mem:=pre s++[LR] } fun ex uR=>ex = .normal/\uR.mem[n]?=some LR /\
   fc ak (some l) (n+1) body { uR with mem:=uR.mem.set n LB } fun ex AO=>s6 ex=some (step s u).2/\AO.mem[n]?=some LB/\AO.mem.take n=pre (step s u).1)
  (hq:match (jy step s0 t.nodes).2 with
   | none=>Q .normal { st with mem:=pre (jy step s0 t.nodes).1++[.dead] }
   | some c=>fc ak none n0 c { st with mem:=pre (jy step s0 t.nodes).1++[.dead] } Q):fc ak none n0 (.rangeFunc f params assign body) st Q:=by
 have hlen:st.mem.length=n:=by rw [nG,hn]
 have gn:∀ s X,(pre s++[X])[n]?=some X:=fun s X=>by rw [bm (by rw [hn];exact aA _),hn,dW];rfl
 have gk:∀ s X,(pre s++[X])[kt]?=some (.box (au t)):=fun s X=>by rw [bz (by rw [hn];exact P0)];exact ht s
 have Jv:∀ s (X Y:bx),(pre s++[X]).set n Y=pre s++[Y]:=fun s X Y=>by rw [eR _ _ (by rw [hn];exact aA _),hn,dW];rfl
 have Ab:∀ (s:σ) (a:LoopState) (b:Option Code),(pre s++[bx.loop a b st.fr params assign body]).all (a6 (n+1))=true:=fun s a b=>by rw [mO,aG];exact⟨hb s,by simp only [cI,ew,aJ,a6];exact AM⟩
 have it:=T7 (M:=fun s:σ×Option Code=>pre s.1++[.loop (if s.2.isNone then .ready else .done) s.2 st.fr params assign body]) (n:=n+1) (k:=n) (kt:=kt) (t:=t) (fun s=>by simp [hn]) (by omega) (by omega) (fun s=>gk _ _) (fun s=>Ab _ _ _)
  (xI step) (fun s=>s.2=none) (fun s u hs h=>by simpa [xI] using h) hB Pd (fun s u hs hu hq=>by
   obtain⟨s,j⟩:=s
   simp only at hs;subst hs
   refine s7 (fr:=st.fr) (params:=params) (assign:=assign) (body:=body) (gn _ _) (by simp [hp]) fun l=>?_
   have hl:(pre s++[bx.loop .ready none st.fr params assign body]).length=n+1:=by simp [hn]
   simp only [aeX,if_true,hl]
   refine fc.mono (CC s u hu hq l (.loop .ready none st.fr params assign body) (.loop .busy none st.fr params assign body) AM AM) ?_
   rintro ex uR ⟨h1,h2,h3⟩
   refine⟨h1,h2,fc.mono h3 ?_⟩
   rintro ex AO ⟨h4,h5,h6⟩
   refine⟨_,h4,rfl,h5,?_,?_⟩
   ·rw [take_set (hn _) h5 h6];exact Ab _ _ _
   rw [take_set (hn _) h5 h6];rfl) ly hPt (s0,none) rfl
 rw [A3] at it;refine qi (g:=169) (vs:=[.kx n,.ptr kt 0]) (by rw [hf,hlen];rfl) (by rw [nG];exact it) ?_;rw [hlen];refine⟨_,_,_,_,_,_,gn _ _,?_,?_⟩;·cases (jy step s0 t.nodes).2 <;> simp
 generalize hj:(jy step s0 t.nodes).2=j at hq;cases j with|none=>dsimp only at hq ⊢;rw [Jv];exact hq|some c=>dsimp only at hq ⊢;rw [Jv];exact hq
end
end
theorem T8 (t:Ty):j0 t=if decide (4096<(t.size:Int))||decide (32<(t.depth:Int)) then 7 else cx pd t.nodes:=by unfold j0;by_cases h1:4096<t.size <;> by_cases h2:32<t.depth <;> simp [h1,h2] <;> (intros;omega)
theorem tS {α:Type} (f:α->Int) (c:Code):∀ (l:List α) (s:Int),jy (fun (s:Int) u=>if decide (f u=0)=true then (s,none) else (f u,some c)) s l=if decide (cx f l=0)=true then (s,none) else (cx f l,some c)
 | [],s=>by simp [jy,cx]
 | u :: r,s=>by
  by_cases h:f u=0
  ·simp only [jy,cx,h,decide_true,if_true]
   exact tS f c r s
  have hd:decide (f u=0)=false:=decide_eq_false h
  simp [jy,cx,hd,h]
theorem rO (hG:bJ.g=some 0) (t:Ty) (ht:t.size<=1048576) (hP:∀ v∈t.nodes,v.mod.size<=1048576):dz ak 35 [cA t] (num (j0 t)):=by have h14:=nc t ht;have HF:=L7 t.size t (aA _) ht;have h51:=fun B0 B1 h=>Ju t [B0,B1] h;refine jt Tryz.func35 Tryz.call35 ?_;simp only [dD,dj,Tryz.ntmps35,af,ah,zA,zF,aV,aW];rw [aF] at h14 HF h51 ⊢;simp only [au] at h14 HF h51 ⊢;refine bY fun K hK=>?_;simp only [go_sem];refine hK _ ?_;refine bS ?_;have res:j0 t=if decide (4096<(t.size:Int))||decide (32<(t.depth:Int)) then 7 else cx pd t.nodes:=T8 t;cases c1:decide (4096<(t.size:Int)) with|true =>rw [c1] at res;refine bY fun K hK=>?_;simp only [c1,go_sem];refine .inl ⟨_,_,by simp only [c1,go_sem,aE],h14,?_⟩;(try simp only [c1,go_sem]);refine hK _ ?_;refine bD rfl ?_;refine bY fun K hK=>?_;simp only [go_sem];refine hK _ ?_;refine cy ⟨.inl rfl,?_⟩;rw [res];rfl|false =>rw [c1] at res;cases c2:decide (32<(t.depth:Int)) with|true =>rw [c2] at res;refine bY fun K hK=>?_;simp only [c1,go_sem];refine .inl ⟨_,_,by simp only [c1,go_sem,aE],h14,?_⟩;(try simp only [c1,go_sem]);refine .inl ⟨_,_,by simp only [c2,go_sem,aE],HF,?_⟩;(try simp only [c2,go_sem]);refine hK _ ?_;refine bD rfl ?_;refine bY fun K hK=>?_;simp only [go_sem];refine hK _ ?_;refine cy ⟨.inl rfl,?_⟩;rw [res];rfl|false =>rw [c2] at res;refine bY fun K hK=>?_;simp only [c1,go_sem];refine .inl ⟨_,_,by simp only [c1,go_sem,aE],h14,?_⟩;(try simp only [c1,go_sem]);refine .inl ⟨_,_,by simp only [c2,go_sem,aE],HF,?_⟩;(try simp only [c2,go_sem]);refine hK _ ?_;refine bD rfl (cR ?_);show fc _ _ _ _ _ _;refine bS ?_;refine bY fun K hK=>?_;simp only [go_sem];(refine .inr <| .inl ⟨_,_,h51 _ _ rfl,?_⟩);(try simp only [go_sem]);refine hK _ ?_;refine cz (Mu (t:=t) (B:=1048576) (fun s:Int=>[.box (au t),.box [num s],.box (au t)]) 0 3 2 rfl (fun _=>rfl) (by omega) (fun _=>rfl) (fun _=>rfl) rfl rfl rfl (fun s u=>if decide (pd u=0)=true then (s,none) else (pd u,some .ret)) (by omega) ht (fun v=>v.mod.size<=1048576) hP ?_ ?_);(·intro s u hu hm l LR LB hLR hLB;have Cx:=u.gI;obtain⟨_,rfl,hn⟩:=JZ hG u (by omega) hm;rw [aF] at hn ⊢;simp only [au] at hn;simp only [dD,pL,au,ni,kP];refine jR fun K hK=>?_;simp only [go_sem];refine hK _ ?_;refine⟨rfl,rfl,cz ?_⟩;simp only [ni,kP];refine bY fun K hK=>?_;simp only [go_sem];refine .inl ⟨_,_,by simp only [go_sem,aE],hn,?_⟩;(try simp only [go_sem]);refine hK _ ?_;refine bS ?_;cases c3:decide (pd u=0) with|true =>refine jR fun K hK=>?_;simp only [c3,go_sem];refine hK _ ?_;refine bD rfl (cR ?_);exact⟨rfl,rfl,rfl⟩|false =>refine jR fun K hK=>?_;simp only [c3,go_sem];refine hK _ ?_;refine bD rfl ?_;refine bY fun K hK=>?_;simp only [go_sem];refine hK _ ?_;exact cy ⟨rfl,rfl,rfl⟩);rw [tS];simp only [bg,bw,if_false] at res;rw [res];cases c4:decide (cx pd t.nodes=0) with|true =>have e0:cx pd t.nodes=0:=qB c4;simp only [if_true];show fc _ _ _ _ _ _;refine bY fun K hK=>?_;simp only [go_sem];refine hK _ ?_;refine cy ⟨.inl rfl,?_⟩;rw [e0];rfl|false =>simp only [bw,if_false];exact cy ⟨.inl rfl,rfl⟩
section
theorem G4 (l:List Lb):fR l<=l.length:=List.length_filter_le _ _
theorem E8 {l:List Lb} {i:Nat} {x:Lb} (h:l[i]?=some x) (ho:x.opt=true):fR (l.take (i+1))=fR (l.take i)+1:=by unfold fR;rw [cg,h];simp [ho]
theorem E9 {l:List Lb} {i:Nat} {x:Lb} (h:l[i]?=some x) (ho:x.opt=false):fR (l.take (i+1))=fR (l.take i):=by unfold fR;rw [cg,h];simp [ho]
theorem jM (t:Ty):Cn 250 [cA t] (bl (eZ t)):=by refine cM [] 28 [.tmp 2] Tryz.func250 Tryz.call250 fun K hK=>?_;simp only [aF,au];repeat' (simp only [dr,bc,cY,go_sem];first|apply bE <;> intro hg|(exact hK _ (yJ bl (by clear hK;unfold eZ jI;simp_all))))
section
attribute [local go_sem] cY
theorem J0 (s:g6):Cn 275 [str s] (num (Ac s)):=by
 refine cM [30000] 17 [.tmp 2] Tryz.func275 Tryz.call275 fun K hK=>?_;simp only [go_sem];refine sq tt_ok [30000] ?_;simp only [go_sem];refine eJ tt_ok [30000] [4] 0 [0,2,3] (fun vs=>vs=[bl (qk s uX)]) (fun Z1 dm=>?_) ?_;·repeat' (simp only [go_sem];first|apply bE <;> intro hg|(refine dm _ (fp (by omega) (by simp only [go_sem]) ?_);simp only [eO,lk,reduceIte,zE];exact yJ (fun b=>[bl b]) (by simp_all [uX,qk])))
 intro vs hJ;obtain rfl:=hJ;simp only [go_sem];apply bE <;> intro hc4 <;> simp only [go_sem];·exact hK _ (yJ num (by clear hK;unfold Ac;simp_all [uX,wi,qk]))
 refine eJ tt_ok [30000] [14] 0 [0,2,3,4,5,6,7,8,9,10,11,12,13] (fun vs=>vs=[bl (qk s wi)]) (fun Z2 lR=>?_) ?_;·repeat' (simp only [go_sem];first|apply bE <;> intro hg|(refine lR _ (fp (by omega) (by simp only [go_sem]) ?_);simp only [eO,lk,reduceIte,zE];exact yJ (fun b=>[bl b]) (by simp_all [wi,qk])))
 intro vs hJ;obtain rfl:=hJ;repeat' (simp only [go_sem];first|apply bE <;> intro hg|(exact hK _ (yJ num (by clear hK;unfold Ac;simp_all [uX,wi,qk]))))
end
section
attribute [local go_sem] aC
theorem X0 (x:Ex) (fl:g6) (ty kd:Int) (lb:Bool) (hl:x.labels.length<=1048576) (mM : -1<=kd/\kd<=100):Cn 248 [ca x,.agg [str fl,num ty,bl lb,num kd]] (num (mH x kd)):=by
 refine cM [] 42 [.tmp 4] Tryz.func248 Tryz.call248 fun K hK=>?_;simp only [aS,aH];simp only [go_sem];apply bE <;> intro sB <;> simp only [go_sem];·refine cL (J0 _) ?_;simp only [go_sem];first|exact hK _ (yJ num cj)|exact hK _ (yJ num (by clear hK;unfold mH;simp_all <;> omega))
 apply bE <;> intro mc <;> simp only [go_sem];·refine di tt_ok [] [22,5] 2 [2,3,4,8,15,20,21] (fun vs=>((x.labels.length:Int)-Go.Eng.intOf (vs.headD .undef)).toNat) (fun vs=>∃ i:Nat,vs=[num i,num ((1+fR (x.labels.take i):Nat):Int)]/\i<=x.labels.length) (by omega) (by simp only [go_sem]) (⟨0,rfl,aY _⟩) fun vs hI Z1 dm=>?_;obtain⟨i,rfl,hi⟩:=hI;simp only [go_sem];apply bE <;> intro PW;(·have bH:=jq PW;have hw:=bj i (by omega);obtain⟨l,hx⟩:=gA bH;have ko:=G4 (x.labels.take i);rw [eK] at ko;have gv:IntKind.i64.wrap (((1+fR (x.labels.take i):Nat):Int)+1)=((1+fR (x.labels.take i)+1:Nat):Int):=bj _ (by omega);simp only [hw,gv,ae,hx,cr,au,al,aq,go_sem];apply bE <;> intro pc;(·(have EO:((1+fR (x.labels.take (i+1)):Nat):Int)=((1+fR (x.labels.take i)+1:Nat):Int):=by rw [E8 hx pc];omega);simp only [hw,gv,ae,hx,cr,au,al,aq,go_sem];refine dm _ (fN (by omega) (by simp only [hw,gv,ae,hx,cr,au,al,aq,go_sem]) ?_ ?_) <;> simp only [eO,lk,reduceIte,zE];(·exact⟨i+1,by rw [EO],bH⟩);simp only [Go.Eng.intOf,a7];omega);(have EO:((1+fR (x.labels.take (i+1)):Nat):Int)=((1+fR (x.labels.take i):Nat):Int):=by rw [E9 hx pc]);simp only [hw,gv,ae,hx,cr,au,al,aq,go_sem];refine dm _ (fN (by omega) (by simp only [hw,gv,ae,hx,cr,au,al,aq,go_sem]) ?_ ?_) <;> simp only [eO,lk,reduceIte,zE];(·exact⟨i+1,by rw [EO],bH⟩);simp only [Go.Eng.intOf,a7];omega);have fP:=ki PW;have hlen:x.labels.take i=x.labels:=b8 (by omega);(have cj:((1+fR (x.labels.take i):Nat):Int)=mH x kd:=by rw [hlen];unfold mH;simp_all);simp only [go_sem];first|exact hK _ (yJ num cj)|exact hK _ (yJ num (by clear hK;unfold mH;simp_all <;> omega))
 apply bE <;> intro Xt;·simp only [go_sem];first|exact hK _ (yJ num cj)|exact hK _ (yJ num (by clear hK;unfold mH;simp_all <;> omega))
 have DC:IntKind.i64.wrap (kd+(x.labels.length:Int))=kd+x.labels.length:=IntWalk.i64_in _ (by omega);simp only [DC,go_sem];first|exact hK _ (yJ num cj)|exact hK _ (yJ num (by clear hK;unfold mH;simp_all <;> omega))
end
theorem o2 (hG:bJ.g=some 0) (m:List bx) (hm:m.all (a6 m.length)=true) (k:Nat) (fl:g6) (ty kd:Int) (lb:Bool) (hk:m[k]?=some (.box [str fl,num ty,bl lb,num kd])) (s:g6) (hf:fl.size<=1048576):∃ r_,(fun w=>w=bl (me fl s)) r_/\bK ak 246 [str s,.ptr k 0] (m) r_ (m):=by refine PK tt_ok [] 8 [.tmp 3] (fn:=Tryz.f246) Tryz.func246 rfl Tryz.call246 ⟨rfl,rfl,by simp⟩ fun K hK=>?_;simp only [aE,hm,hk,decide_true,hk,go_sem];refine cL (⟨_,rfl,tF hG _ _ (by omega)⟩) ?_;simp only [aE,hm,hk,decide_true,hk,go_sem];exact hK _ _ ⟨rfl,rfl⟩
theorem G5 (hG:bJ.g=some 0) (m:List bx) (hm:m.all (a6 m.length)=true) (k:Nat) (fl:g6) (ty kd:Int) (lb:Bool) (hk:m[k]?=some (.box [str fl,num ty,bl lb,num kd])) (s:g6) (hf:fl.size<=1048576):∃ r_,(fun w=>w=bl (me fl s)) r_/\bK ak 251 [str s,.ptr k 0] (m) r_ (m):=by refine PK tt_ok [] 8 [.tmp 3] (fn:=Tryz.f251) Tryz.func251 rfl Tryz.call251 ⟨rfl,rfl,by simp⟩ fun K hK=>?_;simp only [aE,hm,hk,decide_true,hk,go_sem];refine cL (⟨_,rfl,tF hG _ _ (by omega)⟩) ?_;simp only [aE,hm,hk,decide_true,hk,go_sem];exact hK _ _ ⟨rfl,rfl⟩
section
attribute [local go_sem] cY
theorem T9 (hG:bJ.g=some 0) (b0:bx) (lC:∀ n,3<=n->a6 n b0=true) (fl:g6) (ty kd:Int) (lb:Bool) (hf:fl.size<=1048576) (l:Lb):∃ r_,(fun w=>w=bl (mK fl l)) r_/\bK ak 249 [cr l,.ptr 2 0] ([b0,.box [str fl,num ty,bl lb,num kd],.box [.jh (.func 246) [] [.ptr 1 0]]]) r_ ([b0,.box [str fl,num ty,bl lb,num kd],.box [.jh (.func 246) [] [.ptr 1 0]]]):=by
 refine PK tt_ok [] 32 [.tmp 3] (fn:=Tryz.f249) Tryz.func249 rfl Tryz.call249 ⟨rfl,rfl,by simp⟩ fun K hK=>?_;have j9:=lC 3 (aA _);simp only [dD,cr,au];simp only [↓j9,go_sem];apply bE <;> intro z8 <;> simp only [↓j9,go_sem];·refine Dx (o2 hG _ (by simp only [cI,ew,tm,tn,pT,tp,pU,pV,aQ,bC,af,ah,zA,zB,decide_true,o8,aJ,lC,zC]) 1 fl ty kd lb rfl _ hf) ?_;simp only [↓j9,go_sem];apply bE <;> intro Jk <;> simp only [↓j9,go_sem];(·exact hK _ _ ⟨yJ bl (by clear hK;unfold mK jI;simp_all),rfl⟩);refine cL (by have h:=jM l.ty;rw [aF] at h;exact h) ?_;simp only [↓j9,go_sem];apply bE <;> intro Ta <;> simp only [↓j9,go_sem];(·refine Dx (o2 hG _ (by simp only [cI,ew,tm,tn,pT,tp,pU,pV,aQ,bC,af,ah,zA,zB,decide_true,o8,aJ,lC,zC]) 1 fl ty kd lb rfl _ hf) ?_;simp only [↓j9,go_sem];apply bE <;> intro adv <;> simp only [↓j9,go_sem];(·exact hK _ _ ⟨yJ bl (by clear hK;unfold mK jI;simp_all),rfl⟩);apply bE <;> intro Mv <;> simp only [↓j9,go_sem];(·refine Dx (o2 hG _ (by simp only [cI,ew,tm,tn,pT,tp,pU,pV,aQ,bC,af,ah,zA,zB,decide_true,o8,aJ,lC,zC]) 1 fl ty kd lb rfl _ hf) ?_;simp only [↓j9,go_sem];exact hK _ _ ⟨yJ bl (by clear hK;unfold mK jI;simp_all),rfl⟩);exact hK _ _ ⟨yJ bl (by clear hK;unfold mK jI;simp_all),rfl⟩);apply bE <;> intro Mv <;> simp only [↓j9,go_sem];(·refine Dx (o2 hG _ (by simp only [cI,ew,tm,tn,pT,tp,pU,pV,aQ,bC,af,ah,zA,zB,decide_true,o8,aJ,lC,zC]) 1 fl ty kd lb rfl _ hf) ?_;simp only [↓j9,go_sem];exact hK _ _ ⟨yJ bl (by clear hK;unfold mK jI;simp_all),rfl⟩);exact hK _ _ ⟨yJ bl (by clear hK;unfold mK jI;simp_all),rfl⟩
 refine cL (by have h:=jM l.ty;rw [aF] at h;exact h) ?_;simp only [↓j9,go_sem];apply bE <;> intro Ta <;> simp only [↓j9,go_sem];·refine Dx (o2 hG _ (by simp only [cI,ew,tm,tn,pT,tp,pU,pV,aQ,bC,af,ah,zA,zB,decide_true,o8,aJ,lC,zC]) 1 fl ty kd lb rfl _ hf) ?_;simp only [↓j9,go_sem];apply bE <;> intro adv <;> simp only [↓j9,go_sem];(·exact hK _ _ ⟨yJ bl (by clear hK;unfold mK jI;simp_all),rfl⟩);apply bE <;> intro Mv <;> simp only [↓j9,go_sem];(·refine Dx (o2 hG _ (by simp only [cI,ew,tm,tn,pT,tp,pU,pV,aQ,bC,af,ah,zA,zB,decide_true,o8,aJ,lC,zC]) 1 fl ty kd lb rfl _ hf) ?_;simp only [↓j9,go_sem];exact hK _ _ ⟨yJ bl (by clear hK;unfold mK jI;simp_all),rfl⟩);exact hK _ _ ⟨yJ bl (by clear hK;unfold mK jI;simp_all),rfl⟩
 apply bE <;> intro Mv <;> simp only [↓j9,go_sem];·refine Dx (o2 hG _ (by simp only [cI,ew,tm,tn,pT,tp,pU,pV,aQ,bC,af,ah,zA,zB,decide_true,o8,aJ,lC,zC]) 1 fl ty kd lb rfl _ hf) ?_;simp only [↓j9,go_sem];exact hK _ _ ⟨yJ bl (by clear hK;unfold mK jI;simp_all),rfl⟩
 exact hK _ _ ⟨yJ bl (by clear hK;unfold mK jI;simp_all),rfl⟩
end
theorem x4 (hG:bJ.g=some 0) (b0:bx) (lC:∀ n,3<=n->a6 n b0=true) (fl:g6) (ty kd:Int) (lb:Bool) (hf:fl.size<=1048576) (l:Lb):∃ r_,(fun w=>w=bl (sf fl l)) r_/\bK ak 252 [cr l,.ptr 2 0] ([b0,.box [str fl,num ty,bl lb,num kd],.box [.jh (.func 251) [] [.ptr 1 0]]]) r_ ([b0,.box [str fl,num ty,bl lb,num kd],.box [.jh (.func 251) [] [.ptr 1 0]]]):=by
 refine PK tt_ok [] 18 [.tmp 3] (fn:=Tryz.f252) Tryz.func252 rfl Tryz.call252 ⟨rfl,rfl,by simp⟩ fun K hK=>?_;have j9:=lC 3 (aA _);simp only [dD,cr,au];simp only [↓j9,go_sem];refine cL (jv hG _) ?_;simp only [↓j9,go_sem];apply bE <;> intro aqh <;> simp only [↓j9,go_sem];·exact hK _ _ ⟨yJ bl (by clear hK;unfold sf;simp_all),rfl⟩
 refine Dx (G5 hG _ (by simp only [cI,ew,tm,tn,pT,tp,pU,pV,aQ,bC,af,ah,zA,zB,decide_true,o8,aJ,lC,zC]) 1 fl ty kd lb rfl _ hf) ?_;repeat' (simp only [↓j9,go_sem];first|apply bE <;> intro hg|refine cL (jv hG _) ?_|(exact hK _ _ ⟨yJ bl (by clear hK;unfold sf;simp_all),rfl⟩))
section
attribute [local go_sem] aC
theorem Ua (c:Nat) (b0:bx) (lC:∀ n,3<=n->a6 n b0=true) (fl:g6) (ty kd:Int) (lb:Bool) (hf:fl.size<=1048576) (g:FuncId) (q:Lb->Bool) (l:List Lb) (hg:∀ x∈l,∃ r,(fun v=>v=bl (q x)) r/\bK ak g [cr x,.ptr 2 0] ([b0,.box [str fl,num ty,bl lb,num kd],.box [.jh (.func c) [] [.ptr 1 0]]]) r ([b0,.box [str fl,num ty,bl lb,num kd],.box [.jh (.func c) [] [.ptr 1 0]]])) (hl:l.length<=1048576):∃ r_,(fun w=>∃ k:Int,w=num k/\decide (0<=k)=l.any q) r_/\bK ak 192 [.slice (l.map cr),.jh (.func g) [] [.ptr 2 0]] ([b0,.box [str fl,num ty,bl lb,num kd],.box [.jh (.func c) [] [.ptr 1 0]]]) r_ ([b0,.box [str fl,num ty,bl lb,num kd],.box [.jh (.func c) [] [.ptr 1 0]]]):=by
 refine PK tt_ok [] 19 [.tmp 4] (fn:=Tryz.f192) Tryz.func192 rfl Tryz.call192 ⟨rfl,rfl,by simp⟩ fun K hK=>?_;have j9:=lC 3 (aA _);simp only [↓j9,go_sem];refine di tt_ok [] [8] 3 [0,1,7] (fun vs=>((l.length:Int)-Go.Eng.intOf (vs.headD .undef)).toNat) (fun vs=>∃ i:Nat,vs=[num i]/\i<=l.length/\∀ j<i,∀ x,l[j]?=some x->q x=false) (by omega) (by simp only [↓j9,go_sem]) (⟨0,rfl,aY _,fun j hj=>absurd hj (bR j)⟩) fun vs hI Z1 dm=>?_;obtain⟨i,rfl,hi,cZ⟩:=hI;simp only [↓j9,go_sem];apply bE <;> intro kj;·have bH:=jq kj;have hw:=bj i (by omega);obtain⟨x,hx⟩:=gA bH;simp only [↓j9,hw,ae,hx,cr,au,al,aq,go_sem];refine Dx (by have h:=hg x (aw hx);simp only [dD,cr,au] at h;exact h) ?_;simp only [↓j9,hw,ae,hx,cr,au,al,aq,go_sem];apply bE <;> intro iG;(·(have cj:decide (0<=(i:Int))=l.any q:=by rw [ka hx iG];exact decide_eq_true (gV i));simp only [↓j9,hw,ae,hx,cr,au,al,aq,go_sem];exact hK _ _ ⟨⟨_,rfl,cj⟩,rfl⟩);simp only [↓j9,hw,ae,hx,cr,au,al,aq,go_sem];refine dm _ (fN (by omega) (by simp only [↓j9,hw,ae,hx,cr,au,al,aq,go_sem]) ?_ ?_) <;> simp only [eO,lk,reduceIte,zE];(·refine⟨i+1,rfl,bH,fun j hj=>?_⟩;(rcases bn j i with h|h);(·exact cZ j h);(obtain rfl:j=i:=by omega);intro y hy;rw [hx] at hy;cases hy;exact iG);simp only [Go.Eng.intOf,a7];omega
 have fP:=ki kj;have cj:decide (0<=(-1:Int))=l.any q:=(any_none fun j hj=>cZ j (by omega)).symm ▸ rfl;simp only [↓j9,go_sem];exact hK _ _ ⟨⟨_,rfl,cj⟩,rfl⟩
end
theorem CX (c:Nat) (b0:bx) (lC:∀ n,3<=n->a6 n b0=true) (fl:g6) (ty kd:Int) (lb:Bool) (hf:fl.size<=1048576) (g:FuncId) (q:Lb->Bool) (l:List Lb) (hg:∀ x∈l,∃ r,(fun v=>v=bl (q x)) r/\bK ak g [cr x,.ptr 2 0] ([b0,.box [str fl,num ty,bl lb,num kd],.box [.jh (.func c) [] [.ptr 1 0]]]) r ([b0,.box [str fl,num ty,bl lb,num kd],.box [.jh (.func c) [] [.ptr 1 0]]])) (hl:l.length<=1048576):∃ r_,(fun w=>w=bl (l.any q)) r_/\bK ak 107 [.slice (l.map cr),.jh (.func g) [] [.ptr 2 0]] ([b0,.box [str fl,num ty,bl lb,num kd],.box [.jh (.func c) [] [.ptr 1 0]]]) r_ ([b0,.box [str fl,num ty,bl lb,num kd],.box [.jh (.func c) [] [.ptr 1 0]]]):=by refine PK tt_ok [] 9 [.tmp 4] (fn:=Tryz.f107) Tryz.func107 rfl Tryz.call107 ⟨rfl,rfl,by simp⟩ fun K hK=>?_;have j9:=lC 3 (aA _);simp only [↓j9,go_sem];refine cS (Ua c b0 lC fl ty kd lb hf g q l hg hl) ?_;rintro _ ⟨k,rfl,hk⟩;simp only [↓j9,go_sem];exact hK _ _ ⟨yJ bl hk,rfl⟩
end
section
theorem x5 (x:Ex) (fl:g6) (ty:Int) (lb:Bool) (kd:Int):oY x fl ty lb kd=(!(q1 x fl||q2 x fl||q3 x fl||q4 x fl) && !(q5 x||q6 x kd) && !(q7 x ty||q8 x lb||q9 x kd) && !(x.labels.any (mK fl))):=by unfold oY;cases q1 x fl <;> cases q2 x fl <;> cases q3 x fl <;> cases q4 x fl <;> cases q5 x <;> cases q6 x kd <;> cases q7 x ty <;> cases q8 x lb <;> cases q9 x kd <;> rfl
section
attribute [local go_sem] bc cD aC cY
theorem X1 (hG:bJ.g=some 0) (x:Ex) (fl:g6) (ty kd:Int) (lb:Bool) (hf:fl.size<=1048576) (hl:x.labels.length<=1048576) (mM : -1<=kd/\kd<=100):Cn 188 [ca x,.agg [str fl,num ty,bl lb,num kd]] (bl (oY x fl ty lb kd)):=by
 refine cM [3,4,5,8,11,12,30000] 100 [.tmp 4] Tryz.func188 Tryz.call188 fun K hK=>?_;simp only [aS,aH];simp only [go_sem];refine cL (by have h:=X0 x fl ty kd lb hl mM;rw [aS] at h;simp only [xM,tM,dM,aH] at h;exact h) ?_;simp only [go_sem];refine eJ tt_ok [3,4,5,8,11,12,30000] [11] 3 [2,3,4,5,6] (fun vs=>vs=[bl (q1 x fl||q2 x fl||q3 x fl||q4 x fl)]) (fun Z1 dm=>?_) ?_;·simp only [go_sem];refine eJ tt_ok [3,4,5,8,11,12,30000] [11] 3 [2,3,4,5,6] (fun vs=>vs=[bl (q1 x fl)]) (fun Z2 lR=>?_) ?_;(·simp only [go_sem];refine lg tt_ok ?_;simp only [go_sem];apply bE <;> intro aqi <;> simp only [go_sem];(·refine Dx (o2 hG _ rfl 1 fl ty kd lb rfl _ hf) ?_;simp only [go_sem];refine lR _ (fp (by omega) (by simp only [go_sem]) ?_);simp only [eO,lk,reduceIte,zE];exact yJ (fun b=>[bl b]) (by clear hK dm lR;unfold q1;simp_all [jI] <;> (intros;omega)));refine lR _ (fp (by omega) (by simp only [go_sem]) ?_);simp only [eO,lk,reduceIte,zE];exact yJ (fun b=>[bl b]) (by clear hK dm lR;unfold q1;simp_all [jI] <;> (intros;omega)));intro vs hJ;obtain rfl:=hJ;simp only [go_sem];apply bE <;> intro ql <;> simp only [go_sem];(·refine dm _ (fp (by omega) (by simp only [go_sem]) ?_);simp only [eO,lk,reduceIte,zE];exact yJ (fun b=>[bl b]) (by clear hK dm;first|(simp only [*,aR,aK,aL,aJ,aP,aO,a8,aZ,aX,aT,bg];done)|(unfold q4;simp only [*,aR,aK,aL,aJ,aP,aO,a8,aZ,aX,aT,bg];done)|(unfold q4;simp_all)));refine eJ tt_ok [3,4,5,8,11,12,30000] [11] 3 [2,3,4,5,6] (fun vs=>vs=[bl (q2 x fl)]) (fun Z3 rP=>?_) ?_;(·simp only [go_sem];refine lg tt_ok ?_;simp only [go_sem];apply bE <;> intro ahU <;> simp only [go_sem];(·refine Dx (o2 hG _ rfl 1 fl ty kd lb rfl _ hf) ?_;simp only [go_sem];refine rP _ (fp (by omega) (by simp only [go_sem]) ?_);simp only [eO,lk,reduceIte,zE];exact yJ (fun b=>[bl b]) (by clear hK dm rP;unfold q2;simp_all [jI] <;> (intros;omega)));refine rP _ (fp (by omega) (by simp only [go_sem]) ?_);simp only [eO,lk,reduceIte,zE];exact yJ (fun b=>[bl b]) (by clear hK dm rP;unfold q2;simp_all [jI] <;> (intros;omega)));intro vs hJ;obtain rfl:=hJ;simp only [go_sem];apply bE <;> intro ql <;> simp only [go_sem];(·refine dm _ (fp (by omega) (by simp only [go_sem]) ?_);simp only [eO,lk,reduceIte,zE];exact yJ (fun b=>[bl b]) (by clear hK dm;first|(simp only [*,aR,aK,aL,aJ,aP,aO,a8,aZ,aX,aT,bg];done)|(unfold q4;simp only [*,aR,aK,aL,aJ,aP,aO,a8,aZ,aX,aT,bg];done)|(unfold q4;simp_all)));refine eJ tt_ok [3,4,5,8,11,12,30000] [11] 3 [2,3,4,5,6] (fun vs=>vs=[bl (q3 x fl)]) (fun Z4 y2=>?_) ?_;(·simp only [go_sem];refine lg tt_ok ?_;simp only [go_sem];apply bE <;> intro aqj <;> simp only [go_sem];(·refine Dx (o2 hG _ rfl 1 fl ty kd lb rfl _ hf) ?_;simp only [go_sem];refine y2 _ (fp (by omega) (by simp only [go_sem]) ?_);simp only [eO,lk,reduceIte,zE];exact yJ (fun b=>[bl b]) (by clear hK dm y2;unfold q3;simp_all [jI] <;> (intros;omega)));refine y2 _ (fp (by omega) (by simp only [go_sem]) ?_);simp only [eO,lk,reduceIte,zE];exact yJ (fun b=>[bl b]) (by clear hK dm y2;unfold q3;simp_all [jI] <;> (intros;omega)));intro vs hJ;obtain rfl:=hJ;simp only [go_sem];apply bE <;> intro ql <;> simp only [go_sem];(·refine dm _ (fp (by omega) (by simp only [go_sem]) ?_);simp only [eO,lk,reduceIte,zE];exact yJ (fun b=>[bl b]) (by clear hK dm;first|(simp only [*,aR,aK,aL,aJ,aP,aO,a8,aZ,aX,aT,bg];done)|(unfold q4;simp only [*,aR,aK,aL,aJ,aP,aO,a8,aZ,aX,aT,bg];done)|(unfold q4;simp_all)));apply bE <;> intro aqk <;> simp only [go_sem];(·refine Dx (o2 hG _ rfl 1 fl ty kd lb rfl _ hf) ?_;simp only [go_sem];refine dm _ (fp (by omega) (by simp only [go_sem]) ?_);simp only [eO,lk,reduceIte,zE];exact yJ (fun b=>[bl b]) (by clear hK dm;first|(simp only [*,aR,aK,aL,aJ,aP,aO,a8,aZ,aX,aT,bg];done)|(unfold q4;simp only [*,aR,aK,aL,aJ,aP,aO,a8,aZ,aX,aT,bg];done)|(unfold q4;simp_all)));refine dm _ (fp (by omega) (by simp only [go_sem]) ?_);simp only [eO,lk,reduceIte,zE];exact yJ (fun b=>[bl b]) (by clear hK dm;first|(simp only [*,aR,aK,aL,aJ,aP,aO,a8,aZ,aX,aT,bg];done)|(unfold q4;simp only [*,aR,aK,aL,aJ,aP,aO,a8,aZ,aX,aT,bg];done)|(unfold q4;simp_all))
 intro vs hJ;obtain rfl:=hJ;simp only [go_sem];apply bE <;> intro ql <;> simp only [go_sem];·exact hK _ (yJ bl (by clear hK;rw [x5];simp only [*,aR,aK,aL,aJ,aP,aO,a8,aZ,aX,aT,bg]))
 refine eJ tt_ok [3,4,5,8,11,12,30000] [44] 3 [2,3,4,5,6,11] (fun vs=>vs=[bl (q5 x||q6 x kd)]) (fun Z5 HG=>?_) ?_;·simp only [go_sem];refine eJ tt_ok [3,4,5,8,11,12,30000] [44] 3 [2,3,4,5,6,11] (fun vs=>vs=[bl (q5 x)]) (fun Z6 N9=>?_) ?_;(·simp only [go_sem];refine lg tt_ok ?_;repeat' (simp only [go_sem];first|apply bE <;> intro hg|(refine N9 _ (fp (by omega) (by simp only [go_sem]) ?_);simp only [eO,lk,reduceIte,zE];exact yJ (fun b=>[bl b]) (by clear hK HG N9;unfold q5;simp_all [jI] <;> (intros;omega)))));intro vs hJ;obtain rfl:=hJ;repeat' (simp only [go_sem];first|apply bE <;> intro hg|(refine HG _ (fp (by omega) (by simp only [go_sem]) ?_);simp only [eO,lk,reduceIte,zE];exact yJ (fun b=>[bl b]) (by clear hK HG;first|(simp only [*,aR,aK,aL,aJ,aP,aO,a8,aZ,aX,aT,bg];done)|(unfold q6;simp only [*,aR,aK,aL,aJ,aP,aO,a8,aZ,aX,aT,bg];done)|(unfold q6;simp_all))))
 intro vs hJ;obtain rfl:=hJ;simp only [go_sem];apply bE <;> intro adw <;> simp only [go_sem];·exact hK _ (yJ bl (by clear hK;rw [x5];simp only [*,aR,aK,aL,aJ,aP,aO,a8,aZ,aX,aT,bg]))
 refine eJ tt_ok [3,4,5,8,11,12,30000] [65] 3 [2,3,4,5,6,11,44] (fun vs=>vs=[bl (q7 x ty||q8 x lb||q9 x kd)]) (fun Z7 J1=>?_) ?_;·simp only [go_sem];refine eJ tt_ok [3,4,5,8,11,12,30000] [65] 3 [2,3,4,5,6,11,44] (fun vs=>vs=[bl (q7 x ty)]) (fun Z8 Wb=>?_) ?_;(·simp only [go_sem];refine lg tt_ok ?_;repeat' (simp only [go_sem];first|apply bE <;> intro hg|(refine Wb _ (fp (by omega) (by simp only [go_sem]) ?_);simp only [eO,lk,reduceIte,zE];exact yJ (fun b=>[bl b]) (by clear hK J1 Wb;unfold q7;simp_all [jI] <;> (intros;omega)))));intro vs hJ;obtain rfl:=hJ;simp only [go_sem];apply bE <;> intro Mw <;> simp only [go_sem];(·refine J1 _ (fp (by omega) (by simp only [go_sem]) ?_);simp only [eO,lk,reduceIte,zE];exact yJ (fun b=>[bl b]) (by clear hK J1;first|(simp only [*,aR,aK,aL,aJ,aP,aO,a8,aZ,aX,aT,bg];done)|(unfold q9;simp only [*,aR,aK,aL,aJ,aP,aO,a8,aZ,aX,aT,bg];done)|(unfold q9;simp_all)));refine eJ tt_ok [3,4,5,8,11,12,30000] [65] 3 [2,3,4,5,6,11,44] (fun vs=>vs=[bl (q8 x lb)]) (fun Z9 hZ9=>?_) ?_;(·simp only [go_sem];refine lg tt_ok ?_;repeat' (simp only [go_sem];first|apply bE <;> intro hg|(refine hZ9 _ (fp (by omega) (by simp only [go_sem]) ?_);simp only [eO,lk,reduceIte,zE];exact yJ (fun b=>[bl b]) (by clear hK J1 hZ9;unfold q8;simp_all [jI] <;> (intros;omega)))));intro vs hJ;obtain rfl:=hJ;repeat' (simp only [go_sem];first|apply bE <;> intro hg|(refine J1 _ (fp (by omega) (by simp only [go_sem]) ?_);simp only [eO,lk,reduceIte,zE];exact yJ (fun b=>[bl b]) (by clear hK J1;first|(simp only [*,aR,aK,aL,aJ,aP,aO,a8,aZ,aX,aT,bg];done)|(unfold q9;simp only [*,aR,aK,aL,aJ,aP,aO,a8,aZ,aX,aT,bg];done)|(unfold q9;simp_all))))
 intro vs hJ;obtain rfl:=hJ;simp only [go_sem];apply bE <;> intro Mw <;> simp only [go_sem];·exact hK _ (yJ bl (by clear hK;rw [x5];simp only [*,aR,aK,aL,aJ,aP,aO,a8,aZ,aX,aT,bg]))
 refine Dx (CX 246 _ (fun n hn=>rfl) fl ty kd lb hf 249 (mK fl) x.labels (fun l _=>T9 hG _ (fun n hn=>rfl) fl ty kd lb hf l) hl) ?_;simp only [go_sem];exact hK _ (yJ bl (by clear hK;rw [x5];simp only [*,aR,aK,aL,aJ,aP,aO,a8,aZ,aX,aT,bg]))
end
end
section
section
attribute [local go_sem] bc cD aC cY
theorem J2 (hG:bJ.g=some 0) (x:Ex) (fl:g6) (ty kd:Int) (lb:Bool) (hf:fl.size<=1048576) (hl:x.labels.length<=1048576) (hm:x.mod.size<=1048576):Cn 189 [ca x,.agg [str fl,num ty,bl lb,num kd]] (bl (rM x fl)):=by
 refine cM [2,3] 42 [.tmp 4] Tryz.func189 Tryz.call189 fun K hK=>?_;simp only [aS,aH];simp only [go_sem];refine eJ tt_ok [2,3] [7] 3 [2,4,5] (fun vs=>vs=[bl (m1 x fl)]) (fun Z1 dm=>?_) ?_;·simp only [go_sem];refine lg tt_ok ?_;simp only [go_sem];refine Dx (G5 hG _ rfl 1 fl ty kd lb rfl _ hf) ?_;repeat' (simp only [go_sem];first|apply bE <;> intro hg|refine cL (yS hG x.mod hm) ?_|(refine dm _ (fp (by omega) (by simp only [go_sem]) ?_);simp only [eO,lk,reduceIte,zE];exact yJ (fun b=>[bl b]) (by clear hK dm;unfold m1;simp_all [jI] <;> (intros;omega))))
 intro vs hJ;obtain rfl:=hJ;simp only [go_sem];apply bE <;> intro NJ <;> simp only [go_sem];·exact hK _ (yJ bl (by clear hK;unfold rM;first|(simp only [*,aR,aK,aL,aJ,aP,aO,a8,aZ,aX,aT];done)|(unfold m3;simp only [*,aR,aK,aL,aJ,aP,aO,a8,aZ,aX,aT];done)|(unfold m3;simp_all)))
 refine eJ tt_ok [2,3] [7] 3 [2,4,5] (fun vs=>vs=[bl (m2 x fl)]) (fun Z2 lR=>?_) ?_;·simp only [go_sem];refine lg tt_ok ?_;simp only [go_sem];refine Dx (G5 hG _ rfl 1 fl ty kd lb rfl _ hf) ?_;repeat' (simp only [go_sem];first|apply bE <;> intro hg|refine cL (jv hG _) ?_|(refine lR _ (fp (by omega) (by simp only [go_sem]) ?_);simp only [eO,lk,reduceIte,zE];exact yJ (fun b=>[bl b]) (by clear hK lR;unfold m2;simp_all [jI] <;> (intros;omega))))
 intro vs hJ;obtain rfl:=hJ;simp only [go_sem];apply bE <;> intro NJ <;> simp only [go_sem];·exact hK _ (yJ bl (by clear hK;unfold rM;first|(simp only [*,aR,aK,aL,aJ,aP,aO,a8,aZ,aX,aT];done)|(unfold m3;simp only [*,aR,aK,aL,aJ,aP,aO,a8,aZ,aX,aT];done)|(unfold m3;simp_all)))
 apply bE <;> intro ahU <;> simp only [go_sem];·refine cL (jv hG _) ?_;simp only [go_sem];apply bE <;> intro NJ <;> simp only [go_sem];(·exact hK _ (yJ bl (by clear hK;unfold rM;first|(simp only [*,aR,aK,aL,aJ,aP,aO,a8,aZ,aX,aT];done)|(unfold m3;simp only [*,aR,aK,aL,aJ,aP,aO,a8,aZ,aX,aT];done)|(unfold m3;simp_all))));refine Dx (CX 251 _ (fun n hn=>rfl) fl ty kd lb hf 252 (sf fl) x.labels (fun l _=>x4 hG _ (fun n hn=>rfl) fl ty kd lb hf l) hl) ?_;simp only [go_sem];exact hK _ (yJ bl (by clear hK;unfold rM;first|(simp only [*,aR,aK,aL,aJ,aP,aO,a8,aZ,aX,aT];done)|(unfold m3;simp only [*,aR,aK,aL,aJ,aP,aO,a8,aZ,aX,aT];done)|(unfold m3;simp_all)))
 refine Dx (CX 251 _ (fun n hn=>rfl) fl ty kd lb hf 252 (sf fl) x.labels (fun l _=>x4 hG _ (fun n hn=>rfl) fl ty kd lb hf l) hl) ?_;simp only [go_sem];exact hK _ (yJ bl (by clear hK;unfold rM;first|(simp only [*,aR,aK,aL,aJ,aP,aO,a8,aZ,aX,aT];done)|(unfold m3;simp only [*,aR,aK,aL,aJ,aP,aO,a8,aZ,aX,aT];done)|(unfold m3;simp_all)))
end
end
def G6 (dU:List (Value×Nat×V)):Prop:=∀ e∈dU,LH .i64 e.1/\∃ (fl:g6) (ty kd:Int) (lb:Bool),e.2.2 = .agg [str fl,num ty,bl lb,num kd]/\fl.size<=1048576
theorem G6.below {dU:List (Value×Nat×V)} (h:G6 dU) (n:Nat):(dU.all fun e=>aQ n e.2.2)=true:=ba.2 fun e he=>by obtain⟨-,fl,ty,kd,lb,e1,-⟩:=h e he;rw [e1];rfl
theorem ahV:Xc ak 144 3 201 (LH .i64):=SC kr kr
def tT:Value×Nat×V:=(.int .i64 0,0,.agg [str ⟨#[98]⟩,num 0,bl false,num 0])
def uY:Value×Nat×V:=(.int .i64 1,1,.agg [str ⟨#[120]⟩,num 0,bl false,num 0])
def wo:Value×Nat×V:=(.int .i64 2,2,.agg [str ⟨#[98]⟩,num 0,bl false,num 0])
def x6:Value×Nat×V:=(.int .i64 3,3,.agg [str ⟨#[110]⟩,num 0,bl false,num 0])
def y3:Value×Nat×V:=(.int .i64 4,4,.agg [str ⟨#[109,110]⟩,num (-1),bl false,num 0])
def AA:Value×Nat×V:=(.int .i64 5,5,.agg [str ⟨#[]⟩,num 0,bl true,num 0])
def CY:Value×Nat×V:=(.int .i64 6,6,.agg [str ⟨#[110]⟩,num 0,bl false,num 1])
def D4:Value×Nat×V:=(.int .i64 7,7,.agg [str ⟨#[110]⟩,num 0,bl false,num 1])
def G7:Value×Nat×V:=(.int .i64 8,8,.agg [str ⟨#[116,111]⟩,num 0,bl true,num 1])
def J3:Value×Nat×V:=(.int .i64 9,9,.agg [str ⟨#[]⟩,num 0,bl true,num 1])
def wq:Value×Nat×V:=(.int .i64 10,10,.agg [str ⟨#[110]⟩,num 0,bl false,num 2])
def y4:Value×Nat×V:=(.int .i64 11,11,.agg [str ⟨#[]⟩,num 1,bl false,num 1])
def CZ:Value×Nat×V:=(.int .i64 12,12,.agg [str ⟨#[]⟩,num 1,bl false,num 3])
def G8:Value×Nat×V:=(.int .i64 13,13,.agg [str ⟨#[118]⟩,num 1,bl true,num 1])
def Mx:Value×Nat×V:=(.int .i64 14,14,.agg [str ⟨#[]⟩,num 1,bl false,num (-1)])
def Ub:Value×Nat×V:=(.int .i64 15,15,.agg [str ⟨#[110,120]⟩,num 1,bl false,num 3])
def adx:Value×Nat×V:=(.int .i64 16,16,.agg [str ⟨#[110]⟩,num 0,bl false,num (-1)])
def iY:List (Value×Nat×V):=[tT,uY,wo,x6,y3,AA,CY,D4,G7,J3,wq,y4,CZ,G8,Mx,Ub,adx]
theorem C1:G6 iY:=fun e he=>by simp only [iY,dp,ja,or_false] at he;rcases he with rfl|rfl|rfl|rfl|rfl|rfl|rfl|rfl|rfl|rfl|rfl|rfl|rfl|rfl|rfl|rfl|rfl <;> exact⟨⟨_,rfl⟩,_,_,_,_,rfl,by decide⟩
theorem Qw {mem:List bx} {b:Nat} (hm:mem[b]?=some (.map iY 17)) (n:Int) :
  ∃ (fl:g6) (ty kd:Int) (lb ok:Bool),kR ak mem 144 (.mp b) (num n) true=some (.fZ [.agg [str fl,num ty,bl lb,num kd],bl ok])/\fl.size<=1048576/\(-1<=kd/\kd<=100) /\
   ((ok=true/\kI n=some ⟨fl,ty,lb,kd⟩)\/(ok=false/\kI n=none)):=by
 rcases LI ahV (k:=.int .i64 n) ⟨n,rfl⟩ rfl hm (fun e he=>(C1 e he).1) (z:=.agg [str ⟨#[]⟩,num 0,bl false,num 0]) kr true with ⟨h1,h2⟩|⟨e,he,hk,h1⟩
 ·refine⟨_,_,_,_,_,h1,by decide,by decide,.inr ⟨rfl,?_⟩⟩;have dI:∀ j:Int,(∃ e∈iY,e.1 = .int .i64 j)->n≠j:=fun j ⟨e,he,hj⟩ hn=>h2 e he (by rw [hj,hn]);unfold kI
  rw [g5 (dI 0 ⟨tT,by simp [iY],rfl⟩),g5 (dI 1 ⟨uY,by simp [iY],rfl⟩),g5 (dI 2 ⟨wo,by simp [iY],rfl⟩),g5 (dI 3 ⟨x6,by simp [iY],rfl⟩),g5 (dI 4 ⟨y3,by simp [iY],rfl⟩),g5 (dI 5 ⟨AA,by simp [iY],rfl⟩),
   g5 (dI 6 ⟨CY,by simp [iY],rfl⟩),g5 (dI 7 ⟨D4,by simp [iY],rfl⟩),g5 (dI 8 ⟨G7,by simp [iY],rfl⟩),g5 (dI 9 ⟨J3,by simp [iY],rfl⟩),g5 (dI 10 ⟨wq,by simp [iY],rfl⟩),g5 (dI 11 ⟨y4,by simp [iY],rfl⟩),
   g5 (dI 12 ⟨CZ,by simp [iY],rfl⟩),g5 (dI 13 ⟨G8,by simp [iY],rfl⟩),g5 (dI 14 ⟨Mx,by simp [iY],rfl⟩),g5 (dI 15 ⟨Ub,by simp [iY],rfl⟩),g5 (dI 16 ⟨adx,by simp [iY],rfl⟩)]
 unfold iY at he;simp only [dp,ja,or_false] at he;rcases he with rfl|rfl|rfl|rfl|rfl|rfl|rfl|rfl|rfl|rfl|rfl|rfl|rfl|rfl|rfl|rfl|rfl <;> (cases hk;exact⟨_,_,_,_,_,h1,by decide,by decide,.inl ⟨rfl,rfl⟩⟩)
section
theorem ady (n:Nat):(65536<(n:Int))=(65536<n):=by rw [eq_iff_iff];omega
theorem uH {α:Type} (f:α->Int) {l:List α} {i:Nat} {u:α} (h:l[i]?=some u):cx f (l.drop i)=if f u=0 then cx f (l.drop (i+1)) else f u:=by have h1:=az.1 h;rw [ed h1.1,h1.2];rfl
theorem Qx (x:Lb):Cn 191 [cr x] (str x.name):=by refine cM [] 5 [.tmp 2] Tryz.func191 Tryz.call191 fun K hK=>?_;simp only [dD,cr,au];simp only [go_sem];exact hK _ rfl
section
attribute [local go_sem] aC ae cr au al aq
theorem Uc (g:FuncId) (l:List Lb) (hg:∀ x∈l,Cn g [cr x] (str (Lb.name x))) (hl:l.length<=1048576):Cn 190 [.slice (l.map cr),.sc (.func (.func g) #[] #[])] (num (iU (l.map Lb.name))):=by
 refine cM [] 33 [.tmp 4] Tryz.func190 Tryz.call190 fun K hK=>?_;simp only [go_sem];refine di tt_ok [] [5] 0 [0,1] (fun vs=>((l.length:Int)-Go.Eng.intOf (vs.headD .undef)).toNat) (fun vs=>∃ i:Nat,vs=[num i]/\1<=i/\(1<i->i<=l.length)/\iU (l.map Lb.name)=iU ((l.map Lb.name).drop (i-1))) (by omega) (by simp only [go_sem]) (⟨1,rfl,aA _,fun h=>absurd h (by decide),rfl⟩) fun vs hI Z1 dm=>?_;obtain⟨i,rfl,hi,hle,hinv⟩:=hI;simp only [go_sem];apply bE <;> intro jf;·have bH:=jq jf;obtain⟨x,hx⟩:=gB l (i-1) (by omega);obtain⟨y,hy⟩:=gA bH;have hw:=bj i (by omega);(have jk:IntKind.i64.wrap ((i:Int)-1)=((i-1:Nat):Int):=by rw [IntWalk.i64_in _ (by omega)];omega);have jH:iU ((l.map Lb.name).drop (i-1))=if yV (Lb.name x) (Lb.name y)=0 then iU ((l.map Lb.name).drop i) else yV (Lb.name x) (Lb.name y):=G3 hi (by rw [ae,hx];rfl) (by rw [ae,hy];rfl);simp only [hw,jk,hx,hy,go_sem];refine lr [pN,pN,pN,pN,pR,pR,pN,pN,pN,pN,pR,pR,pN,pN,pN] 0 ?_;simp only [hw,jk,hx,hy,go_sem];refine lQ (by have h:=hg x (aw hx);simp only [dD,cr,au] at h;exact h) ?_;simp only [hw,jk,hx,hy,go_sem];refine lQ (by have h:=hg y (aw hy);simp only [dD,cr,au] at h;exact h) ?_;simp only [hw,jk,hx,hy,go_sem];refine lQ (CV _ _) ?_;simp only [hw,jk,hx,hy,go_sem];apply bE <;> intro pc;(·(have cj:5=iU (l.map Lb.name):=by rw [hinv,jH,ahO (qB pc)];rfl);simp only [hw,jk,hx,hy,go_sem];exact hK _ (yJ num cj));simp only [hw,jk,hx,hy,go_sem];apply bE <;> intro ph;(·(have cj:1=iU (l.map Lb.name):=by rw [hinv,jH,ahP (qB ph)];rfl);simp only [hw,jk,hx,hy,go_sem];exact hK _ (yJ num cj));have qX:yV (Lb.name x) (Lb.name y)=0:=ahQ (k9 pc) (k9 ph);simp only [hw,jk,hx,hy,go_sem];refine dm _ (fN (by omega) (by simp only [hw,jk,hx,hy,go_sem]) ?_ ?_) <;> simp only [eO,lk,reduceIte,zE];(·exact⟨i+1,rfl,by omega,fun _=>bH,by rw [hinv,jH,gH qX];rfl⟩);simp only [Go.Eng.intOf,a7];omega
 have fP:=ki jf;have cj:(0:Int)=iU (l.map Lb.name):=by rw [hinv];exact (Bd (by rw [aC];omega)).symm
 simp only [go_sem];exact hK _ (yJ num cj)
end
section
attribute [local go_sem] bc cD aC cY
theorem J4 (hG:bJ.g=some 0) (b0 b1 b3 b4 b5 b6:bx) (hb:∀ n,7<=n->a6 n b0=true/\a6 n b1=true/\a6 n b3=true/\a6 n b4=true/\a6 n b5=true/\a6 n b6=true) (x:Ex) (hw:x.wt<=1048576):∃ r_,(fun w=>w=num (ou x)) r_/\bK ak 105 [ca x,.mp 2] ([b0,b1,.map iY 17,b3,b4,b5,b6]) r_ ([b0,b1,.map iY 17,b3,b4,b5,b6]):=by
 refine PK tt_ok [4,11] 77 [.tmp 4] (fn:=Tryz.f105) Tryz.func105 rfl Tryz.call105 ⟨rfl,rfl,by simp⟩ fun K hK=>?_;have lC:=fun n h=>(hb n h).1;have j8:=fun n h=>(hb n h).2.1;have j9:=fun n h=>(hb n h).2.2.1;have o3:=fun n h=>(hb n h).2.2.2.1;have uZ:=fun n h=>(hb n h).2.2.2.2.1;have u0:=fun n h=>(hb n h).2.2.2.2.2;have fw:∀ n,(iY.all fun e=>aQ n e.2.2)=true:=fun n=>C1.below n;have yp:=x.yY;have hml:=x.mod_lt;have hwb:=x.eQ;have O0:=x.CG;simp only [aS,aH];obtain⟨fl,ty,kd,lb,ok,gL,hf,mM,Oe⟩:=Qw (mem:=[b0,b1,.map iY 17,b3,b4,b5,b6,.box [num x.kind,str x.mod,str x.name,str x.text,num x.num,.slice (cV x.types),.slice (x.labels.map cr),.slice (oV x.kids)]]) (b:=2) rfl x.kind;have sl:=zY;simp only [↓lC,↓j8,↓j9,↓o3,↓uZ,↓u0,fw,zC,gL,sl,go_sem];apply bE <;> intro Cr;·(have cj:1=ou x:=by (rcases Oe with h|h);(·rw [h.1] at Cr;cases Cr);unfold ou;rw [h.2]);simp only [↓lC,↓j8,↓j9,↓o3,↓uZ,↓u0,fw,zC,gL,sl,go_sem];exact hK _ _ ⟨yJ num cj,rfl⟩
 have OW:kI x.kind=some ⟨fl,ty,lb,kd⟩:=by (rcases Oe with h|h);(·exact h.2);rw [h.1] at Cr;cases Cr
 have gp:ou x=(if oY x fl ty lb kd=false then 1 else if 32<x.labels.length\/8<x.types.length\/65536<x.text.size then 7 else if rM x fl=true then 4 else if iU (x.labels.map Lb.name)≠0 then iU (x.labels.map Lb.name) else if x.kind=15/\x.name=x.text then 5 else cx j0 x.own):=by unfold ou;rw [OW]
 simp only [↓lC,↓j8,↓j9,↓o3,↓uZ,↓u0,fw,zC,gL,sl,go_sem];refine cL (by have h:=X1 hG x fl ty kd lb hf (by omega) mM;rw [aS] at h;simp only [xM,tM,dM,aH] at h;exact h) ?_;simp only [↓lC,↓j8,↓j9,↓o3,↓uZ,↓u0,fw,zC,gL,sl,go_sem];apply bE <;> intro qQ;·(have cj:1=ou x:=by rw [gp,gH (by simpa using qQ)]);simp only [↓lC,↓j8,↓j9,↓o3,↓uZ,↓u0,fw,zC,gL,sl,go_sem];exact hK _ _ ⟨yJ num cj,rfl⟩
 have eW:oY x fl ty lb kd=true:=by simpa using qQ
 rw [eW,g5 (by simp)] at gp;simp only [↓lC,↓j8,↓j9,↓o3,↓uZ,↓u0,fw,zC,gL,sl,go_sem];refine eJ tt_ok [4,11] [27] 9 [2,4,5,18] (fun vs=>vs=[bl (decide (32<x.labels.length)||decide (8<x.types.length)||decide (65536<x.text.size))]) (fun Z1 dm=>?_) ?_;·simp only [↓lC,↓j8,↓j9,↓o3,↓uZ,↓u0,fw,zC,gL,sl,go_sem];refine lg tt_ok ?_;repeat' (simp only [↓lC,↓j8,↓j9,↓o3,↓uZ,↓u0,fw,zC,gL,sl,go_sem];first|apply bE <;> intro hg|(refine dm _ (fp (by omega) (by simp only [↓lC,↓j8,↓j9,↓o3,↓uZ,↓u0,fw,zC,gL,sl,go_sem]) ?_);simp only [eO,lk,reduceIte,zE];exact yJ (fun b=>[bl b]) (by clear hK dm;clear gp Oe gL;simp_all [aaf,ahT,ady] <;> (intros;omega))))
 intro vs hJ;obtain rfl:=hJ;simp only [↓lC,↓j8,↓j9,↓o3,↓uZ,↓u0,fw,zC,gL,sl,go_sem];apply bE <;> intro pc;·(have ly:32<x.labels.length\/8<x.types.length\/65536<x.text.size:=by simpa [or_assoc] using pc);(have cj:7=ou x:=by rw [gp,gH ly]);simp only [↓lC,↓j8,↓j9,↓o3,↓uZ,↓u0,fw,zC,gL,sl,go_sem];exact hK _ _ ⟨yJ num cj,rfl⟩
 have ly:¬ (32<x.labels.length\/8<x.types.length\/65536<x.text.size):=by intro h;(have h2:(decide (32<x.labels.length)||decide (8<x.types.length)||decide (65536<x.text.size))=true:=by simpa [or_assoc] using h);rw [pc] at h2;cases h2
 rw [g5 ly] at gp;simp only [↓lC,↓j8,↓j9,↓o3,↓uZ,↓u0,fw,zC,gL,sl,go_sem];refine cL (by have h:=J2 hG x fl ty kd lb hf (by omega) (by omega);rw [aS] at h;simp only [xM,tM,dM,aH] at h;exact h) ?_;simp only [↓lC,↓j8,↓j9,↓o3,↓uZ,↓u0,fw,zC,gL,sl,go_sem];apply bE <;> intro adw;·(have cj:4=ou x:=by rw [gp,gH adw]);simp only [↓lC,↓j8,↓j9,↓o3,↓uZ,↓u0,fw,zC,gL,sl,go_sem];exact hK _ _ ⟨yJ num cj,rfl⟩
 rw [g5 (by rw [adw];simp)] at gp;simp only [↓lC,↓j8,↓j9,↓o3,↓uZ,↓u0,fw,zC,gL,sl,go_sem];refine cL (Uc 191 x.labels (fun l _=>Qx l) (by omega)) ?_;simp only [↓lC,↓j8,↓j9,↓o3,↓uZ,↓u0,fw,zC,gL,sl,go_sem];apply bE <;> intro wu;·(have dI:iU (x.labels.map Lb.name)≠0:=by simpa using wu);(have cj:iU (x.labels.map Lb.name)=ou x:=by rw [gp,gH dI]);simp only [↓lC,↓j8,↓j9,↓o3,↓uZ,↓u0,fw,zC,gL,sl,go_sem];exact hK _ _ ⟨yJ num cj,rfl⟩
 have anq:iU (x.labels.map Lb.name)=0:=by simpa using wu
 rw [g5 (by simp [anq])] at gp;simp only [↓lC,↓j8,↓j9,↓o3,↓uZ,↓u0,fw,zC,gL,sl,go_sem];refine eJ tt_ok [4,11] [63] 9 [2,4,18,27,44,52] (fun vs=>vs=[bl (decide (x.kind=15)&&decide (x.name=x.text))]) (fun Z2 lR=>?_) ?_;·simp only [↓lC,↓j8,↓j9,↓o3,↓uZ,↓u0,fw,zC,gL,sl,go_sem];refine lg tt_ok ?_;repeat' (simp only [↓lC,↓j8,↓j9,↓o3,↓uZ,↓u0,fw,zC,gL,sl,go_sem];first|apply bE <;> intro hg|(refine lR _ (fp (by omega) (by simp only [↓lC,↓j8,↓j9,↓o3,↓uZ,↓u0,fw,zC,gL,sl,go_sem]) ?_);simp only [eO,lk,reduceIte,zE];exact yJ (fun b=>[bl b]) (by clear hK lR;clear gp Oe gL;simp_all)))
 intro vs hJ;obtain rfl:=hJ;simp only [↓lC,↓j8,↓j9,↓o3,↓uZ,↓u0,fw,zC,gL,sl,go_sem];apply bE <;> intro Ql;·(have cj:5=ou x:=by rw [gp,gH (by simpa using Ql)]);simp only [↓lC,↓j8,↓j9,↓o3,↓uZ,↓u0,fw,zC,gL,sl,go_sem];exact hK _ _ ⟨yJ num cj,rfl⟩
 rw [g5 (by simpa using Ql)] at gp;simp only [↓lC,↓j8,↓j9,↓o3,↓uZ,↓u0,fw,zC,gL,sl,go_sem];refine cL (by have h:=NQ x (by have:=x.xN;omega);rw [aS] at h;simp only [aH] at h;exact⟨_,rfl,h⟩) ?_;have ZN:=bB Ty.size Ty.size_pos x.own;have hlen:(cV x.own).length=x.own.length:=bc _;have As:∀ u∈x.own,u.wt<x.wt:=fun u hu=>Ex.GQ hu;obtain⟨ps,nL⟩:=gy x.own;rw [<- nL] at ZN As O0 ⊢;simp only [↓lC,↓j8,↓j9,↓o3,↓uZ,↓u0,fw,zC,gL,sl,go_sem];refine di tt_ok [4,11] [67] 9 [18,27,44,52,63,65,66] (fun vs=>((ps.length:Int)-Go.Eng.intOf (vs.headD .undef)).toNat) (fun vs=>∃ i:Nat,vs=[num i]/\i<=ps.length/\cx j0 ps=cx j0 (ps.drop i)) (by omega) (by simp only [↓lC,↓j8,↓j9,↓o3,↓uZ,↓u0,fw,zC,gL,sl,go_sem]) (⟨0,rfl,aY _,rfl⟩) fun vs hI Z3 rP=>?_;obtain⟨i,rfl,hi,hinv⟩:=hI;simp only [↓lC,↓j8,↓j9,↓o3,↓uZ,↓u0,fw,zC,gL,sl,go_sem];apply bE <;> intro Ud;·have bH:=jq Ud;obtain⟨u,hu⟩:=gA bH;have gv:=bj i (by omega);have oh:=uH j0 hu;simp only [↓lC,↓j8,↓j9,↓o3,↓uZ,↓u0,fw,zC,gv,cK,hu,aF,au,gL,sl,go_sem];refine cL (by have h:=rO hG u (by have:=u.de;have:=As u (aw hu);omega) (Ty.aho (by have:=As u (aw hu);omega));rw [aF] at h;simp only [au] at h;exact⟨_,rfl,h⟩) ?_;simp only [↓lC,↓j8,↓j9,↓o3,↓uZ,↓u0,fw,zC,gv,cK,hu,aF,au,gL,sl,go_sem];apply bE <;> intro ahW;(·(have dI:j0 u≠0:=by simpa using ahW);(have cj:j0 u=ou x:=by rw [gp,<- nL,hinv,oh,g5 dI]);simp only [↓lC,↓j8,↓j9,↓o3,↓uZ,↓u0,fw,zC,gv,cK,hu,aF,au,gL,sl,go_sem];exact hK _ _ ⟨yJ num cj,rfl⟩);(have hz:j0 u=0:=by simpa using ahW);simp only [↓lC,↓j8,↓j9,↓o3,↓uZ,↓u0,fw,zC,gv,cK,hu,aF,au,gL,sl,go_sem];refine rP _ (fN (by omega) (by simp only [↓lC,↓j8,↓j9,↓o3,↓uZ,↓u0,fw,zC,gv,cK,hu,aF,au,gL,sl,go_sem]) ?_ ?_) <;> simp only [eO,lk,reduceIte,zE];(·exact⟨i+1,rfl,bH,by rw [hinv,oh,gH hz]⟩);simp only [Go.Eng.intOf,a7];omega
 have fP:=ki Ud;have cj:0=ou x:=by rw [gp,<- nL,hinv,dq (by omega)];rfl
 simp only [↓lC,↓j8,↓j9,↓o3,↓uZ,↓u0,fw,zC,gL,sl,go_sem];exact hK _ _ ⟨yJ num cj,rfl⟩
end
end
theorem anr (B0 B1:bx):ee ak [B0,B1,.map [] 0] 144 (.mp 2) (num 0) (.agg [str ⟨#[98]⟩,num 0,bl false,num 0])=some [B0,B1,.map [tT] 1]:=kr
theorem ans (B0 B1:bx):ee ak [B0,B1,.map [tT] 1] 144 (.mp 2) (num 1) (.agg [str ⟨#[120]⟩,num 0,bl false,num 0])=some [B0,B1,.map [tT,uY] 2]:=kr
theorem ant (B0 B1:bx):ee ak [B0,B1,.map [tT,uY] 2] 144 (.mp 2) (num 2) (.agg [str ⟨#[98]⟩,num 0,bl false,num 0])=some [B0,B1,.map [tT,uY,wo] 3]:=kr
theorem anu (B0 B1:bx):ee ak [B0,B1,.map [tT,uY,wo] 3] 144 (.mp 2) (num 3) (.agg [str ⟨#[110]⟩,num 0,bl false,num 0])=some [B0,B1,.map [tT,uY,wo,x6] 4]:=kr
theorem anv (B0 B1:bx):ee ak [B0,B1,.map [tT,uY,wo,x6] 4] 144 (.mp 2) (num 4) (.agg [str ⟨#[109,110]⟩,num (-1),bl false,num 0])=some [B0,B1,.map [tT,uY,wo,x6,y3] 5]:=kr
theorem anw (B0 B1:bx):ee ak [B0,B1,.map [tT,uY,wo,x6,y3] 5] 144 (.mp 2) (num 5) (.agg [str ⟨#[]⟩,num 0,bl true,num 0])=some [B0,B1,.map [tT,uY,wo,x6,y3,AA] 6]:=kr
theorem anx (B0 B1:bx):ee ak [B0,B1,.map [tT,uY,wo,x6,y3,AA] 6] 144 (.mp 2) (num 6) (.agg [str ⟨#[110]⟩,num 0,bl false,num 1])=some [B0,B1,.map [tT,uY,wo,x6,y3,AA,CY] 7]:=kr
theorem anz (B0 B1:bx):ee ak [B0,B1,.map [tT,uY,wo,x6,y3,AA,CY] 7] 144 (.mp 2) (num 7) (.agg [str ⟨#[110]⟩,num 0,bl false,num 1])=some [B0,B1,.map [tT,uY,wo,x6,y3,AA,CY,D4] 8]:=kr
theorem anA (B0 B1:bx):ee ak [B0,B1,.map [tT,uY,wo,x6,y3,AA,CY,D4] 8] 144 (.mp 2) (num 8) (.agg [str ⟨#[116,111]⟩,num 0,bl true,num 1])=some [B0,B1,.map [tT,uY,wo,x6,y3,AA,CY,D4,G7] 9]:=kr
theorem anB (B0 B1:bx):ee ak [B0,B1,.map [tT,uY,wo,x6,y3,AA,CY,D4,G7] 9] 144 (.mp 2) (num 9) (.agg [str ⟨#[]⟩,num 0,bl true,num 1])=some [B0,B1,.map [tT,uY,wo,x6,y3,AA,CY,D4,G7,J3] 10]:=kr
theorem ahX (B0 B1:bx):ee ak [B0,B1,.map [tT,uY,wo,x6,y3,AA,CY,D4,G7,J3] 10] 144 (.mp 2) (num 10) (.agg [str ⟨#[110]⟩,num 0,bl false,num 2])=some [B0,B1,.map [tT,uY,wo,x6,y3,AA,CY,D4,G7,J3,wq] 11]:=kr
theorem ahY (B0 B1:bx):ee ak [B0,B1,.map [tT,uY,wo,x6,y3,AA,CY,D4,G7,J3,wq] 11] 144 (.mp 2) (num 11) (.agg [str ⟨#[]⟩,num 1,bl false,num 1])=some [B0,B1,.map [tT,uY,wo,x6,y3,AA,CY,D4,G7,J3,wq,y4] 12]:=kr
theorem ahZ (B0 B1:bx):ee ak [B0,B1,.map [tT,uY,wo,x6,y3,AA,CY,D4,G7,J3,wq,y4] 12] 144 (.mp 2) (num 12) (.agg [str ⟨#[]⟩,num 1,bl false,num 3])=some [B0,B1,.map [tT,uY,wo,x6,y3,AA,CY,D4,G7,J3,wq,y4,CZ] 13]:=kr
theorem ah0 (B0 B1:bx):ee ak [B0,B1,.map [tT,uY,wo,x6,y3,AA,CY,D4,G7,J3,wq,y4,CZ] 13] 144 (.mp 2) (num 13) (.agg [str ⟨#[118]⟩,num 1,bl true,num 1])=some [B0,B1,.map [tT,uY,wo,x6,y3,AA,CY,D4,G7,J3,wq,y4,CZ,G8] 14]:=kr
theorem ah1 (B0 B1:bx):ee ak [B0,B1,.map [tT,uY,wo,x6,y3,AA,CY,D4,G7,J3,wq,y4,CZ,G8] 14] 144 (.mp 2) (num 14) (.agg [str ⟨#[]⟩,num 1,bl false,num (-1)])=some [B0,B1,.map [tT,uY,wo,x6,y3,AA,CY,D4,G7,J3,wq,y4,CZ,G8,Mx] 15]:=kr
theorem ah2 (B0 B1:bx):ee ak [B0,B1,.map [tT,uY,wo,x6,y3,AA,CY,D4,G7,J3,wq,y4,CZ,G8,Mx] 15] 144 (.mp 2) (num 15) (.agg [str ⟨#[110,120]⟩,num 1,bl false,num 3])=some [B0,B1,.map [tT,uY,wo,x6,y3,AA,CY,D4,G7,J3,wq,y4,CZ,G8,Mx,Ub] 16]:=kr
theorem aaj (B0 B1:bx):ee ak [B0,B1,.map [tT,uY,wo,x6,y3,AA,CY,D4,G7,J3,wq,y4,CZ,G8,Mx,Ub] 16] 144 (.mp 2) (num 16) (.agg [str ⟨#[110]⟩,num 0,bl false,num (-1)])=some [B0,B1,.map [tT,uY,wo,x6,y3,AA,CY,D4,G7,J3,wq,y4,CZ,G8,Mx,Ub,adx] 17]:=kr
theorem Ue (B0 B1:bx) (hb:∀ n,2<=n->a6 n B0=true/\a6 n B1=true):bK ak 103 [] [B0,B1] (.mp 2) [B0,B1,.map iY 17]:=by refine oO tt_ok (fn:=Tryz.f103) 3 (by simp only [af,ah];decide) Tryz.func103 rfl Tryz.call103 ?_;simp only [dD,dj,Tryz.ntmps103,af,ah,zA,zF,aV,aW];refine mX tt_ok 20 [2] [] rfl rfl fun K hK=>?_;simp only [dD,go_sem];refine hK _ _ rfl ?_;simp only [V8,zA,zE];refine mX tt_ok 20 (2::(rp 19 1 [])) [] rfl rfl fun K hK=>?_;refine nJ 7 fun K1 l7=>?_;simp only [B6,anr,ans,ant,go_sem];refine l7 _ ?_;refine nJ 7 fun K1 l7=>?_;simp only [B6,anu,anv,anw,go_sem];refine l7 _ ?_;refine nJ 7 fun K1 l7=>?_;simp only [B6,anx,anz,anA,anB,go_sem];refine l7 _ ?_;refine nJ 7 fun K1 l7=>?_;simp only [B6,ahX,ahY,ahZ,go_sem];refine l7 _ ?_;refine nJ 7 fun K1 l7=>?_;simp only [B6,ah0,ah1,ah2,aaj,go_sem];refine l7 _ ?_;simp only [B6,aaj,go_sem];refine hK _ _ rfl ?_;simp only [V8,zA,zE];refine cy ⟨.inl rfl,rfl,rfl,?_,rfl⟩;have h1:=hb 3 (by omega);have h2:=C1.below 3;show (a6 3 B0&&(a6 3 B1&&((iY.all fun e=>aQ 3 e.2.2)&&true)))=true;rw [h1.1,h1.2,h2];rfl
theorem Uf (e:Ex):sg e=if decide (4096<(e.size:Int))||decide (32<(e.depth:Int)) then 7 else cx ou e.nodes:=by unfold sg;by_cases h1:4096<e.size <;> by_cases h2:32<e.depth <;> simp [h1,h2] <;> (intros;omega)
theorem x7 (hG:bJ.g=some 0) (e:Ex) (he:e.wt<=1048576):dz ak 42 [ca e] (num (sg e)):=by
 have hbw:=e.eQ;have h18:=EU e (by omega);have h57:=Mf e.dE e (aA _) (by omega);have h53:=fun B0 B1 B2 B3 h=>JB e [B0,B1,B2,B3] h;have hP:∀ v∈e.nodes,v.wt<=1048576:=fun v hv=>by have:=Ex.oW hv;omega
 refine jt Tryz.func42 Tryz.call42 ?_;simp only [dD,dj,Tryz.ntmps42,af,ah,zA,zF,aV,aW];rw [aS] at h18 h57 h53 ⊢;simp only [aH] at h18 h57 h53 ⊢;refine bY fun K hK=>?_;simp only [go_sem];refine hK _ ?_;refine bS ?_;have res:sg e=if decide (4096<(e.size:Int))||decide (32<(e.depth:Int)) then 7 else cx ou e.nodes:=Uf e;cases c1:decide (4096<(e.size:Int)) with|true =>rw [c1] at res;refine bY fun K hK=>?_;simp only [c1,go_sem];refine .inl ⟨_,_,by simp only [c1,go_sem,aE],h18,?_⟩;(try simp only [c1,go_sem]);refine hK _ ?_;refine bD rfl ?_;refine bY fun K hK=>?_;simp only [go_sem];refine hK _ ?_;refine cy ⟨.inl rfl,?_⟩;rw [res];rfl|false =>rw [c1] at res;cases c2:decide (32<(e.depth:Int)) with|true =>rw [c2] at res;refine bY fun K hK=>?_;simp only [c1,go_sem];refine .inl ⟨_,_,by simp only [c1,go_sem,aE],h18,?_⟩;(try simp only [c1,go_sem]);refine .inl ⟨_,_,by simp only [c2,go_sem,aE],h57,?_⟩;(try simp only [c2,go_sem]);refine hK _ ?_;refine bD rfl ?_;refine bY fun K hK=>?_;simp only [go_sem];refine hK _ ?_;refine cy ⟨.inl rfl,?_⟩;rw [res];rfl|false =>rw [c2] at res;refine bY fun K hK=>?_;simp only [c1,go_sem];refine .inl ⟨_,_,by simp only [c1,go_sem,aE],h18,?_⟩;(try simp only [c1,go_sem]);refine .inl ⟨_,_,by simp only [c2,go_sem,aE],h57,?_⟩;(try simp only [c2,go_sem]);refine hK _ ?_;refine bD rfl (cR ?_);show fc _ _ _ _ _ _;refine bY fun K hK=>?_;simp only [go_sem];(refine .inr <| .inl ⟨_,_,Ue _ _ (fun n hn=>⟨rfl,rfl⟩),?_⟩);(try simp only [go_sem]);refine hK _ ?_;refine bS ?_;refine bY fun K hK=>?_;simp only [go_sem];(refine .inr <| .inl ⟨_,_,h53 _ _ _ _ rfl,?_⟩);(try simp only [go_sem]);refine hK _ ?_;refine cz (CH (t:=e) (B:=1048576) (fun s:Int=>[.box (aH e),.box [num s],.map iY 17,.box [.mp 2],.box (aH e)]) 0 5 4 rfl (fun _=>rfl) (by omega) (fun _=>rfl) (fun _=>rfl) rfl rfl rfl (fun s u=>if decide (ou u=0)=true then (s,none) else (ou u,some .ret)) (by omega) (by omega) (fun v=>v.wt<=1048576) hP ?_ ?_);(·intro s u hu hm l LR LB hLR hLB;obtain⟨_,rfl,hn⟩:=J4 hG (.box (aH e)) (.box [num s]) (.box [.mp 2]) (.box (aH e)) LB (.box (aH u)) (fun n hn=>⟨rfl,rfl,by simp only [a6,cI,ew,aQ,aJ,decide_eq_true_eq];omega,rfl,zQ (by omega) hLB,rfl⟩) u hm;rw [aS] at hn ⊢;simp only [aH] at hn;simp only [dD,pL,aH,ni,kP];refine jR fun K hK=>?_;simp only [go_sem];refine hK _ ?_;refine⟨rfl,rfl,cz ?_⟩;simp only [ni,kP];refine bY fun K hK=>?_;simp only [go_sem];(refine .inr <| .inl ⟨_,_,hn,?_⟩);(try simp only [go_sem]);refine hK _ ?_;refine bS ?_;cases c3:decide (ou u=0) with|true =>refine jR fun K hK=>?_;simp only [c3,go_sem];refine hK _ ?_;refine bD rfl (cR ?_);exact⟨rfl,rfl,rfl⟩|false =>refine jR fun K hK=>?_;simp only [c3,go_sem];refine hK _ ?_;refine bD rfl ?_;refine bY fun K hK=>?_;simp only [go_sem];refine hK _ ?_;exact cy ⟨rfl,rfl,rfl⟩);rw [tS];simp only [bg,bw,if_false] at res;rw [res];cases c4:decide (cx ou e.nodes=0) with|true =>have e0:cx ou e.nodes=0:=qB c4;simp only [if_true];show fc _ _ _ _ _ _;refine bY fun K hK=>?_;simp only [go_sem];refine hK _ ?_;refine cy ⟨.inl rfl,?_⟩;rw [e0];rfl|false =>simp only [bw,if_false];exact cy ⟨.inl rfl,rfl⟩
section
def kN (t:Ty):Bool:=t.nodes.all fun u=>!decide (u.kind=9) && !dH u.mod
theorem Ug (t:Ty):kN t=(!decide (t.kind=9) && !dH t.mod&&t.parts.all kN):=by unfold kN;rw [t.dZ,cI,avX]
def plN (y:Ex):Bool:=decide (y.kind=4)&&(dH y.mod||decide (y.mod=⟨#[]⟩)&&decide ((y.types.length:Int)=0))
def sj (x:Ex):Bool:=x.nodes.all fun y=>!plN y&&(y.types++y.labels.map Lb.ty).all kN
theorem adA (x:Ex):sj x=(!plN x&&(x.types++x.labels.map Lb.ty).all kN&&x.kids.all sj):=by unfold sj;rw [x.dZ,cI,avX]
theorem y5 {α:Type} (p:α->Bool) (l:List α):(l.any fun x=>!p x) = !l.all p:=by rw [awP]
theorem rQ {α:Type} (g:α->Nat) (h:∀ a,1<=g a):∀ l:List α,l.length<=aU g l
 | []=>aA _
 | a :: r=>by rw [aU,af];have:=rQ g h r;have:=h a;omega
def Qy (t:Ty):Prop:=Cn 36 [cA t] (bl (kN t))
def PlX (x:Ex):Prop:=Cn 43 [ca x] (bl (sj x))
theorem x8 {t:Ty} (h:Qy t):Cn 36 [.agg (tM t)] (bl (kN t)):=by unfold Qy at h;simp only [aF,au,ax,aB] at h;exact h
theorem Uh {x:Ex} (h:PlX x):Cn 43 [.agg (xM x)] (bl (sj x)):=by unfold PlX at h;simp only [aS,aH,ax,aM] at h;exact h
theorem X2 (g:FuncId) (q:Fd->Bool) (l:List Fd) (hg:∀ x∈l,Cn g [gZ x] (bl (q x))) (hl:l.length<=1048576):Cn 93 [.slice (l.map gZ),.sc (.func (.func g) #[] #[])] (bl (l.any q)):=by have h:=CW g q l hg hl;rw [aB] at h;exact h
section
attribute [local go_sem] aC
theorem Ui (g:FuncId) (q:Ty->Bool) (l:List Ty) (hg:∀ x∈l,Cn g [cA x] (bl (q x))) (hl:l.length<=1048576):∃ r_,(fun w=>∃ k:Int,w=num k/\decide (0<=k)=l.any q) r_/\dz ak 180 [.slice (l.map cA),.sc (.func (.func g) #[] #[])] r_:=by
 refine cM [] 19 [.tmp 4] Tryz.func180 Tryz.call180 fun K hK=>?_;simp only [go_sem];refine di tt_ok [] [8] 0 [0,1,7] (fun vs=>((l.length:Int)-Go.Eng.intOf (vs.headD .undef)).toNat) (fun vs=>∃ i:Nat,vs=[num i]/\i<=l.length/\∀ j<i,∀ x,l[j]?=some x->q x=false) (by omega) (by simp only [go_sem]) (⟨0,rfl,aY _,fun j hj=>absurd hj (bR j)⟩) fun vs hI Z1 dm=>?_;obtain⟨i,rfl,hi,cZ⟩:=hI;simp only [go_sem];apply bE <;> intro kj;·have bH:=jq kj;have hw:=bj i (by omega);obtain⟨x,hx⟩:=gA bH;simp only [hw,ae,hx,aF,au,ax,aB,go_sem];refine cL (by have h:=hg x (aw hx);simp only [aF,au,ax,aB] at h;exact h) ?_;simp only [hw,ae,hx,aF,au,ax,aB,go_sem];apply bE <;> intro iG;(·(have cj:decide (0<=(i:Int))=l.any q:=by rw [ka hx iG];exact decide_eq_true (gV i));simp only [hw,ae,hx,aF,au,ax,aB,go_sem];exact hK _ ⟨_,rfl,cj⟩);simp only [hw,ae,hx,aF,au,ax,aB,go_sem];refine dm _ (fN (by omega) (by simp only [hw,ae,hx,aF,au,ax,aB,go_sem]) ?_ ?_) <;> simp only [eO,lk,reduceIte,zE];(·refine⟨i+1,rfl,bH,fun j hj=>?_⟩;(rcases bn j i with h|h);(·exact cZ j h);(obtain rfl:j=i:=by omega);intro y hy;rw [hx] at hy;cases hy;exact iG);simp only [Go.Eng.intOf,a7];omega
 have fP:=ki kj;have cj:decide (0<=(-1:Int))=l.any q:=(any_none fun j hj=>cZ j (by omega)).symm ▸ rfl;simp only [go_sem];exact hK _ ⟨_,rfl,cj⟩
end
theorem J5 (g:FuncId) (q:Ty->Bool) (l:List Ty) (hg:∀ x∈l,Cn g [cA x] (bl (q x))) (hl:l.length<=1048576):Cn 91 [.slice (l.map cA),.sc (.func (.func g) #[] #[])] (bl (l.any q)):=by refine cM [] 9 [.tmp 4] Tryz.func91 Tryz.call91 fun K hK=>?_;simp only [go_sem];refine cF (Ui g q l hg hl) ?_;rintro _ ⟨k,rfl,hk⟩;simp only [go_sem];exact hK _ (yJ bl hk)
section
attribute [local go_sem] aC
theorem Uj (g:FuncId) (q:Lb->Bool) (l:List Lb) (hg:∀ x∈l,Cn g [cr x] (bl (q x))) (hl:l.length<=1048576):∃ r_,(fun w=>∃ k:Int,w=num k/\decide (0<=k)=l.any q) r_/\dz ak 192 [.slice (l.map cr),.sc (.func (.func g) #[] #[])] r_:=by
 refine cM [] 19 [.tmp 4] Tryz.func192 Tryz.call192 fun K hK=>?_;simp only [go_sem];refine di tt_ok [] [8] 0 [0,1,7] (fun vs=>((l.length:Int)-Go.Eng.intOf (vs.headD .undef)).toNat) (fun vs=>∃ i:Nat,vs=[num i]/\i<=l.length/\∀ j<i,∀ x,l[j]?=some x->q x=false) (by omega) (by simp only [go_sem]) (⟨0,rfl,aY _,fun j hj=>absurd hj (bR j)⟩) fun vs hI Z1 dm=>?_;obtain⟨i,rfl,hi,cZ⟩:=hI;simp only [go_sem];apply bE <;> intro kj;·have bH:=jq kj;have hw:=bj i (by omega);obtain⟨x,hx⟩:=gA bH;simp only [hw,ae,hx,cr,au,ax,aB,al,aq,go_sem];refine cL (by have h:=hg x (aw hx);simp only [dD,cr,au,ax,aB] at h;exact h) ?_;simp only [hw,ae,hx,cr,au,ax,aB,al,aq,go_sem];apply bE <;> intro iG;(·(have cj:decide (0<=(i:Int))=l.any q:=by rw [ka hx iG];exact decide_eq_true (gV i));simp only [hw,ae,hx,cr,au,ax,aB,al,aq,go_sem];exact hK _ ⟨_,rfl,cj⟩);simp only [hw,ae,hx,cr,au,ax,aB,al,aq,go_sem];refine dm _ (fN (by omega) (by simp only [hw,ae,hx,cr,au,ax,aB,al,aq,go_sem]) ?_ ?_) <;> simp only [eO,lk,reduceIte,zE];(·refine⟨i+1,rfl,bH,fun j hj=>?_⟩;(rcases bn j i with h|h);(·exact cZ j h);(obtain rfl:j=i:=by omega);intro y hy;rw [hx] at hy;cases hy;exact iG);simp only [Go.Eng.intOf,a7];omega
 have fP:=ki kj;have cj:decide (0<=(-1:Int))=l.any q:=(any_none fun j hj=>cZ j (by omega)).symm ▸ rfl;simp only [go_sem];exact hK _ ⟨_,rfl,cj⟩
end
theorem Uk (g:FuncId) (q:Lb->Bool) (l:List Lb) (hg:∀ x∈l,Cn g [cr x] (bl (q x))) (hl:l.length<=1048576):Cn 107 [.slice (l.map cr),.sc (.func (.func g) #[] #[])] (bl (l.any q)):=by refine cM [] 9 [.tmp 4] Tryz.func107 Tryz.call107 fun K hK=>?_;simp only [go_sem];refine cF (Uj g q l hg hl) ?_;rintro _ ⟨k,rfl,hk⟩;simp only [go_sem];exact hK _ (yJ bl hk)
section
attribute [local go_sem] aC
theorem Ul (g:FuncId) (q:Ex->Bool) (l:List Ex) (hg:∀ x∈l,Cn g [ca x] (bl (q x))) (hl:l.length<=1048576):∃ r_,(fun w=>∃ k:Int,w=num k/\decide (0<=k)=l.any q) r_/\dz ak 193 [.slice (l.map ca),.sc (.func (.func g) #[] #[])] r_:=by
 refine cM [] 19 [.tmp 4] Tryz.func193 Tryz.call193 fun K hK=>?_;simp only [go_sem];refine di tt_ok [] [8] 0 [0,1,7] (fun vs=>((l.length:Int)-Go.Eng.intOf (vs.headD .undef)).toNat) (fun vs=>∃ i:Nat,vs=[num i]/\i<=l.length/\∀ j<i,∀ x,l[j]?=some x->q x=false) (by omega) (by simp only [go_sem]) (⟨0,rfl,aY _,fun j hj=>absurd hj (bR j)⟩) fun vs hI Z1 dm=>?_;obtain⟨i,rfl,hi,cZ⟩:=hI;simp only [go_sem];apply bE <;> intro kj;·have bH:=jq kj;have hw:=bj i (by omega);obtain⟨x,hx⟩:=gA bH;simp only [hw,ae,hx,aS,aH,ax,aM,go_sem];refine cL (by have h:=hg x (aw hx);simp only [aS,aH,ax,aM] at h;exact h) ?_;simp only [hw,ae,hx,aS,aH,ax,aM,go_sem];apply bE <;> intro iG;(·(have cj:decide (0<=(i:Int))=l.any q:=by rw [ka hx iG];exact decide_eq_true (gV i));simp only [hw,ae,hx,aS,aH,ax,aM,go_sem];exact hK _ ⟨_,rfl,cj⟩);simp only [hw,ae,hx,aS,aH,ax,aM,go_sem];refine dm _ (fN (by omega) (by simp only [hw,ae,hx,aS,aH,ax,aM,go_sem]) ?_ ?_) <;> simp only [eO,lk,reduceIte,zE];(·refine⟨i+1,rfl,bH,fun j hj=>?_⟩;(rcases bn j i with h|h);(·exact cZ j h);(obtain rfl:j=i:=by omega);intro y hy;rw [hx] at hy;cases hy;exact iG);simp only [Go.Eng.intOf,a7];omega
 have fP:=ki kj;have cj:decide (0<=(-1:Int))=l.any q:=(any_none fun j hj=>cZ j (by omega)).symm ▸ rfl;simp only [go_sem];exact hK _ ⟨_,rfl,cj⟩
end
theorem Um (g:FuncId) (q:Ex->Bool) (l:List Ex) (hg:∀ x∈l,Cn g [ca x] (bl (q x))) (hl:l.length<=1048576):Cn 109 [.slice (l.map ca),.sc (.func (.func g) #[] #[])] (bl (l.any q)):=by refine cM [] 9 [.tmp 4] Tryz.func109 Tryz.call109 fun K hK=>?_;simp only [go_sem];refine cF (Ul g q l hg hl) ?_;rintro _ ⟨k,rfl,hk⟩;simp only [go_sem];exact hK _ (yJ bl hk)
theorem adB (t:Ty) (h:Qy t):Cn 92 [cA t] (bl (!kN t)):=by refine cM [] 6 [.tmp 2] Tryz.func92 Tryz.call92 fun K hK=>?_;simp only [aF,au,ax,aB];simp only [go_sem];refine cL (x8 h) ?_;simp only [go_sem];exact hK _ rfl
theorem adC (x:Fd) (h:Qy x.ty):Cn 94 [gZ x] (bl (!kN x.ty)):=by refine cM [] 7 [.tmp 2] Tryz.func94 Tryz.call94 fun K hK=>?_;simp only [dD,bL,au,ax,aB];simp only [go_sem];refine cL (x8 h) ?_;simp only [go_sem];exact hK _ rfl
theorem C2 (hG:bJ.g=some 0) (t:Ty) (hm:t.mod.size<=1048576) (uP:t.args.length<=1048576) (hlf:t.bT.length<=1048576) (hA:∀ u∈t.args,Qy u) (hF:∀ x∈t.bT,Qy x.ty):Cn 36 [cA t] (bl (kN t)):=by
 refine cM [] 21 [.tmp 2] Tryz.func36 Tryz.call36 fun K hK=>?_;simp only [aF,au,ax,aB];have oK:=Ug t;have wR:t.parts.all kN=(!t.args.any (fun u=>!kN u) && !t.bT.any (fun x=>!kN x.ty)):=by unfold Ty.parts;rw [mO,y5,y5 (fun x:Fd=>kN x.ty),List.all_map];simp [aww]
 obtain⟨p1,uQ⟩:=gz (t.args.any (fun u=>!kN u));obtain⟨p2,rn⟩:=gz (t.bT.any (fun x=>!kN x.ty));obtain⟨p3,Ra⟩:=gz (dH t.mod);rw [wR,uQ,rn,Ra] at oK;have hAA:=J5 92 (fun u=>!kN u) t.args (fun u hu=>adB u (hA u hu)) uP;have hAF:=X2 94 (fun x=>!kN x.ty) t.bT (fun x hx=>adC x (hF x hx)) hlf;rw [uQ] at hAA;rw [rn] at hAF;have X3:=oD hG t.mod hm;rw [Ra] at X3;repeat' (simp only [go_sem];first|apply bE <;> intro hg|refine cL (X3) ?_|refine cL (hAA) ?_|refine cL (hAF) ?_|(exact hK _ (yJ bl (by clear hK;rw [oK];simp_all))))
theorem iZ (hG:bJ.g=some 0):∀ (N:Nat) (t:Ty),t.size<=N->t.wt<=1048576->Qy t
 | 0,t,h,_=>absurd t.size_pos (by omega)
 | N+1,t,h,hw=>by
  have hs:=t.eA
  have hp:∀ u∈t.parts,Qy u:=fun u hu=>by
   obtain⟨i,hi⟩:=br.1 hu
   have:=bX Ty.size hi
   have h1:=t.xP
   have h2:=bX Ty.wt hi
   exact iZ hG N u (by omega) (by omega)
  have h1:=t.fF
  have h2:=rQ Ty.wt (fun a=>by have:=a.fF;omega) t.args
  have h3:=rQ Fd.wt (fun a=>by have:=a.fF;have:=a.ty.fF;omega) t.bT
  exact C2 hG t (by omega) (by omega) (by omega) (fun u hu=>hp u (fT _ hu)) fun x hx=>hp x.ty (gO _ (aa1 hx))
theorem adD (t:Ty) (h:Qy t):Cn 106 [cA t] (bl (!kN t)):=by refine cM [] 6 [.tmp 2] Tryz.func106 Tryz.call106 fun K hK=>?_;simp only [aF,au,ax,aB];simp only [go_sem];refine cL (x8 h) ?_;simp only [go_sem];exact hK _ rfl
theorem adE (x:Lb) (h:Qy x.ty):Cn 108 [cr x] (bl (!kN x.ty)):=by refine cM [] 7 [.tmp 2] Tryz.func108 Tryz.call108 fun K hK=>?_;simp only [dD,cr,au,ax,aB];simp only [go_sem];refine cL (x8 h) ?_;simp only [go_sem];exact hK _ rfl
theorem adF (x:Ex) (h:PlX x):Cn 110 [ca x] (bl (!sj x)):=by refine cM [] 6 [.tmp 2] Tryz.func110 Tryz.call110 fun K hK=>?_;simp only [aS,aH,ax,aM];simp only [go_sem];refine cL (Uh h) ?_;simp only [go_sem];exact hK _ rfl
theorem C3 (hG:bJ.g=some 0) (x:Ex) (hm:x.mod.size<=1048576) (bH:x.types.length<=1048576) (V9:x.labels.length<=1048576) (Z0:x.kids.length<=1048576) (hT:∀ u∈x.types,Qy u) (hL:∀ u∈x.labels,Qy u.ty) (hX:∀ k∈x.kids,PlX k):Cn 43 [ca x] (bl (sj x)):=by
 refine cM [] 39 [.tmp 2] Tryz.func43 Tryz.call43 fun K hK=>?_;simp only [aS,aH,ax,aM];have oK:=adA x;have wR:(x.types++x.labels.map Lb.ty).all kN=(!x.types.any (fun u=>!kN u) && !x.labels.any (fun y=>!kN y.ty)):=by rw [mO,y5,y5 (fun y:Lb=>kN y.ty),List.all_map];simp [aww]
 have KM:x.kids.all sj = !x.kids.any (fun k=>!sj k):=by rw [y5];simp
 obtain⟨p1,uQ⟩:=gz (x.types.any (fun u=>!kN u));obtain⟨p2,rn⟩:=gz (x.labels.any (fun y=>!kN y.ty));obtain⟨p3,Ra⟩:=gz (dH x.mod);obtain⟨p4,X4⟩:=gz (x.kids.any (fun k=>!sj k));rw [wR,KM,uQ,rn,X4] at oK;unfold plN at oK;rw [Ra] at oK;have hAA:=J5 106 (fun u=>!kN u) x.types (fun u hu=>adD u (hT u hu)) bH;have hAL:=Uk 108 (fun y=>!kN y.ty) x.labels (fun y hy=>adE y (hL y hy)) V9;have hAX:=Um 110 (fun k=>!sj k) x.kids (fun k hk=>adF k (hX k hk)) Z0;rw [uQ] at hAA;rw [rn] at hAL;rw [X4] at hAX;have X3:=oD hG x.mod hm;rw [Ra] at X3;clear wR KM uQ rn Ra X4 hT hL hX;repeat' (simp only [cY,aC,go_sem];first|apply bE <;> intro hg|refine cL (X3) ?_|refine cL (hAA) ?_|refine cL (hAL) ?_|refine cL (hAX) ?_|(exact hK _ (yJ bl (by clear hK;rw [oK];simp_all))))
theorem rR (hG:bJ.g=some 0):∀ (N:Nat) (x:Ex),x.size<=N->x.wt<=1048576->PlX x
 | 0,x,h,_=>absurd x.size_pos (by omega)
 | N+1,x,h,hw=>by
  have hs:=x.oE
  have h1:=x.fF
  have h2:=rQ Ty.wt (fun a=>by have:=a.fF;omega) x.types
  have h3:=rQ Lb.wt (fun a=>by unfold Lb.wt;omega) x.labels
  have h4:=rQ Ex.wt (fun a=>by have:=a.fF;omega) x.kids
  refine C3 hG x (by omega) (by omega) (by omega) (by omega) (fun u hu=>?_) (fun u hu=>?_) fun k hk=>?_
  ·obtain⟨i,hi⟩:=br.1 hu
   have:=bX Ty.wt hi
   exact iZ hG _ u (aA _) (by omega)
  ·obtain⟨i,hi⟩:=br.1 hu
   have:=bX Lb.wt hi
   have hl:u.wt=1+u.name.size+u.var.size+u.ty.wt:=rfl
   exact iZ hG _ u.ty (aA _) (by omega)
  obtain⟨i,hi⟩:=br.1 hk
  have:=bX Ex.wt hi
  have:=bX Ex.size hi
  exact rR hG N k (by omega) (by omega)
end
section
def DD (B:bx) (v:Nat) (O:List UInt8):List bx:=[B,.ox 129 2 v O.length,.pq 5 v O]
def WR1 (x:V) (B:bx) (O X:List UInt8) (r:V) (m:List bx):Prop:=r=x/\∃ O' v',O'=O++X/\m=DD B v' O'
def s1 (N:Nat) (j:Nat):Nat:=if j=0 then 1 else if j=1 then 2 else N+(j-2)
theorem My (N i j:Nat) (hi:i<2) (hj:j<2) (h:s1 N i=s1 N j):i=j:=by
 have h1:i=0\/i=1:=by omega
 have h2:j=0\/j=1:=by omega
 rcases h1 with rfl|rfl <;> rcases h2 with rfl|rfl <;> first|rfl|(simp [s1] at h)
theorem adG {x:V} {f:FuncId} {vs vs':List V} {O X:List UInt8} {v:Nat} (h:∃ r m,WG x 129 O X [] r m/\bK ak f vs (bM 129 v O []) r m) (hv:vs.all (aQ 2)=true) (hx:aQ 2 x=true) (Pf:∀ N,uU (s1 N) vs=vs') (sA:∀ N,l9 (s1 N) x=x) (B:bx) :
  ∃ r m,WR1 x B O X r m/\bK ak f vs' [B,.ox 129 2 v O.length,.pq 5 v O] r m:=by
 obtain⟨r,m,⟨rfl,O',v',rfl,rfl⟩,h⟩:=h;refine⟨_,_,⟨rfl,_,v',rfl,rfl⟩,?_⟩;have h2:=h.LO (DD B v O) (s1 (DD B v O).length) 2 rfl hv rfl hx rfl (aA _) (fun i C hi=>?_) (My _) (fun j hj=>by unfold s1;rw [g5 (by omega),g5 (by omega)]);·rw [Pf,sA] at h2;exact JO h2 ((ai _).trans rfl)
 match i,hi with|0,hi=>cases hi;rfl|1,hi=>cases hi;rfl|i+2,hi=>cases hi
theorem Mz (v:Nat) (O:List UInt8) (h0:O≠[]) (B:bx):∃ r m,(r=str (bs O)/\m=[B,.ox 129 2 v O.length,.sF v 1 (jB O)])/\bK ak 85 [.ptr 1 0] [B,.ox 129 2 v O.length,.pq 5 v O] r m:=by
 refine⟨_,_,⟨rfl,rfl⟩,?_⟩;have h2:=(E6 (T:=129) v O h0).LO (DD B v O) (s1 (DD B v O).length) 2 rfl rfl rfl rfl rfl (aA _) (fun i C hi=>?_) (My _) (fun j hj=>by unfold s1;rw [g5 (by omega),g5 (by omega)]);·exact JO h2 ((ai _).trans rfl)
 match i,hi with|0,hi=>cases hi;rfl|1,hi=>cases hi;rfl|i+2,hi=>cases hi
def gh (e:Int) (pl:Bool) (X:List UInt8):g6×Int:=if e≠0 then (⟨#[]⟩,e) else if pl=false then (⟨#[]⟩,1) else if 65536<X.length then (⟨#[]⟩,7) else (bs X,0)
section
attribute [local go_sem] DD ah
theorem y6 (g:FuncId) (e:Int) (pl:Bool) (X:List UInt8) (C:List V) (hC:C.all (aQ 1)=true) (hg:e=0->pl=true->X≠[]/\X.length<=34359738368/\∀ v O,O.length+X.length<=34359738368->∃ r m,WR1 (.fZ []) (.box C) O X r m/\bK ak g [.ptr 1 0,.ptr 0 0] (DD (.box C) v O) r m):∃ r_ m_,((fun r m=>r = .fZ [str (gh e pl X).1,num (gh e pl X).2]/\m=[.box C])) r_ m_/\bK ak 34 [num e,bl pl,.jh (.func g) [] [.ptr 0 0]] ([.box C]) r_ m_:=by
 refine ma [5] 23 [.tmp 6,.tmp 7] 1 Tryz.func34 Tryz.call34 fun K hK=>?_;simp only [hC,go_sem];apply bE <;> intro kj
 ·have he:e≠0:=by simpa using kj
  have hr:gh e pl X=(⟨#[]⟩,e):=by unfold gh;rw [gH he]
  simp only [hC,go_sem]
  first
   | (rw [pe];exact hK _ _ ⟨by rw [hr],rfl⟩)
   | exact hK _ _ ⟨by rw [hr],rfl⟩
 have he:e=0:=by simpa using kj
 simp only [hC,go_sem];apply bE <;> intro o1
 ·have Cx:pl=false:=by simpa using o1
  have hr:gh e pl X=(⟨#[]⟩,1):=by unfold gh;rw [g5 (by simp [he]),gH Cx]
  simp only [hC,go_sem]
  first
   | (rw [pe];exact hK _ _ ⟨by rw [hr],rfl⟩)
   | exact hK _ _ ⟨by rw [hr],rfl⟩
 have Cx:pl=true:=by simpa using o1
 simp only [hC,go_sem];refine agX tt_ok 5 [5] rfl rfl rfl Zv rfl ?_;simp only [hC,go_sem];refine cW ((hg he Cx).2.2 0 [] (by simpa using (hg he Cx).2.1)) ?_;rintro _ _ ⟨rfl,O1,v1,k7,rfl⟩;rw [aq] at k7;simp only [hC,go_sem];refine cW (adG (XJ (T:=129) v1 O1) rfl rfl (fun _=>rfl) (fun _=>rfl) _) ?_;rintro _ _ ⟨rfl,Ob,vb,pe,rfl⟩;rw [ai,k7] at pe;rw [k7];simp only [hC,go_sem];apply bE <;> intro Qh
 ·have hl:65536<X.length:=by have h0:=qB Qh;omega
  have hr:gh e pl X=(⟨#[]⟩,7):=by unfold gh;rw [g5 (by simp [he]),g5 (by simp [Cx]),gH hl]
  simp only [hC,go_sem]
  first
   | (rw [pe];exact hK _ _ ⟨by rw [hr],rfl⟩)
   | exact hK _ _ ⟨by rw [hr],rfl⟩
 have hl:¬ 65536<X.length:=by have h0:=k9 Qh;omega
 have hr:gh e pl X=(bs X,0):=by unfold gh;rw [g5 (by simp [he]),g5 (by simp [Cx]),g5 hl]
 simp only [hC,go_sem];refine cW (Mz vb Ob (by rw [pe];exact (hg he Cx).1) _) ?_;rintro _ _ ⟨rfl,rfl⟩;simp only [hC,go_sem]
 first
  | (rw [pe];exact hK _ _ ⟨by rw [hr],rfl⟩)
  | exact hK _ _ ⟨by rw [hr],rfl⟩
end
end
section
section
attribute [local go_sem] aC ae ct au aH ax aB aM al aq
theorem X5 (m:Md) (hm:m.dE<=1048576):Cn 32 [jJ m] (num m.size):=by
 refine cM [30000] 78 [.tmp 2] Tryz.func32 Tryz.call32 fun K hK=>?_;have Du:=bB Dc.dE Dc.iE m.decls;unfold Md.dE at hm;have h2:∀ l:List Dc,aU Dc.size l<=aU Dc.dE l:=fun l=>by induction l with|nil=>exact aA _|cons a r ih=>have:=Dc.size_le a;simp only [aU];omega
 have hle:∀ i,aU Dc.size (m.decls.take i)<=1048576:=fun i=>by have h1:=gG Dc.dE m.decls i;have:=h2 (m.decls.take i);omega
 have HB:m.size=1+m.imports.length+aU Dc.size m.decls:=rfl;obtain⟨S0,hS0⟩:∃ S:Nat,S=1+m.imports.length:=⟨_,rfl⟩;have mI:IntKind.i64.wrap (1+(m.imports.length:Int))=(S0:Int):=Ci _ _ (by omega) (by omega);simp only [jJ];simp only [mI,go_sem];refine sq tt_ok [30000] ?_;simp only [mI,go_sem];refine ij tt_ok [30000] (fun i:Nat=>[(1,.ptr 0 0),(3,num ((S0+aU Dc.size (m.decls.take i):Nat):Int)),(4,num i)]) (fun i:Nat=>[.box [str m.path,.slice (m.imports.map eI),.slice (m.decls.map ct)]]) (fun i=>m.decls.length-i) (fun i=>i<=m.decls.length) (0) 1 (da (by omega) (by simp only [mI,dF,aU,fI,bQ,go_sem] <;> rfl)) (aY _) ?_;intro i hi;intro Z1 dm;simp only [mI,go_sem];refine sq tt_ok [30000] ?_;simp only [mI,go_sem];apply bE <;> intro mc;·have bH:=jq mc;have hw:=bj i (by omega);obtain⟨d,dd⟩:=gA bH;(have bF:(i:Int)<(m.decls.length:Int):=by omega);have XB:=bX Dc.dE dd;have D5:d.dE=1+d.params.length+aU (fun p=>p.bound.size) d.params+d.lower.size+d.upper.size+d.type.size+d.expr.dE:=rfl;have yn:=fX Dc.size dd;have Qp:=Ex.jT _ d.expr (aA _);have zi:=hle i;have hz:d.size=1+d.params.length+(if d.kind=0 then d.type.size+(if d.clear=true then 0 else d.lower.size+d.upper.size) else if d.kind=1 then d.type.size+d.expr.size+aU (fun p=>p.bound.size) d.params else 0):=rfl;obtain⟨A0,Xj⟩:∃ A:Nat,A=S0+aU Dc.size (m.decls.take i):=⟨_,rfl⟩;have nd:S0+aU Dc.size (m.decls.take i)=A0:=Xj.symm;obtain⟨B1,DL⟩:∃ B:Nat,B=A0+1+d.params.length+(if d.kind=1 then aU (fun p=>p.bound.size) d.params+d.type.size+d.expr.size else 0):=⟨_,rfl⟩;(have asQ:B1<=A0+1+d.params.length+(aU (fun p=>p.bound.size) d.params+d.type.size+d.expr.size):=by rw [DL];split <;> omega);have w1:=bj A0 (by omega);have w2:IntKind.i64.wrap (((A0+1:Nat):Int)+((d.params.length:Nat):Int))=((A0+1+d.params.length:Nat):Int):=gf _ _ (by omega);simp only [hw,dd,bF,nd,w1,w2,mI,go_sem];refine rI (n:=78) tt_ok [30000] (fun _:Unit=>[(1,.ptr 0 0),(3,num ((B1:Nat):Int)),(4,num i),(5,.ptr 1 0)]) (fun _:Unit=>[.box [str m.path,.slice (m.imports.map eI),.slice (m.decls.map ct)],.box (dM d)]) 2 (fun _=>True) (fun Z2 lR=>?_) ?_;(·simp only [hw,dd,bF,nd,w1,w2,mI,go_sem];apply bE <;> intro Au;(·(have gW:d.kind=1:=by simpa using Au);simp only [hw,dd,bF,nd,w1,w2,mI,go_sem];refine sq tt_ok [30000] ?_;simp only [hw,dd,bF,nd,w1,w2,mI,go_sem];refine ij tt_ok [30000] (fun j:Nat=>[(1,.ptr 0 0),(3,num ((A0+1+d.params.length+aU (fun p=>p.bound.size) (d.params.take j):Nat):Int)),(4,num i),(5,.ptr 1 0),(6,num j)]) (fun j:Nat=>[.box [str m.path,.slice (m.imports.map eI),.slice (m.decls.map ct)],.box (dM d)]) (fun j=>d.params.length-j) (fun j=>j<=d.params.length) (0) 2 (da (by omega) (by simp only [hw,dd,bF,nd,w1,w2,mI,dF,aU,fI,bQ,go_sem] <;> rfl)) (aY _) ?_;intro j hj;intro Z3 rP;simp only [hw,dd,bF,nd,w1,w2,mI,go_sem];refine sq tt_ok [30000] ?_;simp only [hw,dd,bF,nd,w1,w2,mI,go_sem];apply bE <;> intro rK;(·have J6:=jq rK;have iR:=bj j (by omega);obtain⟨p,MA⟩:=gA J6;(have mg:(j:Int)<(d.params.length:Int):=by omega);have nL:=fX (fun p:Pm=>p.bound.size) MA;have Cx:=gG (fun p:Pm=>p.bound.size) d.params (j+1);have w3:IntKind.i64.wrap (((A0+1+d.params.length+aU (fun p=>p.bound.size) (d.params.take j):Nat):Int)+((p.bound.size:Nat):Int))=((A0+1+d.params.length+aU (fun p=>p.bound.size) (d.params.take j)+p.bound.size:Nat):Int):=gf _ _ (by omega);simp only [hw,dd,bF,nd,w1,w2,iR,MA,mg,w3,cH,mI,go_sem];refine cL ((by have h:=nK _ p.bound (aA _) (by omega);simp only [aF,au,ax,aB] at h;exact⟨_,rfl,h⟩)) ?_;simp only [hw,dd,bF,nd,w1,w2,iR,MA,mg,w3,cH,mI,go_sem];refine rP _ ⟨j+1,?_,?_,da (by omega) (by simp only [iR,nL,<- eD,go_sem])⟩;(·exact J6);omega);have adH:=ki rK;(have Wn:j=d.params.length:=by omega);rw [Wn,aE];have w4:IntKind.i64.wrap (((A0+1+d.params.length+aU (fun p=>p.bound.size) d.params:Nat):Int)+((d.type.size:Nat):Int))=((A0+1+d.params.length+aU (fun p=>p.bound.size) d.params+d.type.size:Nat):Int):=gf _ _ (by omega);have w5:IntKind.i64.wrap (((A0+1+d.params.length+aU (fun p=>p.bound.size) d.params+d.type.size:Nat):Int)+((d.expr.size:Nat):Int))=((A0+1+d.params.length+aU (fun p=>p.bound.size) d.params+d.type.size+d.expr.size:Nat):Int):=gf _ _ (by omega);(have hBt:A0+1+d.params.length+aU (fun p=>p.bound.size) d.params+d.type.size+d.expr.size=B1:=by rw [DL,gH gW];omega);simp only [hw,dd,bF,nd,w1,w2,w4,w5,hBt,mI,go_sem];refine lr [pN,pN,pR,pN,pN,pN,pR,pN,pN,pN] 0 ?_;simp only [hw,dd,bF,nd,w1,w2,w4,w5,hBt,mI,go_sem];refine lQ ((by have h:=nK _ d.type (aA _) (by omega);simp only [aF,au,ax,aB] at h;exact⟨_,rfl,h⟩)) ?_;simp only [hw,dd,bF,nd,w1,w2,w4,w5,hBt,mI,go_sem];refine lQ ((by have h:=CK _ d.expr (aA _) (by omega);simp only [aS,aH,ax,aM] at h;exact⟨_,rfl,h⟩)) ?_;simp only [hw,dd,bF,nd,w1,w2,w4,w5,hBt,mI,go_sem];refine lR _ ⟨(),?_,da (by omega) (by simp only [hw,dd,bF,nd,w1,w2,w4,w5,hBt,mI,go_sem])⟩;trivial);(have gW:¬ d.kind=1:=by simpa using Au);(have hBf:A0+1+d.params.length=B1:=by rw [DL,g5 gW];rfl);simp only [hw,dd,bF,nd,w1,w2,hBf,mI,go_sem];refine lR _ ⟨(),?_,da (by omega) (by simp only [hw,dd,bF,nd,w1,w2,hBf,mI,go_sem])⟩;trivial);intro _ _;simp only [hw,dd,bF,nd,w1,w2,mI,go_sem];apply bE <;> intro JW;(·(have AP:d.kind=0:=by simpa using JW);have w6:IntKind.i64.wrap (((B1:Nat):Int)+((d.type.size:Nat):Int))=((B1+d.type.size:Nat):Int):=gf _ _ (by omega);simp only [hw,dd,bF,nd,w1,w2,w6,mI,go_sem];refine cL ((by have h:=nK _ d.type (aA _) (by omega);simp only [aF,au,ax,aB] at h;exact⟨_,rfl,h⟩)) ?_;simp only [hw,dd,bF,nd,w1,w2,w6,mI,go_sem];refine cL ((by have h:=EY d (by omega);simp only [dD,ct,au,aH,ax,aB,aM] at h;exact⟨_,rfl,h⟩)) ?_;simp only [hw,dd,bF,nd,w1,w2,w6,mI,go_sem];apply bE <;> intro J7;(·(have pE:d.clear=false:=by simpa using J7);(have Of:B1+d.type.size+d.lower.size+d.upper.size=A0+d.size:=by rw [hz,DL,gH AP,g5 (by omega),pE];simp <;> omega);have w7:IntKind.i64.wrap (((B1+d.type.size:Nat):Int)+((d.lower.size:Nat):Int))=((B1+d.type.size+d.lower.size:Nat):Int):=gf _ _ (by omega);have w8:IntKind.i64.wrap (((B1+d.type.size+d.lower.size:Nat):Int)+((d.upper.size:Nat):Int))=((B1+d.type.size+d.lower.size+d.upper.size:Nat):Int):=gf _ _ (by omega);simp only [hw,dd,bF,nd,w1,w2,w6,w7,w8,mI,go_sem];refine lr [pN,pN,pR,pN,pN,pN,pR,pN,pN,pN] 0 ?_;simp only [hw,dd,bF,nd,w1,w2,w6,w7,w8,mI,go_sem];refine lQ ((by have h:=nK _ d.lower (aA _) (by omega);simp only [aF,au,ax,aB] at h;exact⟨_,rfl,h⟩)) ?_;simp only [hw,dd,bF,nd,w1,w2,w6,w7,w8,mI,go_sem];refine lQ ((by have h:=nK _ d.upper (aA _) (by omega);simp only [aF,au,ax,aB] at h;exact⟨_,rfl,h⟩)) ?_;simp only [hw,dd,bF,nd,w1,w2,w6,w7,w8,mI,go_sem];refine dm _ ⟨i+1,?_,?_,da (by omega) (by simp only [hw,yn,<- eD,nd,Of,go_sem])⟩;(·exact bH);omega);(have pE:d.clear=true:=by simpa using J7);(have Of:B1+d.type.size=A0+d.size:=by rw [hz,DL,gH AP,g5 (by omega),pE];simp <;> omega);simp only [hw,dd,bF,nd,w1,w2,w6,mI,go_sem];refine dm _ ⟨i+1,?_,?_,da (by omega) (by simp only [hw,yn,<- eD,nd,Of,go_sem])⟩;(·exact bH);omega);(have AP:¬ d.kind=0:=by simpa using JW);(have Of:B1=A0+d.size:=by rw [hz,DL,g5 AP];split <;> omega);simp only [hw,dd,bF,nd,w1,w2,mI,go_sem];refine dm _ ⟨i+1,?_,?_,da (by omega) (by simp only [hw,yn,<- eD,nd,Of,go_sem])⟩;(·exact bH);omega
 have fP:=ki mc;have jx:i=m.decls.length:=by omega
 rw [jx,aE];simp only [mI,go_sem];exact hK _ (by rw [HB,hS0])
end
theorem Fa (m:Md) (hm:m.dE<=1048576):dz ak 32 [jJ m] (num m.size):=by obtain⟨_,rfl,h⟩:=X5 m hm;exact h
end
end Go.Proofs.YtfbbfmcggbapoaaGreatDoor
end
