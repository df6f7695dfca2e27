import Derived.Test.YtfbbfmcggbapoaaGreatDoorL5
import Derived.ChangeArms
import Derived.WalkKit
import Derived.Lib.LaidTab
import Derived.Stop.LaidErr
import Derived.ProofKit
import Derived.OpenShut
import Derived.WideKeyArgs
import Derived.Deep.DeepHandedRow
open Array renaming getElem?_eq_getElem->cb,length_toList->gD,toList_inj->ake
open Bool renaming and_eq_false_iff->awM,and_eq_true->aG,and_false->aO,and_true->aJ,eq_false_iff->afG,not_eq_false'->rX,not_eq_true->HA,not_eq_true'->fu,not_false->aK,not_not->VR,or_eq_false_iff->eH,or_eq_true->ez,true_and->aL
open ByteArray renaming ext->avL
open Go.Proofs.Tryz renaming prog->ak
open Int renaming cast_ofNat_Int->bQ,reduceEq->dB,reduceLE->ch,reduceToNat->bI,toNat_natCast->gx
open List renaming all_cons->cI,all_eq_true->ba,all_flatMap->avX,all_nil->ew,any_eq_false->n7,any_eq_true->u1,append_assoc->ay,append_eq_nil_iff->awO,append_nil->ai,cons_append->al,cons_ne_nil->cC,eq_nil_of_length_eq_zero->dn,filter_append->awc,flatMap_cons->ag,flatMap_nil->aj,getElem?_cons_succ->cu,getElem?_cons_zero->aI,getElem?_eq_some_iff->az,getElem?_map->ae,getElem?_range->awe,getElem?_zipWith->awg,headD_cons->a7,length_append->ab,length_cons->af,length_eq_zero_iff->b9,length_map->aC,length_nil->ah,length_take->eK,length_zipWith->aa2,lt_irrefl->avW,lt_trans->awk,map_append->fa,map_congr_left->AF,map_cons->bo,map_eq_nil_iff->avY,map_map->avP,map_nil->dR,mem_append->ey,mem_append_left->fT,mem_append_right->gO,mem_cons->dp,mem_cons_of_mem->bZ,mem_cons_self->cP,mem_flatMap->fU,mem_iff_getElem?->br,mem_map->dS,mem_map_of_mem->aa1,mem_of_getElem?->aw,nil_append->aq,not_mem_nil->ja,tail_cons->n8,take_add_one->cg,take_append_drop->ji,take_length->aE,take_nil->avD,take_of_length_le->b8,take_zero->dF
open Nat renaming add_assoc->eD,add_zero->fI,eq_zero_or_pos->Dt,le_of_eq->qV,le_refl->aA,le_trans->gw,lt_or_ge->bn,lt_succ_self->o6,mod_lt->avF,not_lt_zero->bR,zero_add->dc,zero_le->aY
open Option renaming getD_none->av5,getD_some->fS,map_eq_some_iff->bp,map_some->bU,toList_some->awE
open Option.some renaming inj->mP,injEq->aD
open Std renaming lt_of_le_of_ne->awF
open UInt8 renaming toNat_div->avS,toNat_inj->avR,toNat_mod->avT
set_option linter.all false
set_option maxRecDepth 100000
set_option maxHeartbeats 4000000
section
namespace Go.Proofs.YtfbbfmcggbapoaaGreatDoor
open Go.Eng
variable [bJ]
theorem MB {s:g6} (h:lD s=true) (hs:dH s=false):s.size<=32:=by
 simp only [lD,ez] at h;rcases h with (h|h)|h
 ·have:=CN h;omega
 ·exact lT h
 rw [hs] at h;cases h
structure qm (x:Ex) (f:Fo):Prop where
 form:kI x.kind=some f
 fits:oY x f.fl f.ty f.lb f.kd=true
 mis:rM x f.fl=false
 own:cx j0 x.own=0
theorem uI {x:Ex} (h:ou x=0):∃ f,qm x f:=by unfold ou at h;cases hf:kI x.kind with|none=>rw [hf] at h;simp at h|some f =>rw [hf] at h;dsimp only at h;(split at h;· simp at h);(split at h;· simp at h);(split at h;· simp at h);(split at h;· rename_i h1;exact absurd h h1);(split at h;· simp at h);rename_i a b c d e;exact⟨f,hf,by simpa using a,by simpa using c,h⟩
theorem qm.lb {x:Ex} {f:Fo} (h:qm x f):∀ l∈x.labels,l.name.size<=32:=by intro l hl;have:=h.mis;simp only [rM,eH,n7] at this;have:=this.2 l hl;simp only [sf,ez,fu,not_or] at this;exact lT (by simpa using this.1)
theorem qm.vr {x:Ex} {f:Fo} (h:qm x f) (hv:me f.fl ⟨#[118]⟩=true):∀ l∈x.labels,l.var.size<=32:=by intro l hl;have:=h.mis;simp only [rM,eH,n7] at this;have:=this.2 l hl;simp only [sf,hv,aL,ez,fu,not_or] at this;exact lT (by simpa using this.2)
theorem qm.nm {x:Ex} {f:Fo} (h:qm x f) (hn:me f.fl ⟨#[110]⟩=true) (hk:x.kind≠16):x.name.size<=32:=by have:=h.mis;simp only [rM,eH] at this;have:=this.1.1.2;simp only [m2,hn,hk,decide_false,aK,aL,rX] at this;exact lT this
theorem qm.md {x:Ex} {f:Fo} (h:qm x f) (hn:me f.fl ⟨#[109]⟩=true):lD x.mod=true:=by have:=h.mis;simp only [rM,eH] at this;have:=this.1.1.1;simpa only [m1,hn,aL,rX] using this
theorem qm.em {x:Ex} {f:Fo} (h:qm x f) (hn:me f.fl ⟨#[109]⟩=false):x.mod.size=0:=by have:=h.fits;simp only [oY,aG] at this;have:=this.1.1.1.1.1.1.1.1.1;simp only [q1,hn,aK,aJ,VR] at this;exact CN this
theorem qm.tx {x:Ex} {f:Fo} (h:qm x f) (hk:x.kind=15):x.text.size<=32:=by have:=h.mis;simp only [rM,eH] at this;have:=this.1.2;simp only [m3,hk,decide_true,aL,rX] at this;exact lT this
theorem Uo {s:g6} (h:Ac s≠0):s.size<=6:=by
 have:s∈uX\/s∈wi:=by unfold Ac at h;by_cases h1:qk s uX=true;(·left;simpa [qk] using h1);rw [g5 h1] at h;by_cases h2:qk s wi=true;(·right;simpa [qk] using h2);rw [g5 h2] at h;exact absurd rfl h
 rcases this with h|h
 ·simp only [uX,dp,ja,or_false] at h;rcases h with h|h|h|h|h|h|h|h|h <;> subst h <;> decide
 simp only [wi,dp,ja,or_false] at h;rcases h with h|h <;> subst h <;> decide
theorem qm.op {x:Ex} {f:Fo} (h:qm x f) (hk:x.kind=16):x.name.size<=6:=by have:=h.fits;simp only [oY,aG] at this;have:=this.1.1.1.1.2;simp only [q6,hk,decide_true,aL,mH,if_true,fu,decide_eq_false_iff_not] at this;exact Uo this
def Ex.rS (x:Ex):Nat:=aU (fun u=>u.text.size) x.nodes
theorem D6 {α β:Type} (g:β->Nat) (f:α->List β) (l:List α):aU g (l.flatMap f)=aU (fun a=>aU g (f a)) l:=by induction l with|nil=>rfl|cons a r ih=>simp only [ag,fO,aU,ih]
theorem Ex.G9 (x:Ex):x.rS=x.text.size+aU Ex.rS x.kids:=by unfold Ex.rS;rw [Ex.dZ,aU,D6]
theorem MC (s:g6):(Dy s).length<=2+4*s.size:=by
 have:∀ l:List UInt8,(l.flatMap A8).length<=4*l.length:=by intro l;induction l with|nil=>simp|cons c r ih =>(have:(A8 c).length<=4:=by unfold A8;(repeat' split) <;> simp);simp only [ag,ab,af];omega
 have:=this (bt s);rw [bA] at this;simp only [Dy,ab,af,ah];omega
theorem Ah (a b:Int) (s:List UInt8):(ku a b s).length<=s.length+2:=by
 unfold ku;split;·omega
 simp only [ab,af,ah];omega
abbrev QA (P:List (List UInt8)):Nat:=aU List.length P
theorem J8 (P:List (List UInt8)):(P[0]?.getD []).length+(P[1]?.getD []).length+(P[2]?.getD []).length<=QA P:=by match P with|[]=>simp|[a]=>simp [QA,aU]|[a,b]=>simp [QA,aU]|a :: b :: c :: r=>simp [QA,aU] <;> omega
theorem head_tail (P:List (List UInt8)):(P[0]?.getD []).length+aU (fun p=>p.length+71) P.tail<=aU (fun p=>p.length+71) P:=by cases P with|nil=>simp [aU]|cons a r=>simp [aU] <;> omega
theorem wv (l:List (List UInt8)):(jn [44,32] l).length<=aU (fun x=>x.length+2) l:=y0 [44,32] l
theorem Up {α:Type} (f:α->List UInt8->List UInt8) (c:Nat) (ls:List α) (P:List (List UInt8)) (h:∀ l∈ls,∀ p,(f l p).length<=p.length+c):(jn [44,32] (List.zipWith f ls P)).length<=aU (fun p=>p.length+(c+2)) P:=by
 refine gw (wv _) ?_;have:∀ (ls:List α) (P:List (List UInt8)),(∀ l∈ls,∀ p,(f l p).length<=p.length+c)->aU (fun x=>x.length+2) (List.zipWith f ls P)<=aU (fun p=>p.length+(c+2)) P:=by intro ls;induction ls with|nil=>intro P _;simp [aU]|cons l r ih =>intro P h;cases P with|nil=>simp [aU]|cons p q =>have h1:=ih q fun a ha=>h a (by simp [ha]);have h2:=h l (by simp) p;simp only [List.zipWith_cons_cons,aU];omega
 exact this ls P h
theorem Uq {c:Nat} (hc:c<=71) (P:List (List UInt8)):aU (fun p=>p.length+c) P<=aU (fun p=>p.length+71) P:=jU fun _ _=>by omega
theorem Og:∀ (ls:List Lb) (P:List (List UInt8)),(∀ l∈ls,l.name.size<=32) ->
  aU (fun x=>x.length+2) (A7 ls P)+(P[(ls.filter Lb.opt).length]?.getD []).length<=aU (fun l=>l.ty.pr.length+40) ls+aU (fun p=>p.length+71) P
 | [],P,_=>by
  have:=J8 P
  have h2:QA P<=aU (fun p=>p.length+71) P:=jU fun _ _=>by omega
  simp only [A7,aU,List.filter_nil,ah];omega
 | l :: r,P,h=>by
  have hn:=h l (by simp)
  have hr:∀ a∈r,a.name.size<=32:=fun a ha=>h a (by simp [ha])
  unfold A7
  cases ho:l.opt with
  | false =>
   have:=Og r P hr
   rw [g5 (by simp),List.filter_cons_of_neg (by simp [ho])]
   simp only [aU,ab,bA,af,ah];omega
  | true =>
   rw [gH rfl,List.filter_cons_of_pos ho]
   cases P with
   | nil =>
    have:=Og r [] hr
    simp only [List.tail_nil,List.headD_nil,aU,ab,bA,af,ah,List.getElem?_nil,av5] at this ⊢;omega
   | cons p q =>
    have:=Og r q hr
    simp only [n8,a7,aU,ab,bA,af,ah,cu] at this ⊢;omega
theorem ah9 (ts:List Ty):(lj ts).length<=aU (fun u=>u.pr.length+40) ts:=by cases ts with|nil=>simp [lj]|cons a r=>simp only [lj,aU];omega
theorem jW {p:Prop} [Decidable p] {a b:List UInt8} {n:Nat} (h1:p->a.length+71<=n) (h2:¬ p->b.length+71<=n):(if p then a else b).length+71<=n:=by
 by_cases h:p;·rw [gH h];exact h1 h
 rw [g5 h];exact h2 h
theorem Ex.oF:∀ (N:Nat) (x:Ex),x.size<=N->(∀ u∈x.nodes,ou u=0 /\ -9223372036854775808<=u.num/\u.num<=9223372036854775807/\dH u.mod=false) ->
  x.pr.length+71<=158*x.size+4*x.rS:=by intro N;induction N with|zero=>intro x h;have:=x.size_pos;omega|succ N ih =>intro x hN hn;have hs:=x.size_eq;have hl:=x.G9;rw [Ex.dZ] at hn;obtain⟨h0,qu,vG,wC⟩:=hn x (by simp);obtain⟨f,ok⟩:=uI h0;(have hk:aU (fun p=>p.length+71) (x.kids.map Ex.pr)<=158*aU Ex.size x.kids+4*aU Ex.rS x.kids:=by rw [<- l0,<- l0,ju];(have:∀ l:List Ex,(∀ k∈l,k.pr.length+71<=158*k.size+4*k.rS)->aU (fun k=>k.pr.length+71) l<=aU (fun k=>158*k.size) l+aU (fun k=>4*k.rS) l:=by intro l;induction l with|nil=>simp [aU]|cons a r Tj =>intro h;have h1:=h a (by simp);have h2:=Tj fun b hb=>h b (by simp [hb]);simp only [aU];omega);refine this x.kids fun k hkm=>?_;obtain⟨i,hi⟩:=br.1 hkm;have:=bX Ex.size hi;exact ih k (by omega) (fun v hv=>hn v (bZ _ (fU.2 ⟨k,hkm,hv⟩))));(have ho:aU (fun t=>t.pr.length+40) x.own<=144*aU Ty.size x.own:=by rw [<- l0];refine jU fun t ht=>?_;have h1:=(jK _ _).1 ok.own t ht;unfold j0 at h1;(split at h1;· simp at h1);exact Ty.oF _ t (aA _) ((jK _ _).1 h1));(have hty:aU (fun t=>t.pr.length+40) x.types+(if x.kind=8 then aU (fun l=>l.ty.pr.length+40) x.labels else 0)=aU (fun t=>t.pr.length+40) x.own:=by unfold Ex.own;rw [fO];split;(·rw [ju]);rfl);have h3:=J8 (x.kids.map Ex.pr);(have h4:QA (x.kids.map Ex.pr)<=aU (fun p=>p.length+71) (x.kids.map Ex.pr):=jU fun _ _=>by omega);have h5:=head_tail (x.kids.map Ex.pr);have h6:=ah9 x.types;(have hz:(Dz [] x.types).length=(lj x.types).length+2:=by simp [Dz]);(have hd:∀ w,(Dz w x.types).length=w.length+(lj x.types).length+2:=fun w=>by simp [Dz];omega);have hp:=fun a=>Ah a 8 ((x.kids.map Ex.pr)[0]?.getD []);have hf:=ok.form;rw [Ex.eS];generalize hP:x.kids.map Ex.pr=P at *;unfold rN;dsimp only;refine jW (fun h=>?_) (fun hn=>?_);(·have:=Lib.itoa_length_le x.num qu vG;omega);refine jW (fun h=>?_) (fun hn=>?_);(·have:=MC x.text;omega);refine jW (fun h=>?_) (fun hn=>?_);(·(have:(if x.num=1 then ([116,114,117,101]:List UInt8) else [102,97,108,115,101]).length<=5:=by split <;> simp);omega);refine jW (fun h34=>?_) (fun hn=>?_);(·(have RJ:x.mod.size<=32/\x.name.size<=32:=by (rcases h34 with h|h);(·rw [h] at hf;cases hf;exact⟨by have:=ok.em kr;omega,ok.nm kr (by omega)⟩);rw [h] at hf;cases hf;exact⟨MB (ok.md kr) wC,ok.nm kr (by omega)⟩);have:=CO (l:=x.types.map Ty.pr) RJ.1 RJ.2;rw [ju] at this;(have h8:aU (fun u:Ty=>u.pr.length+2) x.types<=aU (fun u=>u.pr.length+40) x.types:=jU fun u _=>by omega);omega);have yp:=ok.lb;(have hgv:∀ Q:List (List UInt8),(NU x.labels Q).length<=aU (fun p=>p.length+71) Q:=fun Q=>by refine gw (Up _ 34 x.labels Q fun l hl p=>?_) (Uq (by omega) Q);have:=yp l hl;simp only [ab,bA,af,ah];omega);refine jW (fun h=>?_) (fun hn=>?_);(·have:=hgv P;simp only [ab,af,ah];omega);refine jW (fun h=>?_) (fun hn=>?_);(·rw [h] at hf;cases hf;have EK:=ok.nm kr (by omega);have:=hp ((x.kids.map Ex.lvl)[0]?.getD 9);simp only [ab,bA,af,ah];omega);refine jW (fun h=>?_) (fun hn=>?_);(·rw [h] at hf;cases hf;have EK:=ok.nm kr (by omega);simp only [ab,bA,af,ah];omega);refine jW (fun h=>?_) (fun hn=>?_);(·rw [gH h] at hty;have h1:=Og x.labels P yp;have h2:=wv (A7 x.labels P);simp only [ab,bA,af,ah];omega);refine jW (fun h=>?_) (fun hn=>?_);(·have:=hgv P.tail;have:=hp ((x.kids.map Ex.lvl)[0]?.getD 9);simp only [ab,bA,af,ah];omega);refine jW (fun h=>?_) (fun hn=>?_);(·rw [h] at hf;cases hf;have EK:=ok.nm kr (by omega);simp only [ab,bA,af,ah];omega);refine jW (fun h=>?_) (fun hn=>?_);(·simp only [ab,af,ah];omega);refine jW (fun h=>?_) (fun hn=>?_);(·simp only [ab,hd,af,ah];omega);refine jW (fun h=>?_) (fun hn=>?_);(·rw [h] at hf;cases hf;have KZ:=ok.vr kr;(have:(D1 x.labels P.tail).length<=aU (fun p=>p.length+71) P.tail:=by refine gw (Up _ 69 x.labels P.tail fun l hl p=>?_) (Uq (by omega) _);have:=yp l hl;have:=KZ l hl;simp only [ab,bA,af,ah];omega);simp only [ab,hd,af,ah];omega);refine jW (fun h=>?_) (fun hn=>?_);(·have h1:=wv P;have h2:=Uq (c:=2) (by omega) P;(have:(if P=[] then ([]:List UInt8) else [32]++jn [44,32] P).length<=1+(jn [44,32] P).length:=by split;(·simp);simp only [ab,af,ah];omega);simp only [ab,af,ah];omega);refine jW (fun h=>?_) (fun hn=>?_);(·have htx:=ok.tx h;rw [h] at hf;cases hf;have EK:=ok.nm kr (by omega);simp only [ab,hd,bA,af,ah];omega);(have HF:x.kind=16:=by unfold kI at hf;(repeat' split at hf);all_goals first|(simp at hf;done)|assumption|(exfalso;omega));have EK:=ok.op HF;have ha:=fun (i:Nat) (a b:Int)=>Ah a b (P[i]?.getD []);unfold ZP;dsimp only;split;(·have:=ha 0 ((x.kids.map Ex.lvl)[0]?.getD 9) (Av x.name).2.1;simp only [ab,bA,af,ah];omega);have:=ha 0 ((x.kids.map Ex.lvl)[0]?.getD 9) (Av x.name).2.1;have:=ha 1 ((x.kids.map Ex.lvl)[1]?.getD 9) (Av x.name).2.2;simp only [ab,bA,af,ah];omega
section
attribute [local irreducible] runM gQ rv dv lX xm EC
section
variable {α:Type} [DecidableEq α] (lt:α->α->Bool) (f:Ty->List α)
end
end
section
attribute [local irreducible] runM gQ rv dv lX xm EC
end
section
def LgX (x:Ex):Prop:=Cn 24 [ca x] (num x.rS)
theorem aib {x:Ex} (h:LgX x):Cn 24 [.agg (xM x)] (num x.rS):=by unfold LgX at h;simp only [aS,aH,ax,aM] at h;exact h
theorem J9 {α:Type} (g:α->Nat) {l:List α} {i:Nat} {x:α} (h:l[i]?=some x):aU g (l.take (i+1))=aU g (l.take i)+g x:=by rw [cg,h,awE,fO];rfl
theorem Ai {α:Type} (g:α->Nat) (l:List α) (i:Nat):aU g (l.take i)<=aU g l:=by
 have e:aU g l=aU g (l.take i++l.drop i):=by rw [ji]
 rw [e,fO];omega
def MD (m:Md):Nat:=aU (fun d=>d.note.size+d.expr.rS) m.decls
noncomputable def adK (t:Ty) (e:Ex) (m:Md):Bool:=decide ((t.size:Int)<=300)&&decide ((e.size:Int)<=300)&&decide ((m.size:Int)<=300)&&decide ((e.rS:Int)<=4000)&&decide ((MD m:Int)<=4000)
section
attribute [local go_sem] aC
theorem QB (x:Ex) (yE:x.kids.length<=1048576) (hb:x.rS<=1048576) (hX:∀ k∈x.kids,LgX k):Cn 24 [ca x] (num x.rS):=by
 refine cM [] 22 [.tmp 2] Tryz.func24 Tryz.call24 fun K hK=>?_;have hle:=x.G9;have sl:=zY;simp only [aS,aH,ax,aM];simp only [sl,go_sem];refine ij tt_ok [] (fun i:Nat=>[(3,num ((x.text.size+aU Ex.rS (x.kids.take i):Nat):Int)),(10,.slice (x.kids.map ca)),(11,num x.kids.length),(12,num i)]) (fun i:Nat=>[]) (fun i=>x.kids.length-i) (fun i=>i<=x.kids.length) (0) 0 (da (by omega) (by simp only [sl,dF,aU,fI,sl,bQ,go_sem] <;> rfl)) (aY _) ?_;intro i hi;intro Z1 dm;simp only [sl,go_sem];apply bE <;> intro o1;·have bH:=jq o1;have hw:=bj i (by omega);obtain⟨k,dd⟩:=gA bH;(have bF:(i:Int)<(x.kids.length:Int):=by omega);have oh:=J9 Ex.rS dd;have wC:=Ai Ex.rS x.kids (i+1);(have vk:IntKind.i64.wrap (((x.text.size+aU Ex.rS (x.kids.take i):Nat):Int)+(k.rS:Int))=((x.text.size+(aU Ex.rS (x.kids.take i)+k.rS):Nat):Int):=by rw [IntWalk.i64_in _ (by omega)];omega);simp only [hw,vk,ae,dd,bF,aS,aH,ax,aM,sl,go_sem];refine cL (aib (hX k (aw dd))) ?_;simp only [hw,vk,ae,dd,bF,aS,aH,ax,aM,sl,go_sem];refine dm _ ⟨i+1,?_,?_,da (by omega) (by simp only [hw,vk,oh,eD,go_sem])⟩;(·exact bH);omega
 have fP:=ki o1;have jx:i=x.kids.length:=by omega
 rw [jx,aE,<- hle];simp only [sl,go_sem];exact hK _ rfl
end
theorem Ha:∀ (N:Nat) (x:Ex),x.size<=N->x.size<=1048576->x.rS<=1048576->LgX x
 | 0,x,h,_,_=>absurd x.size_pos (by omega)
 | N+1,x,h,hs,hl=>by
  have h1:=x.oE
  have h2:=bB Ex.size Ex.size_pos x.kids
  have h3:=x.G9
  refine QB x (by omega) hl fun k hk=>?_
  obtain⟨i,hi⟩:=br.1 hk
  have:=bX Ex.size hi
  have:=bX Ex.rS hi
  exact Ha N k (by omega) (by omega) (by omega)
section
attribute [local go_sem] aC
theorem Ur (m:Md) (Du:m.decls.length<=1048576) (hb:MD m<=1048576) (hs:∀ d∈m.decls,d.expr.size<=1048576/\d.expr.rS<=1048576):Cn 33 [jJ m] (num (MD m)):=by
 refine cM [] 24 [.tmp 2] Tryz.func33 Tryz.call33 fun K hK=>?_;have sl:=zY;unfold MD at hb;simp only [jJ];simp only [sl,go_sem];refine ij tt_ok [] (fun i:Nat=>[(3,num ((aU (fun d:Dc=>d.note.size+d.expr.rS) (m.decls.take i):Nat):Int)),(7,.slice (m.decls.map ct)),(8,num m.decls.length),(9,num i)]) (fun i:Nat=>[]) (fun i=>m.decls.length-i) (fun i=>i<=m.decls.length) (0) 0 (da (by omega) (by simp only [sl,dF,aU,sl,bQ,go_sem] <;> rfl)) (aY _) ?_;intro i hi;intro Z1 dm;simp only [sl,go_sem];apply bE <;> intro jf;·have bH:=jq jf;have hw:=bj i (by omega);obtain⟨d,dd⟩:=gA bH;have X7:=aw dd;(have bF:(i:Int)<(m.decls.length:Int):=by omega);have oh:=J9 (fun d:Dc=>d.note.size+d.expr.rS) dd;have wC:=Ai (fun d:Dc=>d.note.size+d.expr.rS) m.decls (i+1);(have gv:IntKind.i64.wrap ((d.note.size:Int)+(d.expr.rS:Int))=((d.note.size+d.expr.rS:Nat):Int):=by rw [IntWalk.i64_in _ (by omega)];omega);(have vk:IntKind.i64.wrap (((aU (fun d:Dc=>d.note.size+d.expr.rS) (m.decls.take i):Nat):Int)+((d.note.size+d.expr.rS:Nat):Int))=((aU (fun d:Dc=>d.note.size+d.expr.rS) (m.decls.take i)+(d.note.size+d.expr.rS):Nat):Int):=by rw [IntWalk.i64_in _ (by omega)];omega);simp only [hw,gv,vk,ae,dd,bF,ct,au,aH,ax,aB,aM,al,aq,sl,go_sem];refine lr [pN,pN,pR,pN,pN,pR,pN,pN,pN,pN] 0 ?_;simp only [hw,gv,vk,ae,dd,bF,ct,au,aH,ax,aB,aM,al,aq,sl,go_sem];refine lQ (aib (Ha _ d.expr (aA _) (hs d X7).1 (hs d X7).2)) ?_;simp only [hw,gv,vk,ae,dd,bF,ct,au,aH,ax,aB,aM,al,aq,sl,go_sem];refine dm _ ⟨i+1,?_,?_,da (by omega) (by simp only [hw,vk,oh,go_sem])⟩;(·exact bH);omega
 have fP:=ki jf;have jx:i=m.decls.length:=by omega
 rw [jx,aE];simp only [sl,go_sem];exact hK _ rfl
end
theorem adL (t:Ty) (e:Ex) (m:Md) (ht:t.size<=1048576) (he:e.dE<=1048576) (hes:e.size<=1048576) (hel:e.rS<=1048576) (hm:m.dE<=1048576) (Du:m.decls.length<=1048576) (hb:MD m<=1048576) (hs:∀ d∈m.decls,d.expr.size<=1048576/\d.expr.rS<=1048576):Cn 10 [cA t,ca e,jJ m] (bl (adK t e m)):=by refine cM [] 30 [.tmp 6] Tryz.func10 Tryz.call10 fun K hK=>?_;have h1:=nK _ t (aA _) ht;have h2:=CK _ e (aA _) he;have h3:=Fa m hm;have h4:=Ha _ e (aA _) hes hel;have h5:=Ur m Du hb hs;unfold LgX at h4;simp only [aF,au,ax,aB,aS,aH,ax,aM,jJ] at h1 h2 h3 h4 h5 ⊢;simp only [go_sem];refine cL ((⟨_,rfl,h1⟩:∃ r_,(fun w=>w=num t.size) r_/\_)) ?_;repeat' (simp only [go_sem];first|apply bE <;> intro hg|refine cL ((⟨_,rfl,h2⟩:∃ r_,(fun w=>w=num e.size) r_/\_)) ?_|refine cL ((⟨_,rfl,h3⟩:∃ r_,(fun w=>w=num m.size) r_/\_)) ?_|refine cL (h4) ?_|refine cL (h5) ?_|(exact hK _ (yJ bl (by clear hK h1 h2 h3 h4 h5;unfold adK;simp_all <;> (intros;omega)))))
end
theorem anE {t:Ty} (h:WT t) {v:Nat} {O:List UInt8} (hO:O.length+t.pr.length<=34359738368):∃ r m,WG (.fZ []) 129 O t.pr [] r m/\bK ak 38 [.ptr 0 0,.agg (tM t)] (bM 129 v O []) r m:=JP h hO []
theorem anF {x:Ex} (h:WX x) {v:Nat} {O:List UInt8} (hO:O.length+x.pr.length<=34359738368):∃ r m,WG (.fZ []) 129 O x.pr [] r m/\bK ak 45 [.ptr 0 0,.agg (xM x)] (bM 129 v O []) r m:=wex h hO []
theorem adM (t:Ty) (h:WT t) (v:Nat) (O:List UInt8) (hO:O.length+t.pr.length<=34359738368):∃ r_ m_,(WR1 (.fZ []) (.box (tM t)) O t.pr) r_ m_/\bK ak 37 [.ptr 1 0,.ptr 0 0] (DD (.box (tM t)) v O) r_ m_:=by refine ma [] 6 [] 3 Tryz.func37 Tryz.call37 fun K hK=>?_;simp only [DD];simp only [DD,go_sem];refine cW (adG (anE h hO) rfl rfl (fun _=>rfl) (fun _=>rfl) _) ?_;rintro _ _ ⟨rfl,O1,v1,k7,rfl⟩;simp only [DD,go_sem];exact hK _ _ ⟨rfl,_,_,k7,rfl⟩
theorem adN (x:Ex) (h:WX x) (v:Nat) (O:List UInt8) (hO:O.length+x.pr.length<=34359738368):∃ r_ m_,(WR1 (.fZ []) (.box (xM x)) O x.pr) r_ m_/\bK ak 44 [.ptr 1 0,.ptr 0 0] (DD (.box (xM x)) v O) r_ m_:=by refine ma [] 6 [] 3 Tryz.func44 Tryz.call44 fun K hK=>?_;simp only [DD];simp only [DD,go_sem];refine cW (adG (anF h hO) rfl rfl (fun _=>rfl) (fun _=>rfl) _) ?_;rintro _ _ ⟨rfl,O1,v1,k7,rfl⟩;simp only [DD,go_sem];exact hK _ _ ⟨rfl,_,_,k7,rfl⟩
theorem C4 (hG:bJ.g=some 0) (t:Ty) (hw:t.wt<=1048576) (hT:j0 t=0->kN t=true->t.pr≠[]/\t.pr.length<=34359738368/\WT t):Cn 11 [cA t] (.fZ [str (gh (j0 t) (kN t) t.pr).1,num (gh (j0 t) (kN t) t.pr).2]):=by refine cM [] 12 [.tmp 2,.tmp 3] Tryz.func11 Tryz.call11 fun K hK=>?_;have hC:=rO hG t (gw t.de hw) (fun v hv=>by have h1:=Ty.oW hv;have h2:=v.fF;omega);have hPl:=x8 (iZ hG _ t (aA _) hw);simp only [aF,au,ax,aB] at hC ⊢;simp only [go_sem];refine lr [pR,pM [0],pR,pM [0,1,2],pN,⟨.z,0,[],[0,1,2,3,4],[]⟩,pM [0,1,2,3,4,5],pM [0,1,2,3,4,5],pM [0,1,2,3,4,5,6,7],pM [0,1,2,3,4,5,6,7,8]] 0 ?_;simp only [go_sem];refine lQ ((⟨_,rfl,hC⟩:∃ r_,(fun w=>w=num (j0 t)) r_/\_)) ?_;simp only [go_sem];refine lQ (hPl) ?_;simp only [go_sem];refine yL (y6 37 (j0 t) (kN t) t.pr (tM t) rfl (fun h1 h2=>⟨(hT h1 h2).1,(hT h1 h2).2.1,fun v O hO=>adM t (hT h1 h2).2.2 v O hO⟩)) ?_;rintro _ _ ⟨rfl,rfl⟩;simp only [go_sem];exact hK _ rfl
theorem Ka (hG:bJ.g=some 0) (x:Ex) (hw:x.wt<=1048576) (hT:sg x=0->sj x=true->x.pr≠[]/\x.pr.length<=34359738368/\WX x):Cn 13 [ca x] (.fZ [str (gh (sg x) (sj x) x.pr).1,num (gh (sg x) (sj x) x.pr).2]):=by refine cM [] 12 [.tmp 2,.tmp 3] Tryz.func13 Tryz.call13 fun K hK=>?_;have hC:=x7 hG x hw;have hPl:=Uh (rR hG _ x (aA _) hw);simp only [aS,aH,ax,aM] at hC ⊢;simp only [go_sem];refine lr [pR,pM [0],pR,pM [0,1,2],pN,⟨.z,0,[],[0,1,2,3,4],[]⟩,pM [0,1,2,3,4,5],pM [0,1,2,3,4,5],pM [0,1,2,3,4,5,6,7],pM [0,1,2,3,4,5,6,7,8]] 0 ?_;simp only [go_sem];refine lQ ((⟨_,rfl,hC⟩:∃ r_,(fun w=>w=num (sg x)) r_/\_)) ?_;simp only [go_sem];refine lQ (hPl) ?_;simp only [go_sem];refine yL (y6 44 (sg x) (sj x) x.pr (xM x) rfl (fun h1 h2=>⟨(hT h1 h2).1,(hT h1 h2).2.1,fun v O hO=>adN x (hT h1 h2).2.2 v O hO⟩)) ?_;rintro _ _ ⟨rfl,rfl⟩;simp only [go_sem];exact hK _ rfl
theorem C5 {t:Ty} (h:j0 t=0):t.size<=4096/\∀ u∈t.nodes,pd u=0:=by
 unfold j0 at h;split at h;·simp at h
 exact⟨by omega,(jK pd t.nodes).1 h⟩
theorem QC {x:Ex} (h:sg x=0):x.size<=4096/\∀ u∈x.nodes,ou u=0:=by
 unfold sg at h;split at h;·simp at h
 exact⟨by omega,(jK ou x.nodes).1 h⟩
theorem kY {s:g6} (h:dC s=true):0<s.size:=by simp only [dC,aG,decide_eq_true_eq] at h;omega
theorem tU {s:g6} (h:iv s=true):0<s.size:=by simp only [iv,aG,decide_eq_true_eq] at h;omega
theorem gb {α:Type} {l:List α} (h:l.length=1):∃ a r,l=a :: r:=by cases l with|nil=>simp at h|cons a r=>exact⟨a,r,rfl⟩
theorem ME {t:Ty} (h:pd t=0) (h9:¬ t.kind=9):TyK t:=by
 unfold pd at h;split at h;· simp at h
 rename_i hs;have hs:L8 t=true:=by simpa using hs
 split at h;· simp at h
 rename_i hl;split at h;· simp at h
 rename_i hk;split at h;· simp at h
 rename_i hf;unfold L8 at hs;rw [aG] at hs;have hs:=hs.2;have hr:(0<=t.kind/\t.kind<=8)\/t.kind=10:=by (repeat' split at hs);all_goals first|omega|(cases hs;done)
 refine⟨by omega,by omega,fun h58=>?_,fun f hfm=>?_,fun sZ=>?_,by omega,by omega⟩;·refine gb ?_;(rcases h58 with h5|h8);(·rw [g5 (by omega),gH h5] at hs;simp only [aG,decide_eq_true_eq] at hs;omega);rw [g5 (by omega),g5 (by omega),g5 (by omega),gH h8] at hs;simp only [aG,decide_eq_true_eq] at hs;omega
 ·cases h5:dC f.name with|true=>exact kY h5|false=>exact absurd (u1.2 ⟨f,hfm,by simp [h5]⟩) hf
 cases h7:iv t.name with|true=>exact tU h7|false=>exact absurd (.inr ⟨sZ,.inr h7⟩) hk
theorem Hb {t:Ty} (h:kN t=true):∀ u∈t.nodes,¬ u.kind=9/\dH u.mod=false:=by intro u hu;have:=ba.1 h u hu;simpa using this
theorem Ty.iL (t:Ty):t∈t.nodes:=by rw [t.dZ];exact cP ..
theorem Ex.iL (x:Ex):x∈x.nodes:=by rw [x.dZ];exact cP ..
theorem rT {t:Ty} (hc:j0 t=0) (hs:kN t=true):WT t:=by refine NY (fun t=>∀ u∈t.nodes,pd u=0/\¬ u.kind=9) (fun t ht=>⟨ME (ht t t.iL).1 (ht t t.iL).2,fun p hp u hu=>ht u ?_⟩) _ t (aA _) fun u hu=>⟨(C5 hc).2 u hu,(Hb hs u hu).1⟩;rw [t.dZ];exact bZ _ (fU.2 ⟨p,hp,hu⟩)
theorem Ty.Us {t:Ty} (h:TyK t):t.pr≠[]:=by
 rw [t.eS];split;· simp
 split;· simp
 split;· simp
 split;· simp
 split;·rename_i sZ;have hn:=h.nm sZ;intro e;have e2:=yJ List.length e;unfold EZ at e2;simp only [ab,bA,ah] at e2;omega
 unfold ZO;(repeat' split) <;> simp
theorem uJ {k:Int} {f:Fo} (h:kI k=some f):0<=k/\k<=16:=by
 by_cases hr:0<=k/\k<=16;·exact hr
 exfalso;unfold kI at h;rw [g5 (by omega:¬ k=0),g5 (by omega:¬ k=1),g5 (by omega:¬ k=2),g5 (by omega:¬ k=3),g5 (by omega:¬ k=4),g5 (by omega:¬ k=5),g5 (by omega:¬ k=6),g5 (by omega:¬ k=7),g5 (by omega:¬ k=8),g5 (by omega:¬ k=9),g5 (by omega:¬ k=10),g5 (by omega:¬ k=11),g5 (by omega:¬ k=12),g5 (by omega:¬ k=13),g5 (by omega:¬ k=14),g5 (by omega:¬ k=15),g5 (by omega:¬ k=16)] at h;cases h
theorem Ut (s:g6):Ac s=0\/Ac s=1\/Ac s=2:=by unfold Ac;(repeat' split) <;> simp
theorem X8 {s:g6} (h:Ac s≠0):0<s.size:=by
 rcases Dt s.size with h0|h0
 ·exfalso;obtain⟨⟨l⟩⟩:=s;simp [ByteArray.size] at h0;subst h0;exact h kr
 exact h0
structure ExF (x:Ex) (f:Fo):Prop where
 h5:x.kind=2->x.num=0\/x.num=1
 h6:x.kind=16->mH x f.kd≠0
 h7:0<=f.ty->(x.types.length:Int)=f.ty
 h8:f.lb=false->x.labels.length=0
 h9:0<=mH x f.kd->(x.kids.length:Int)=mH x f.kd
 sZ:∀ l∈x.labels,me f.fl ⟨#[116]⟩=false->eZ l.ty=true
theorem C6 {x:Ex} {f:Fo} (ok:qm x f):ExF x f:=by
 have h:=ok.fits;simp only [oY,aG,fu] at h;obtain⟨⟨⟨⟨⟨⟨⟨⟨⟨-,-⟩,-⟩,-⟩,h5⟩,h6⟩,h7⟩,h8⟩,h9⟩,sZ⟩:=h;refine⟨fun h=>?_,fun h=>?_,fun h=>?_,fun h=>?_,fun h=>?_,fun l hl h=>?_⟩;·by_cases a:x.num=0;(·exact .inl a);by_cases b:x.num=1;(·exact .inr b);simp [q5,h,a,b] at h5
 ·intro e;simp [q6,h,e] at h6
 ·simpa [q7,h] using h7
 ·simp [q8,h] at h8;rw [h8];rfl
 ·simpa [q9,h] using h9
 have h2:=n7.1 sZ l hl;simp only [mK,h,aK,aJ,ez,not_or] at h2;simpa using h2.1.2
theorem adO {x:Ex} {f:Fo} (ok:qm x f):gg x<=x.kids.length:=by
 have h:=(C6 ok).h9;have h6:=(C6 ok).h6;have hf:=ok.form;clear ok;obtain⟨k,mo,na,tx,nu,ts,ls,ks⟩:=x;have hr:=Ut na;have hk:k=0\/k=1\/k=2\/k=3\/k=4\/k=5\/k=6\/k=7\/k=8\/k=9\/k=10\/k=11\/k=12\/k=13\/k=14\/k=15\/k=16:=by have:0<=k/\k<=16:=uJ hf;omega
 rcases hk with rfl|rfl|rfl|rfl|rfl|rfl|rfl|rfl|rfl|rfl|rfl|rfl|rfl|rfl|rfl|rfl|rfl <;> (obtain rfl:=mP hf;simp [mH,gg,Ex.kind,Ex.labels,Ex.kids,Ex.name] at h h6 ⊢) <;> omega
theorem adP {x:Ex} {f:Fo} (ok:qm x f) (hw:x.wt<=1048576) (hn : -9223372036854775808<=x.num/\x.num<=9223372036854775807) (hT:∀ t∈x.own,WT t):N4 x:=by
 have F:=C6 ok;have X9:=x.fF;have hrg:=uJ ok.form;have Ya:=ok.mis;simp only [rM,eH] at Ya;obtain⟨⟨⟨-,WE⟩,hm3⟩,hm4⟩:=Ya;have EK:me f.fl ⟨#[110]⟩=true->¬ x.kind=16->0<x.name.size:=fun h1 h2=>by simp only [m2,h1,h2,decide_false,aK,aL,rX] at WE;exact kY WE
 have yp:=n7.1 hm4;refine⟨hrg.1,hrg.2,?_,?_,?_,fun a ha=>?_,fun h13 a ha=>?_,fun hk=>?_,fun h15=>?_,by omega,F.h5,hn.1,hn.2,fun h1 h2=>?_,adO ok,fun t ht=>hT t (by unfold Ex.own;exact fT _ ht),fun h8 a ha=>hT _ (by unfold Ex.own;rw [gH h8];exact gO _ (aa1 ha))⟩;·have:=bB Ty.wt (fun a=>by have:=a.fF;omega) x.types;omega
 ·have:=bB Lb.wt (fun a=>by unfold Lb.wt;omega) x.labels;omega
 ·have:=bB Ex.wt (fun a=>by have:=a.fF;omega) x.kids;omega
 ·have:=yp a ha;simp only [sf,ez,fu,not_or] at this;exact kY (by simpa using this.1)
 ·have hf:=ok.form;rw [h13] at hf;cases hf;have:=yp a ha;have hv:me ⟨#[118]⟩ ⟨#[118]⟩=true:=kr;simp only [sf,hv,aL,ez,fu,not_or] at this;exact kY (by simpa using this.2)
 ·have hf:=ok.form;(rcases hk with h|h|h|h|h|h|h);(·rw [h] at hf;cases hf;exact EK kr (by omega));(·rw [h] at hf;cases hf;exact EK kr (by omega));(·rw [h] at hf;cases hf;exact EK kr (by omega));(·rw [h] at hf;cases hf;exact EK kr (by omega));(·rw [h] at hf;cases hf;exact EK kr (by omega));(·rw [h] at hf;cases hf;exact EK kr (by omega));have h6:=F.h6 h;unfold mH at h6;rw [gH h] at h6;exact X8 h6
 ·simp only [m3,h15,decide_true,aL,rX] at hm3;exact kY hm3
 have hf:=ok.form;have h7:=F.h7;have hc:x.kind=11\/x.kind=12\/x.kind=13\/x.kind=14\/x.kind=15:=by omega
 refine gb ?_;rcases hc with h|h|h|h|h
 ·rw [h] at hf;cases hf;have:=h7 (by decide);dsimp only at this;omega
 ·rw [h] at hf;cases hf;have:=h7 (by decide);dsimp only at this;omega
 ·rw [h] at hf;cases hf;have:=h7 (by decide);dsimp only at this;omega
 ·rw [h] at hf;cases hf;have:=h7 (by decide);dsimp only at this;omega
 rw [h] at hf;cases hf;have:=h7 (by decide);dsimp only at this;omega
def C7 (x:Ex):Prop:=∀ u∈x.nodes,-9223372036854775808<=u.num/\u.num<=9223372036854775807
theorem MF {x:Ex} (h:sj x=true):∀ u∈x.nodes,plN u=false/\∀ t∈u.types++u.labels.map Lb.ty,kN t=true:=by intro u hu;have:=ba.1 h u hu;rw [aG,fu] at this;exact⟨this.1,ba.1 this.2⟩
theorem Oh {x:Ex} {t:Ty} (h:t∈x.own):t∈x.types++x.labels.map Lb.ty:=by
 unfold Ex.own at h;split at h;·exact h
 rw [ai] at h;exact fT _ h
theorem Hc {x:Ex} (hc:sg x=0) (hs:sj x=true) (hw:x.wt<=1048576) (hr:C7 x):∀ u∈x.nodes,N4 u:=by intro u hu;obtain⟨f,ok⟩:=uI ((QC hc).2 u hu);refine adP ok (gw (Ex.oW hu) hw) (hr u hu) fun t ht=>rT ((jK j0 u.own).1 ok.own t ht) ((MF hs u hu).2 t (Oh ht))
theorem Uu (hP:bJ.uO 1=some jg) {x:Ex} (hc:sg x=0) (hs:sj x=true) (hw:x.wt<=1048576) (hr:C7 x):WX x:=by have hk:=Hc hc hs hw hr;refine JY hP (fun x=>∀ u∈x.nodes,N4 u) (fun x hx=>⟨hx x x.iL,fun k hkm u hu=>hx u ?_⟩) _ x (aA _) hk;rw [x.dZ];exact bZ _ (fU.2 ⟨k,hkm,hu⟩)
theorem adQ (m:g6) {n:g6} (h:0<n.size) (l:List (List UInt8)):EZ m n l≠[]:=by intro e;have e2:=yJ List.length e;unfold EZ at e2;simp only [ab,bA,ah] at e2;omega
theorem nZ {a b:List UInt8} (h:b≠[]):a++b≠[]:=fun e=>h (awO.1 e).2
theorem y7 {a b:List UInt8} (h:a≠[]):a++b≠[]:=fun e=>h (awO.1 e).1
theorem kO {c:Prop} [Decidable c] {a b:List UInt8} (h1:c->a≠[]) (h2:¬ c->b≠[]):(if c then a else b)≠[]:=by
 by_cases h:c;·rw [gH h];exact h1 h
 rw [g5 h];exact h2 h
theorem Ex.Us {x:Ex} (h:N4 x):x.pr≠[]:=by
 rw [x.eS];unfold rN;dsimp only;refine kO (fun hk=>?_) fun _=>?_;·intro e;have:=N6 x.num;rw [nz,e] at this;exact absurd this (by decide)
 refine kO (fun hk=>nZ (cC _ _)) fun _=>?_;refine kO (fun hk=>kO (fun _=>cC _ _) fun _=>cC _ _) fun _=>?_;refine kO (fun hk=>adQ _ (h.nm (by omega)) _) fun _=>?_;refine kO (fun hk=>by first|exact nZ (cC _ _)|exact y7 (nZ (cC _ _))) fun _=>?_;refine kO (fun hk=>by first|exact nZ (cC _ _)|exact y7 (nZ (cC _ _))) fun _=>?_;refine kO (fun hk=>by first|exact nZ (cC _ _)|exact y7 (nZ (cC _ _))) fun _=>?_;refine kO (fun hk=>by first|exact nZ (cC _ _)|exact y7 (nZ (cC _ _))) fun _=>?_;refine kO (fun hk=>by first|exact nZ (cC _ _)|exact y7 (nZ (cC _ _))) fun _=>?_;refine kO (fun hk=>by first|exact nZ (cC _ _)|exact y7 (nZ (cC _ _))) fun _=>?_;refine kO (fun hk=>by first|exact nZ (cC _ _)|exact y7 (nZ (cC _ _))) fun _=>?_;refine kO (fun hk=>by first|exact nZ (cC _ _)|exact y7 (nZ (cC _ _))) fun _=>?_;refine kO (fun hk=>by first|exact nZ (cC _ _)|exact y7 (nZ (cC _ _))) fun _=>?_;refine kO (fun hk=>by first|exact nZ (cC _ _)|exact y7 (nZ (cC _ _))) fun _=>?_;refine kO (fun hk=>by first|exact nZ (cC _ _)|exact y7 (nZ (cC _ _))) fun _=>?_;unfold ZP;dsimp only;exact kO (fun _=>y7 (nZ (cC _ _))) fun _=>y7 (nZ (cC _ _))
section
theorem c3:ak.cellsOf 3=1:=kr
theorem c4:ak.cellsOf 4=1:=kr
theorem c5:ak.cellsOf 5=1:=kr
theorem c9:ak.cellsOf 9=1:=kr
section
variable {F:Addr->Option Value} {hg:Gl F} {H:Type} {enc:g9×Value->H} {w:World} {sp:Nat->Bool} {held:Bool} {f:Nat} {cs:List Value} {d:DataW H} {p:List MemPlace}
theorem uK {a:List V} {cs:List Value} {off n:Nat} (h1:Rd F hg a ((cs.drop off).take n)) (h:cs.length=off+n):Rd F hg a (cs.drop off):=by rwa [b8 (by simp;omega)] at h1
theorem C8 (h:DataW.trod enc ak w 0 sp held f 3 cs=some (d,p)):∃ n:Int,Rd F hg [num n] cs /\ -9223372036854775808<=n/\n<=9223372036854775807:=by obtain⟨n,rfl,-,h⟩:=Go.DataW.trod_int Tryz.underlying3 h;refine⟨n,LW rfl,?_⟩;simpa [Lit.wf,show IntKind.i64.min = -9223372036854775808 by decide,show IntKind.i64.max=9223372036854775807 by decide] using h
theorem lq (h:DataW.trod enc ak w 0 sp held f 9 cs=some (d,p)):∃ s:g6,Rd F hg [str s] cs/\s.size+1<=Rows.uptoBulk d:=by cases f with|zero=>simp [DataW.trod] at h|succ f =>obtain⟨n,rfl,rfl⟩:=trod_string Tryz.underlying9 h;exact⟨n,LW rfl,by simp only [Rows.uptoBulk,gD];exact aA _⟩
theorem Oi (h:DataW.trod enc ak w 0 sp held f 4 cs=some (d,p)):∃ b:Bool,Rd F hg [bl b] cs:=by cases f with|zero=>simp [DataW.trod] at h|succ f=>obtain⟨n,rfl,-⟩:=trod_bool Tryz.underlying4 h;exact⟨n,LW rfl⟩
theorem Aj {T T':g9} {α:Type} {row:α->V} {g:α->Nat} {n:Nat} (hF:F=w.cell?) (hT:ak.underlying T=some (.slice T')) (hn:ak.cellsOf T'=n)
  (hr:∀ f',f'<f->∀ {cs:List Value} {d:DataW H} {p:List MemPlace},DataW.trod enc ak w 0 sp held f' T' cs=some (d,p)->∃ a:α,Rd F hg (row a).cells cs/\g a<=Rows.uptoBulk d)
  (h:DataW.trod enc ak w 0 sp held f T cs=some (d,p)):∃ l:List α,Rd F hg [.slice (l.map row)] cs/\aU g l+1<=Rows.uptoBulk d:=by cases f with|zero=>simp [DataW.trod] at h|succ f=>exact SX hF hT hn (fun h=>hr f (o6 f) h) h
end
theorem c22:ak.cellsOf 22=1:=kr
theorem c23:ak.cellsOf 23=1:=kr
theorem c25:ak.cellsOf 25=5:=kr
theorem c95:ak.cellsOf 95=7:=kr
theorem c26:ak.cellsOf 26=1:=kr
theorem c27:ak.cellsOf 27=1:=kr
theorem c29:ak.cellsOf 29=8:=kr
theorem c30:ak.cellsOf 30=1:=kr
theorem c31:ak.cellsOf 31=1:=kr
theorem c33:ak.cellsOf 33=3:=kr
theorem c78:ak.cellsOf 78=1:=kr
theorem c80:ak.cellsOf 80=31:=kr
theorem aid:ak.cellsOf 123=7:=kr
theorem aie:ak.cellsOf 100=8:=kr
theorem c84:ak.cellsOf 84=2:=kr
section
variable [bJ] {F:Addr->Option Value} {hg:Gl F} {H:Type} {enc:g9×Value->H} {w:World} {sp:Nat->Bool} {held:Bool} {f:Nat} {cs:List Value} {d:DataW H} {p:List MemPlace}
theorem C9 (hF:F=w.cell?):∀ (f:Nat) {cs:List Value} {d:DataW H} {p:List MemPlace},DataW.trod enc ak w 0 sp held f 25 cs=some (d,p)->∃ t:Ty,Rd F hg (cA t).cells cs/\t.wt<=Rows.uptoBulk d:=by intro f;induction f using Nat.strongRecOn with|ind f ih =>intro cs d p h;cases f with|zero=>simp [DataW.trod] at h|succ f =>obtain⟨hl,d0,p0,h0,d1,p1,h1,d2,p2,h2,d3,p3,h3,d4,p4,h4,rfl⟩:=kF Tryz.underlying25 h;simp only [c3,c9,c22,c23] at h0 h1 h2 h3 h4;rw [c25] at hl;obtain⟨k,hk,-⟩:=C8 (F:=F) (hg:=hg) h0;obtain⟨m,hm,s1⟩:=lq (F:=F) (hg:=hg) h1;obtain⟨n,hn,s2⟩:=lq (F:=F) (hg:=hg) h2;obtain⟨ts,yn,bts⟩:=Aj (F:=F) (hg:=hg) hF Tryz.underlying22 c25 (fun f' hf' {cs d p} h=>ih f' (by omega) h) h3;obtain⟨fs,hfs,bfs⟩:=Aj (F:=F) (hg:=hg) (α:=Fd) (row:=gZ) (g:=Fd.wt) hF Tryz.underlying23 c95 (fun f' hf' {cs d p} h=>by cases f' with|zero=>simp [DataW.trod] at h|succ f' =>obtain⟨hl,d0,p0,h0,d1,p1,h1,d2,p2,h2,rfl⟩:=kF Tryz.underlying95 h;simp only [c4,c9,c25] at h0 h1 h2;rw [c95] at hl;obtain⟨n,hn,s0⟩:=lq (F:=F) (hg:=hg) h0;obtain⟨t,ht,bt⟩:=ih f' (by omega) h1;obtain⟨b,hb⟩:=Oi (F:=F) (hg:=hg) h2;rw [aF] at ht;refine⟨.mk n t b,?_,?_⟩;(·rw [bL];show Rd F hg ([str n]++au t++[bl b]) (cs.drop 0);rw [ay];exact ef hn (ef ht (uK hb hl)));rw [Fd.fF];simp only [Rows.uptoBulk,Rows.uptoBulkAll,Fd.ty,Fd.name];omega) h4;refine⟨.mk k m n ts fs,?_,?_⟩;(·rw [aF];simp only [au,Ty.kind,Ty.mod,Ty.name,Ty.args,Ty.bT,ax,aB];exact ef (off:=0) hk (ef hm (ef hn (ef yn (ef hfs (SV hl))))));simp only [Rows.uptoBulk,Rows.uptoBulkAll,Ty.wt,ER,ES];omega
theorem aif (hF:F=w.cell?) (h:DataW.trod enc ak w 0 sp held f 100 cs=some (d,p)):∃ x:Lb,Rd F hg (cr x).cells cs/\x.wt<=Rows.uptoBulk d:=by cases f with|zero=>simp [DataW.trod] at h|succ f =>obtain⟨hl,d0,p0,h0,d1,p1,h1,d2,p2,h2,d3,p3,h3,rfl⟩:=kF Tryz.underlying100 h;simp only [c4,c9,c25] at h0 h1 h2 h3;rw [aie] at hl;obtain⟨n,hn,s0⟩:=lq (F:=F) (hg:=hg) h0;obtain⟨v,hv,s1⟩:=lq (F:=F) (hg:=hg) h1;obtain⟨t,ht,bt⟩:=C9 (hg:=hg) hF _ h2;obtain⟨b,hb⟩:=Oi (F:=F) (hg:=hg) h3;rw [aF] at ht;refine⟨⟨n,v,t,b⟩,?_,?_⟩;(·show Rd F hg ([str n,str v]++au t++[bl b]) (cs.drop 0);rw [ay];exact ef (a:=[str n]) hn (ef (a:=[str v]) hv (ef (b:=[bl b]) ht (uK hb hl))));simp only [Rows.uptoBulk,Rows.uptoBulkAll,Lb.wt];omega
theorem aal (hF:F=w.cell?):∀ (f:Nat) {cs:List Value} {d:DataW H} {p:List MemPlace},DataW.trod enc ak w 0 sp held f 29 cs=some (d,p)->∃ t:Ex,Rd F hg (ca t).cells cs/\t.wt<=Rows.uptoBulk d/\C7 t:=by intro f;induction f using Nat.strongRecOn with|ind f ih =>intro cs d p h;cases f with|zero=>simp [DataW.trod] at h|succ f =>obtain⟨hl,d0,p0,h0,d1,p1,h1,d2,p2,h2,d3,p3,h3,d4,p4,h4,d5,p5,h5,d6,p6,h6,d7,p7,h7,rfl⟩:=kF Tryz.underlying29 h;simp only [c3,c9,c22,c26,c27] at h0 h1 h2 h3 h4 h5 h6 h7;rw [c29] at hl;obtain⟨k,hk,-⟩:=C8 (F:=F) (hg:=hg) h0;obtain⟨m,hm,s1⟩:=lq (F:=F) (hg:=hg) h1;obtain⟨n,hn,s2⟩:=lq (F:=F) (hg:=hg) h2;obtain⟨x,hx,s3⟩:=lq (F:=F) (hg:=hg) h3;obtain⟨i,hi,hir⟩:=C8 (F:=F) (hg:=hg) h4;obtain⟨ts,yn,bts⟩:=Aj (F:=F) (hg:=hg) hF Tryz.underlying22 c25 (fun f' _ {cs d p} h=>C9 hF f' h) h5;obtain⟨ls,hls,bls⟩:=Aj (F:=F) (hg:=hg) hF Tryz.underlying26 aie (fun f' _ {cs d p} h=>aif hF h) h6;obtain⟨ks,V4,bks⟩:=Aj (F:=F) (hg:=hg) (α := {t:Ex // C7 t}) (row:=fun t=>ca t.1) (g:=fun t=>t.1.wt) hF Tryz.underlying27 c29 (fun f' hf' {cs d p} h=>by obtain⟨t,h1,h2,h3⟩:=ih f' (by omega) h;exact⟨⟨t,h3⟩,h1,h2⟩) h7;(have eks:ks.map (fun t=>ca t.1)=(ks.map Subtype.val).map ca:=by rw [avP];rfl);rw [eks] at V4;(have ebk:aU (fun t : {t:Ex // C7 t}=>t.1.wt) ks=aU Ex.wt (ks.map Subtype.val):=by rw [ju]);rw [ebk] at bks;refine⟨.mk k m n x i ts ls (ks.map Subtype.val),?_,?_,?_⟩;(·rw [aS];simp only [aH,Ex.kind,Ex.mod,Ex.name,Ex.text,Ex.num,Ex.types,Ex.labels,Ex.kids,ax,aM];exact ef (off:=0) hk (ef hm (ef hn (ef hx (ef hi (ef yn (ef hls (ef V4 (SV hl)))))))));(·simp only [Rows.uptoBulk,Rows.uptoBulkAll,Ex.wt,JF];omega);intro u hu;rw [Ex.dZ] at hu;(rcases dp.1 hu with rfl|hu);(·exact hir);obtain⟨k,hk,hu⟩:=fU.1 hu;obtain⟨s,-,rfl⟩:=dS.1 (show k∈ks.map Subtype.val from hk);exact s.2 u hu
end
end
end Go.Proofs.YtfbbfmcggbapoaaGreatDoor
end
section
namespace Go.Proofs.YtfbbfmcggbapoaaGreatDoor
open Go.Eng
section
open Go.ChangeShapes Go.WideShapes Go.ChangeAt Go.RowKit
@[reducible] def gOf (n:Int):bJ := { n:=n,κ:=fun _=>none,ok:=fun j b hb=>(by cases hb),g:=some 0,uO:=fun i=>if i=1 then some jg else none }
theorem Uv {W:World} {v:Value} (iq:Cell.ok ak W .any 0 3 v):∃ n:Int,v = .int .i64 n:=by unfold Cell.ok at iq;rw [Tryz.underlying3] at iq;cases v with|int k n=>exact⟨n,by rw [show k = .i64 from iq.1]⟩|_=>exact iq.elim
theorem QD {W:World} (hS:W.ShapedOpen ak):∃ n:Int,W.cell? ⟨0,0,none⟩=some (.int .i64 n):=by
 have h0:(((begin ak (fun _ _=>0) default).world.heap[0]?).bind Obj.row?)=some (#[.int .i64 0],3):=kr;obtain⟨cs,hc,hz,hr⟩:=hS.1 0 _ _ (qB kr) h0;obtain⟨ts,h1,-,h3⟩:=hr kr;obtain rfl:[3]=ts:=mP ((show ak.cellTypes ak.depth 3=some [3] from kr).symm.trans h1);have hz':cs.size=1:=hz;obtain⟨v,hv⟩:∃ v,cs[0]?=some v:=⟨cs[0],cb (by omega)⟩;obtain⟨u,hu,iq⟩:=h3 0 v hv;obtain rfl:3=u:=by simpa using hu
 obtain⟨n,rfl⟩:=Uv iq;exact⟨n,by simp [World.cell?,hc,hv]⟩
theorem Hd {F:Addr->Option Value} [bJ] {hg:Gl F} {cs:List V} {v:Value} (dI:cs.length≠1) (h:Rd F hg cs v.cells.toList):df ⟨F,fun _ _=>none,hg⟩ (.agg cs) v:=by cases v with|agg xs=>exact .agg _ _ _ (by simpa [Value.cells] using h.1.1) fun i c x hc hx=>h.1.2 i c x hc (by simpa [Value.cells] using hx)|_=>exact absurd h.1.1 (by simpa [Value.cells] using dI)
theorem QE {H:Type} {enc:g9×Value->H} {P:g7} {f:Func} {s:ChangeSpec} {apart fresh handsOn again:Bool} {W W':World} {args:Array Value} {v:Value} {ds gs:List (DataW H)} {before pa pv:List MemPlace}
  (hW:DataW.Whole enc P f.params.toList s.vars apart W args.toList ds gs before)
  (cj:∀ (b:Nat) (sp:Nat->Bool) (hd:Bool),DataW.TrodAll enc P W' b sp hd f.resultTypes.toList (v.resultList f.resultTypes.size) (s.fn H (ds++gs)).results [])
  (pP:∀ sp:Nat->Bool,(∀ p∈before,sp p.block=true)->DataW.TrodAll enc P W' 0 sp true f.params.toList args.toList (s.fn H (ds++gs)).args pa)
  (aam:∀ sp:Nat->Bool,(∀ p∈before,sp p.block=true)->DataW.TrodVars enc P W' sp s.vars (s.fn H (ds++gs)).vars pv)
  (nL:before=pa++pv) (hb:Below W.heap.size W W')
  (iq:∀ (j:Nat) (t:g9) (r:Value),f.resultTypes[j]?=some t->(v.resultList f.resultTypes.size)[j]?=some r->Value.okWide P W' .any 0 t r) :
  s.post enc P f apart fresh handsOn again W args v W':=by
 have bH:=hW.lt;refine⟨ds,gs,before,[],pa,pv,hW,cj _ _ _,pP _ (fun p hp=>by simpa using bH p hp),aam _ (fun p hp=>by simpa using bH p hp),hb.frame _,fun _=>?_⟩;obtain⟨_,_,_,_,_,hz,hn⟩:=hW;refine⟨iq,_,_,([]++pa)++pv,⟨[]++pa,pv,trodAll_append (pP _ (fun _ _=>rfl)) (cj _ _ _),aam _ (fun _ _=>rfl),rfl,fun b off hp=>?_,fun ha=>?_⟩,fun p hp _=>?_⟩;·(have YW:MemPlace.cell b off∈before:=by rw [nL];simpa using hp);rw [hb.frozen (show (⟨b,off,none⟩:Addr).block<W.heap.size from bH _ YW)];exact hz b off YW
 ·have:=hn ha;rw [nL] at this;simpa using this
 rw [nL];simpa using hp
theorem anL {F:Addr->Option Value} [bJ] {hg:Gl F} {rows:List V} {a:Option Addr} {l c:Nat} (h:Rd F hg [.slice rows] (Value.slice a l c).cells.toList):df ⟨F,fun _ _=>none,hg⟩ (.slice rows) (.slice a l c):=h.1.2 0 _ _ rfl rfl
theorem afx {P:g7} {W:World} {base:Nat} {T:g9} {v:Value} (hT:P.underlying T=some (.int .u8)) (h:Value.okWide P W .any base T v):∃ c:Nat,c<256/\v = .int .u8 (c:Int):=by unfold Value.okWide at h;rw [hT] at h;unfold Cell.okWide at h;rw [hT] at h;cases v with|int k n =>simp only [Cell.ok,hT] at h;obtain⟨rfl,h1,h2⟩:=h;(have h3:(IntKind.u8).min=0:=by decide);(have h4:(IntKind.u8).max=255:=by decide);rw [h3] at h1;rw [h4] at h2;exact⟨n.toNat,by omega,by rw [Int.toNat_of_nonneg h1]⟩|_=>simp [Cell.ok,hT] at h
theorem anM {P:g7} {l:List (String×DataW Unit)} {W:World} (e:(l.filter fun x=>x.2.handleName?.isSome)=[]) (h:laidMetH P l W):laidMet P l W:=by unfold laidMetH at h;rw [e] at h;exact h
def MG:List Int:=(List.range 20).map fun q=>((10 ^ q:Nat):Int)
theorem adS {W:World} (h:laidMetH ak Rows.printerRefusesUptoRow.laid W):∀ (j:Nat) (x:Value),jg[j]?=some x->W.cell? ⟨1,j,none⟩=some x:=by
 have h1:laidMet ak [("math/bits.deBruijn32tab", Rows.laid_math_bits_deBruijn32tab),("math/bits.deBruijn64tab", Rows.laid_math_bits_deBruijn64tab),("internal/strconv.uint64pow10", Lib.tabData .u64 MG),("unicode/utf8.acceptRanges", Rows.laid_unicode_utf8_acceptRanges),("unicode/utf8.first", Rows.laid_unicode_utf8_first)] W:=anM kr h;have h2:=Lib.tabIs_of_head (t:=267) (e:=257) (n:=20) (g:=1) kr kr kr kr kr kr (laidMet.tail (laidMet.tail h1));intro j x hx;have hj:j<20:=by have:=(az.1 hx).1;simpa [jg] using this
 rw [h2.cell (g:=1) kr j (by simpa [MG] using hj)];simp only [jg,ae,awe hj,bU,aD] at hx;rw [<- hx];simp [MG,List.getD,hj]
@[reducible] def aih {W:World} {n:Int} (hn:W.cell? ⟨0,0,none⟩=some (.int .i64 n)) (hp:∀ (j:Nat) (x:Value),jg[j]?=some x->W.cell? ⟨1,j,none⟩=some x):@Gl (gOf n) W.cell? :=
 @Gl.mk (gOf n) _ (fun g hg=>by cases hg;exact hn) (fun g cs j x h hj=>by
  have h':(if g=1 then some jg else none)=some cs:=h
  split at h'
  ·next e=>subst e;cases h';exact hp j x hj
  cases h')
theorem adT {F:Addr->Option Value} [bJ] {hg:Gl F} {t:Ty} {v:Value} (h:Rd F hg (cA t).cells v.cells.toList):df ⟨F,fun _ _=>none,hg⟩ (cA t) v:=by rw [aF] at h ⊢;exact Hd (by simp [au]) h
theorem adU {F:Addr->Option Value} [bJ] {hg:Gl F} {t:Ex} {v:Value} (h:Rd F hg (ca t).cells v.cells.toList):df ⟨F,fun _ _=>none,hg⟩ (ca t) v:=by rw [aS] at h ⊢;exact Hd (by simp [aH]) h
end
end Go.Proofs.YtfbbfmcggbapoaaGreatDoor
end
section
namespace Go.Proofs.YtfbbfmcggbapoaaGreatDoor
open Go.Eng
variable [bJ]
open Nat renaming reduceAdd -> zA, reduceLT -> zB, reduceLeDiff -> zC, reduceMul -> zD, reduceEqDiff -> zE, reduceSub -> zF
section
def Wc (v:Int):g6:=if v=0 then ⟨#[43]⟩ else if v=1 then ⟨#[45]⟩ else ⟨#[61]⟩
theorem adV (v:Int):bt (Wc v)=TC v:=by unfold Wc TC;(repeat' split) <;> rfl
theorem Yb (v:Int):0<(Wc v).size:=by unfold Wc;(repeat' split) <;> decide
def arV:V:=.agg [str ⟨#[43]⟩,str ⟨#[45]⟩,str ⟨#[61]⟩]
theorem bV:yz ak 219 [(0,.string ⟨#[43]⟩),(1,.string ⟨#[45]⟩),(2,.string ⟨#[61]⟩)]=some arV:=kr
theorem iV (k:Int) (h0:0<=k) (h4:k<=2):dy ak (Instr.index 219) arV (num k)=some (str (Wc k)):=by
 have:k=0\/k=1\/k=2:=by omega
 have e0:dy ak (Instr.index 219) arV (num 0)=some (str (Wc 0)):=kr;have e1:dy ak (Instr.index 219) arV (num 1)=some (str (Wc 1)):=kr;have e2:dy ak (Instr.index 219) arV (num 2)=some (str (Wc 2)):=kr;rcases this with h|h|h <;> rw [h] <;> assumption
structure PmK (kind:Int) (p:Pm):Prop where
 nm:0<p.name.size
 v:kind=0->0<=p.cQ/\p.cQ<=2
 b:¬ kind=0->¬ p.bound.kind=0->WT p.bound
noncomputable def nQ (d:Dc):Bool:=sd d.lower d.upper&&sd d.upper d.type
section
attribute [local go_sem] aC ae bM cH au ax aB al aq
theorem QF (kind:Int) (l:List Pm) (i:Nat) (x:Pm) (hx:l[i]?=some x) (hl:l.length<=1048576) (hp:PmK kind x) (v:Nat) (O:List UInt8) (hO:O.length+(sw kind x).length<=34359738368):∃ r_ m_,(WR O (sw kind x) [.box [.ptr 0 0],.box [.slice (l.map cH)],.box [num kind]]) r_ m_/\bK ak 213 [num i,.ptr 4 0,.ptr 2 0,.ptr 3 0] (bM 129 v O [.box [.ptr 0 0],.box [.slice (l.map cH)],.box [num kind]]) r_ m_:=by
 refine ma [] 47 [] 5 Tryz.func213 Tryz.call213 fun K hK=>?_;simp only [bM];have bH:=(az.1 hx).1;have bF:(i:Int)<(l.length:Int):=by omega
 simp only [hx,bF,go_sem];apply bE <;> intro Mp;·(have hk:kind=0:=by simpa using Mp);(have nL:sw kind x=bt (Wc x.cQ)++bt x.name:=by unfold sw;rw [gH hk,adV]);have ec:=hO;rw [nL] at ec;simp only [ag,aj,ai,aN,ab,af,ah] at ec;have ic:=iV x.cQ (hp.v hk).1 (hp.v hk).2;simp only [bV,ic,hx,bF,go_sem];refine lr [pR,pN,pR,pN,j2 [2,3],pM [2,3,4],j2 [2,3,4,5],pM [1,2,3,4,5,6],pR,pN,j2 [8,9],pM [8,9,10],j2 [8,9,10,11],pM [1,2,3,4,5,6,7,8,9,10,11,12],⟨.z,0,[],[0,1,2,3,4,5,6,7,8,9,10,11,12,13],[]⟩] 0 ?_;simp only [bV,ic,hx,bF,go_sem];refine yL (uC (oZ [(Wc x.cQ),x.name] (by simp) (jz (Yb _) (jz hp.nm ml)) _ _ (by simp only [ag,aj,ai,aN,ab,af,ah];omega)) rfl _) ?_;rintro _ _ ⟨rfl,O1,v1,k7,rfl⟩;have oc:=yJ List.length k7;simp only [ag,aj,ai,aN,ab,af,ah] at oc;simp only [bV,ic,hx,bF,go_sem];exact hK _ _ ⟨rfl,_,_,by rw [nL];simp only [*,ag,aj,ai,aN,ay,al,aq],rfl⟩
 have hk:¬ kind=0:=by simpa using Mp
 have ec:O.length+(bt x.name).length<=34359738368:=by revert hO;unfold sw;rw [g5 hk];intro hO;simp only [ag,aj,ai,aN,ab,af,ah] at hO;omega
 simp only [hx,bF,go_sem];refine lr [pR,pR,pN,j2 [1,2],pM [1,2,3],j2 [1,2,3,4],pM [1,2,3,4,5],⟨.z,0,[],[0,1,2,3,4,5,6],[]⟩] 0 ?_;simp only [hx,bF,go_sem];refine yL (uC (oZ [x.name] (by simp) (jz hp.nm ml) _ _ (by simp only [ag,aj,ai,aN,ab,af,ah];omega)) rfl _) ?_;rintro _ _ ⟨rfl,O2,v2,tQ,rfl⟩;have Ad:=yJ List.length tQ;simp only [ag,aj,ai,aN,ab,af,ah] at Ad;simp only [hx,bF,go_sem];apply bE <;> intro rK;·(have fw:¬ x.bound.kind=0:=by simpa using rK);(have nL:sw kind x=bt x.name++([32,60,58,32]++x.bound.pr):=by unfold sw;rw [g5 hk,g5 fw]);have Pg:=hO;rw [nL] at Pg;simp only [ag,aj,ai,aN,ab,af,ah] at Pg;have hWb:=hp.b hk fw;simp only [hx,bF,go_sem];refine cW (mf (cO [⟨#[32,60,58,32]⟩] (by simp) (jz (by decide) ml) _ _ (by simp only [ag,aj,ai,aN,ab,af,ah];omega)) _ 3 rfl rfl (fun _=>rfl) rfl) ?_;rintro _ _ ⟨rfl,O3,v3,uF,rfl⟩;have D2:=yJ List.length uF;simp only [ag,aj,ai,aN,ab,af,ah] at D2;simp only [hx,bF,go_sem];refine lr [pR,pR,pN,j2 [1,2],pM [1,2,3],j2 [1,2,3,4],⟨.z,0,[],[0,1,2,3,4,5],[]⟩] 0 ?_;simp only [hx,bF,go_sem];refine yL (JP (hWb) (by omega) _) ?_;rintro _ _ ⟨rfl,O4,v4,D3,rfl⟩;have JQ:=yJ List.length D3;simp only [ag,aj,ai,aN,ab,af,ah] at JQ;simp only [hx,bF,go_sem];exact hK _ _ ⟨rfl,_,_,by rw [nL];simp only [*,ag,aj,ai,aN,ay,al,aq],rfl⟩
 have fw:x.bound.kind=0:=by simpa using rK
 have nL:sw kind x=bt x.name:=by unfold sw;rw [g5 hk,gH fw,ai]
 simp only [hx,bF,go_sem];exact hK _ _ ⟨rfl,_,_,by rw [nL];simp only [*,ag,aj,ai,aN,ay,al,aq],rfl⟩
end
theorem aij {kind:Int} {l:List Pm} (hl:l.length<=1048576) (hp:∀ p∈l,PmK kind p):∀ (i:Nat) (x:List UInt8),(l.map (sw kind))[i]?=some x->∀ v O,O.length+x.length<=34359738368->∃ r m,WR O x [.box [.ptr 0 0],.box [.slice (l.map cH)],.box [num kind]] r m/\bK ak 213 (num i :: [.ptr 4 0,.ptr 2 0,.ptr 3 0]) (bM 129 v O [.box [.ptr 0 0],.box [.slice (l.map cH)],.box [num kind]]) r m:=by intro i x hx v O hO;rw [ae,bp] at hx;obtain⟨f,hf,rfl⟩:=hx;exact QF kind l i f hf hl (hp f (aw hf)) v O hO
section
attribute [local go_sem] aC bM
theorem Da (kind:Int) (l:List Pm) (hl:l.length<=1048576) (hp:∀ p∈l,PmK kind p) (v:Nat) (O:List UInt8) (hO:O.length+(jl kind l).length<=34359738368):∃ r_ m_,(WR O (jl kind l) []) r_ m_/\bK ak 136 [.ptr 0 0,.slice (l.map cH),num kind] (bM 129 v O []) r_ m_:=by
 refine ma [] 20 [] 2 Tryz.func136 Tryz.call136 fun K hK=>?_;simp only [bM];simp only [go_sem];apply bE <;> intro sB
 ·have zi:l=[]:=dn (by have h0:=qB sB;omega);have nL:jl kind l=[]:=by unfold jl;rw [gH zi]
  simp only [go_sem]
  first
   | (have h_:=uF;exact hK _ _ ⟨rfl,_,_,by rw [nL,uF,tQ,k7];simp only [dD,ag,aj,ai,aN,ay],rfl⟩)
   | exact hK _ _ ⟨rfl,O,v,by rw [nL,ai],rfl⟩
 have zi:¬ l=[]:=fun e=>(k9 sB) (by rw [e];rfl);have nL:jl kind l=[91]++(jn [44,32] (l.map (sw kind))++[93]):=by unfold jl;rw [g5 zi,ay]
 have ec:=hO;rw [nL] at ec;simp only [ag,aj,ai,aN,ab,af,ah] at ec;simp only [go_sem];refine cW (mf (cO [⟨#[91]⟩] (by simp) (jz (by decide) ml) _ _ (by simp only [ag,aj,ai,aN,ab,af,ah];omega)) _ 3 rfl rfl (fun _=>rfl) rfl) ?_;rintro _ _ ⟨rfl,O1,v1,k7,rfl⟩;have oc:=yJ List.length k7;simp only [ag,aj,ai,aN,ab,af,ah] at oc;simp only [go_sem];refine cW (wf3 (y1 213 [.ptr 4 0,.ptr 2 0,.ptr 3 0] (l.map (sw kind)) _ (by simp) hl ⟨#[44,32]⟩ (by decide) [.ptr 0 0] [.slice (l.map cH)] (fun _=>[num kind]) rfl rfl rfl (fun _=>rfl) (aij hl hp) _ _ (by rw [aN];omega)) rfl rfl rfl _) ?_;rintro _ _ ⟨rfl,O2,v2,tQ,rfl⟩;have Ad:=yJ List.length tQ;simp only [ag,aj,ai,aN,ab,af,ah] at Ad;simp only [go_sem];refine cW (mf (cO [⟨#[93]⟩] (by simp) (jz (by decide) ml) _ _ (by simp only [ag,aj,ai,aN,ab,af,ah];omega)) _ 4 rfl rfl (fun _=>rfl) rfl) ?_;rintro _ _ ⟨rfl,O3,v3,uF,rfl⟩;have D2:=yJ List.length uF;simp only [ag,aj,ai,aN,ab,af,ah] at D2;simp only [go_sem]
 first
  | (have h_:=uF;exact hK _ _ ⟨rfl,_,_,by rw [nL,uF,tQ,k7];simp only [dD,ag,aj,ai,aN,ay],rfl⟩)
  | exact hK _ _ ⟨rfl,O,v,by rw [nL,ai],rfl⟩
end
end
section
structure DcK (d:Dc):Prop where
 k:d.kind=0\/d.kind=1\/d.kind=2
 nm:0<d.name.size
 pl:d.params.length<=1048576
 pk:∀ p∈d.params,PmK d.kind p
 wl:d.kind=0->WT d.lower/\WT d.upper
 wt:d.kind=0\/d.kind=1->WT d.type
 wx:d.kind=1->WX d.expr
 md:d.kind=2->0<d.mod.size/\0<d.target.size
 nt:d.note.size<=1048576
 zl:d.lower.size<=1048576
 zu:d.upper.size<=1048576
theorem aan {t u:Ty} (h:t.size<=1048576):Cn 214 [.agg (tM t),.agg (tM u)] (bl (sd t u)):=by have h:=CL _ t u (aA _) h;simp only [aF,au,ax,aB] at h;exact⟨_,rfl,h⟩
section
attribute [local go_sem] aC bM
theorem MH (d:Dc) (hz:d.lower.size<=1048576) (uz:d.upper.size<=1048576) (hL:WT d.lower) (hU:WT d.upper) (v:Nat) (O:List UInt8) (hO:O.length+(TD (nQ d) d).length<=34359738368):∃ r_ m_,(WR O (TD (nQ d) d) []) r_ m_/\bK ak 137 [.ptr 0 0,.agg (dM d)] (bM 129 v O []) r_ m_:=by
 refine ma [30000] 44 [] 2 Tryz.func137 Tryz.call137 fun K hK=>?_;simp only [bM];obtain⟨q1,pf⟩:=gz (if d.lower.kind=1 then ([]:List UInt8) else [32,62,58,32]++d.lower.pr);obtain⟨q2,mi⟩:=gz (if d.upper.kind=0/\¬ d.lower.kind=1 then ([]:List UInt8) else [32,60,58,32]++d.upper.pr);obtain⟨b1,j8⟩:=gz (sd d.lower d.upper);obtain⟨b2,nD⟩:=gz (sd d.upper d.type);have uy:TD (nQ d) d=if (b1&&b2)=true then [] else q1++q2:=by unfold TD nQ;rw [j8,nD,pf,mi]
 have hE1:=aan (t:=d.lower) (u:=d.upper) hz;have Y1:=aan (t:=d.upper) (u:=d.type) uz;rw [j8] at hE1;rw [nD] at Y1;simp only [go_sem];refine sq tt_ok [30000] ?_;simp only [go_sem];refine cL (hE1) ?_;simp only [go_sem];apply bE <;> intro aao
 ·simp only [go_sem];refine cL (Y1) ?_;simp only [go_sem];apply bE <;> intro mc
  ·have hbn:(b1&&b2)=true:=by simp [aao,mc]
   rw [gH hbn] at uy;simp only [go_sem]
   first
    | (have h_:=D7;exact hK _ _ ⟨rfl,_,_,by rw [uy,D7,DB,pe,<- mi];simp only [dD,ag,aj,ai,aN,ay],rfl⟩)
    | (have h_:=kh;exact hK _ _ ⟨rfl,_,_,by rw [uy,pe,<- mi];simp only [dD,ag,aj,ai,aN,ay],rfl⟩)
    | exact hK _ _ ⟨rfl,O,v,by rw [uy,ai],rfl⟩
  have hbn:¬ (b1&&b2)=true:=by simp [mc]
  rw [g5 hbn] at uy;have ec:=hO;rw [uy] at ec;simp only [ag,aj,ai,aN,ab,af,ah] at ec;simp only [go_sem];refine rI (n:=44) tt_ok [30000] (fun a:Nat×List UInt8=>[(0,.ptr 0 0),(3,.ptr 2 0)]) (fun a:Nat×List UInt8=>bM 129 a.1 a.2 [.box (dM d)]) 3 (fun a=>a.2=O++(q1)) (fun Z1 dm=>?_) ?_;·simp only [go_sem];apply bE <;> intro xY;(·(have gW:¬ d.lower.kind=1:=by simpa using xY);rw [g5 gW] at pf;have Uw:=yJ List.length pf;simp only [ag,aj,ai,aN,ab,af,ah] at Uw;simp only [go_sem];refine cW (mf (cO [⟨#[32,62,58,32]⟩] (by simp) (jz (by decide) ml) _ _ (by simp only [ag,aj,ai,aN,ab,af,ah];omega)) _ 1 rfl rfl (fun _=>rfl) rfl) ?_;rintro _ _ ⟨rfl,OA,vA,Ms,rfl⟩;have XW:=yJ List.length Ms;simp only [ag,aj,ai,aN,ab,af,ah] at XW;simp only [go_sem];refine cW (JP hL (by omega) _) ?_;rintro _ _ ⟨rfl,Oy,vy,jV,rfl⟩;simp only [go_sem];refine dm _ ⟨(vy,Oy),?_,da (by omega) (by simp only [go_sem])⟩;dsimp only;first|(rw [jV,Ms,<- pf];simp only [dD,ag,aj,ai,aN,ay])|(rw [jV,<- pf];simp only [dD,ag,aj,ai,aN,ay]));(have gW:d.lower.kind=1:=by simpa using xY);rw [gH gW] at pf;obtain⟨Oy,jV⟩:=gy O;obtain⟨vy,Qg⟩:=gy v;rw [<- jV,<- Qg];simp only [go_sem];refine dm _ ⟨(vy,Oy),?_,da (by omega) (by simp only [go_sem])⟩;dsimp only;first|(rw [jV,Ms,<- pf];simp only [dD,ag,aj,ai,aN,ay])|(rw [jV,<- pf];simp only [dD,ag,aj,ai,aN,ay])
  rintro⟨vb,Ob⟩ pe;dsimp only at pe;have yp:=yJ List.length pe;simp only [ag,aj,ai,aN,ab,af,ah] at yp;dsimp only [bM];simp only [go_sem];apply bE <;> intro Kb
  ·have kh:¬ (d.upper.kind=0/\¬ d.lower.kind=1):=by intro h_;simp [h_.1] at Kb
   rw [g5 kh] at mi;have D8:=yJ List.length mi;simp only [ag,aj,ai,aN,ab,af,ah] at D8;simp only [go_sem];refine cW (mf (cO [⟨#[32,60,58,32]⟩] (by simp) (jz (by decide) ml) _ _ (by simp only [ag,aj,ai,aN,ab,af,ah];omega)) _ 1 rfl rfl (fun _=>rfl) rfl) ?_;rintro _ _ ⟨rfl,OC,vC,DB,rfl⟩;have Qs:=yJ List.length DB;simp only [ag,aj,ai,aN,ab,af,ah] at Qs;simp only [go_sem];refine cW (JP hU (by omega) _) ?_;rintro _ _ ⟨rfl,OD,vD,D7,rfl⟩;simp only [go_sem]
   first
    | (have h_:=D7;exact hK _ _ ⟨rfl,_,_,by rw [uy,D7,DB,pe,<- mi];simp only [dD,ag,aj,ai,aN,ay],rfl⟩)
    | (have h_:=kh;exact hK _ _ ⟨rfl,_,_,by rw [uy,pe,<- mi];simp only [dD,ag,aj,ai,aN,ay],rfl⟩)
    | exact hK _ _ ⟨rfl,O,v,by rw [uy,ai],rfl⟩
  simp only [go_sem];apply bE <;> intro rK
  ·have kh:¬ (d.upper.kind=0/\¬ d.lower.kind=1):=by have h1_:d.lower.kind=1:=(by simpa using rK);exact fun h_=>h_.2 h1_
   rw [g5 kh] at mi;have D8:=yJ List.length mi;simp only [ag,aj,ai,aN,ab,af,ah] at D8;simp only [go_sem];refine cW (mf (cO [⟨#[32,60,58,32]⟩] (by simp) (jz (by decide) ml) _ _ (by simp only [ag,aj,ai,aN,ab,af,ah];omega)) _ 1 rfl rfl (fun _=>rfl) rfl) ?_;rintro _ _ ⟨rfl,OC,vC,DB,rfl⟩;have Qs:=yJ List.length DB;simp only [ag,aj,ai,aN,ab,af,ah] at Qs;simp only [go_sem];refine cW (JP hU (by omega) _) ?_;rintro _ _ ⟨rfl,OD,vD,D7,rfl⟩;simp only [go_sem]
   first
    | (have h_:=D7;exact hK _ _ ⟨rfl,_,_,by rw [uy,D7,DB,pe,<- mi];simp only [dD,ag,aj,ai,aN,ay],rfl⟩)
    | (have h_:=kh;exact hK _ _ ⟨rfl,_,_,by rw [uy,pe,<- mi];simp only [dD,ag,aj,ai,aN,ay],rfl⟩)
    | exact hK _ _ ⟨rfl,O,v,by rw [uy,ai],rfl⟩
  have kh:d.upper.kind=0/\¬ d.lower.kind=1:=⟨by simpa using Kb,by simpa using rK⟩;rw [gH kh] at mi;simp only [go_sem]
  first
   | (have h_:=D7;exact hK _ _ ⟨rfl,_,_,by rw [uy,D7,DB,pe,<- mi];simp only [dD,ag,aj,ai,aN,ay],rfl⟩)
   | (have h_:=kh;exact hK _ _ ⟨rfl,_,_,by rw [uy,pe,<- mi];simp only [dD,ag,aj,ai,aN,ay],rfl⟩)
   | exact hK _ _ ⟨rfl,O,v,by rw [uy,ai],rfl⟩
 have hbn:¬ (b1&&b2)=true:=by simp [aao]
 rw [g5 hbn] at uy;have ec:=hO;rw [uy] at ec;simp only [ag,aj,ai,aN,ab,af,ah] at ec;simp only [go_sem];refine rI (n:=44) tt_ok [30000] (fun a:Nat×List UInt8=>[(0,.ptr 0 0),(3,.ptr 2 0)]) (fun a:Nat×List UInt8=>bM 129 a.1 a.2 [.box (dM d)]) 3 (fun a=>a.2=O++(q1)) (fun Z2 lR=>?_) ?_;·simp only [go_sem];apply bE <;> intro xY;(·(have gW:¬ d.lower.kind=1:=by simpa using xY);rw [g5 gW] at pf;have Uw:=yJ List.length pf;simp only [ag,aj,ai,aN,ab,af,ah] at Uw;simp only [go_sem];refine cW (mf (cO [⟨#[32,62,58,32]⟩] (by simp) (jz (by decide) ml) _ _ (by simp only [ag,aj,ai,aN,ab,af,ah];omega)) _ 1 rfl rfl (fun _=>rfl) rfl) ?_;rintro _ _ ⟨rfl,OA,vA,Ms,rfl⟩;have XW:=yJ List.length Ms;simp only [ag,aj,ai,aN,ab,af,ah] at XW;simp only [go_sem];refine cW (JP hL (by omega) _) ?_;rintro _ _ ⟨rfl,Oy,vy,jV,rfl⟩;simp only [go_sem];refine lR _ ⟨(vy,Oy),?_,da (by omega) (by simp only [go_sem])⟩;dsimp only;first|(rw [jV,Ms,<- pf];simp only [dD,ag,aj,ai,aN,ay])|(rw [jV,<- pf];simp only [dD,ag,aj,ai,aN,ay]));(have gW:d.lower.kind=1:=by simpa using xY);rw [gH gW] at pf;obtain⟨Oy,jV⟩:=gy O;obtain⟨vy,Qg⟩:=gy v;rw [<- jV,<- Qg];simp only [go_sem];refine lR _ ⟨(vy,Oy),?_,da (by omega) (by simp only [go_sem])⟩;dsimp only;first|(rw [jV,Ms,<- pf];simp only [dD,ag,aj,ai,aN,ay])|(rw [jV,<- pf];simp only [dD,ag,aj,ai,aN,ay])
 rintro⟨vb,Ob⟩ pe;dsimp only at pe;have yp:=yJ List.length pe;simp only [ag,aj,ai,aN,ab,af,ah] at yp;dsimp only [bM];simp only [go_sem];apply bE <;> intro Kb
 ·have kh:¬ (d.upper.kind=0/\¬ d.lower.kind=1):=by intro h_;simp [h_.1] at Kb
  rw [g5 kh] at mi;have D8:=yJ List.length mi;simp only [ag,aj,ai,aN,ab,af,ah] at D8;simp only [go_sem];refine cW (mf (cO [⟨#[32,60,58,32]⟩] (by simp) (jz (by decide) ml) _ _ (by simp only [ag,aj,ai,aN,ab,af,ah];omega)) _ 1 rfl rfl (fun _=>rfl) rfl) ?_;rintro _ _ ⟨rfl,OC,vC,DB,rfl⟩;have Qs:=yJ List.length DB;simp only [ag,aj,ai,aN,ab,af,ah] at Qs;simp only [go_sem];refine cW (JP hU (by omega) _) ?_;rintro _ _ ⟨rfl,OD,vD,D7,rfl⟩;simp only [go_sem]
  first
   | (have h_:=D7;exact hK _ _ ⟨rfl,_,_,by rw [uy,D7,DB,pe,<- mi];simp only [dD,ag,aj,ai,aN,ay],rfl⟩)
   | (have h_:=kh;exact hK _ _ ⟨rfl,_,_,by rw [uy,pe,<- mi];simp only [dD,ag,aj,ai,aN,ay],rfl⟩)
   | exact hK _ _ ⟨rfl,O,v,by rw [uy,ai],rfl⟩
 simp only [go_sem];apply bE <;> intro rK
 ·have kh:¬ (d.upper.kind=0/\¬ d.lower.kind=1):=by have h1_:d.lower.kind=1:=(by simpa using rK);exact fun h_=>h_.2 h1_
  rw [g5 kh] at mi;have D8:=yJ List.length mi;simp only [ag,aj,ai,aN,ab,af,ah] at D8;simp only [go_sem];refine cW (mf (cO [⟨#[32,60,58,32]⟩] (by simp) (jz (by decide) ml) _ _ (by simp only [ag,aj,ai,aN,ab,af,ah];omega)) _ 1 rfl rfl (fun _=>rfl) rfl) ?_;rintro _ _ ⟨rfl,OC,vC,DB,rfl⟩;have Qs:=yJ List.length DB;simp only [ag,aj,ai,aN,ab,af,ah] at Qs;simp only [go_sem];refine cW (JP hU (by omega) _) ?_;rintro _ _ ⟨rfl,OD,vD,D7,rfl⟩;simp only [go_sem]
  first
   | (have h_:=D7;exact hK _ _ ⟨rfl,_,_,by rw [uy,D7,DB,pe,<- mi];simp only [dD,ag,aj,ai,aN,ay],rfl⟩)
   | (have h_:=kh;exact hK _ _ ⟨rfl,_,_,by rw [uy,pe,<- mi];simp only [dD,ag,aj,ai,aN,ay],rfl⟩)
   | exact hK _ _ ⟨rfl,O,v,by rw [uy,ai],rfl⟩
 have kh:d.upper.kind=0/\¬ d.lower.kind=1:=⟨by simpa using Kb,by simpa using rK⟩;rw [gH kh] at mi;simp only [go_sem]
 first
  | (have h_:=D7;exact hK _ _ ⟨rfl,_,_,by rw [uy,D7,DB,pe,<- mi];simp only [dD,ag,aj,ai,aN,ay],rfl⟩)
  | (have h_:=kh;exact hK _ _ ⟨rfl,_,_,by rw [uy,pe,<- mi];simp only [dD,ag,aj,ai,aN,ay],rfl⟩)
  | exact hK _ _ ⟨rfl,O,v,by rw [uy,ai],rfl⟩
theorem Ux (d:Dc) (hd:DcK d) (v:Nat) (O:List UInt8) (hO:O.length+(A9 (nQ d) d).length<=34359738368):∃ r_ m_,(WR O (A9 (nQ d) d) []) r_ m_/\bK ak 54 [.ptr 0 0,.agg (dM d)] (bM 129 v O []) r_ m_:=by
 refine ma [30000] 83 [] 2 Tryz.func54 Tryz.call54 fun K hK=>?_;simp only [bM];obtain⟨q1,pf⟩:=gz (if d.exported=true then [101,120,112,111,114,116,32] else ([]:List UInt8));obtain⟨q2,mi⟩:=gz (if d.deprecated=true then [100,101,112,114,101,99,97,116,101,100,32]++(Dy d.note++[32]) else ([]:List UInt8));obtain⟨q3,Oj⟩:=gz (if d.kind=0 then [116,121,112,101,32]++(bt d.name++(jl 0 d.params++(TD (nQ d) d++([32,61,32]++d.type.pr)))) else if d.kind=1 then [108,101,116,32]++(bt d.name++(jl 1 d.params++([58,32]++(d.type.pr++([32,61,32]++d.expr.pr))))) else [117,115,101,32]++(bt d.mod++([58,58]++(bt d.target++([32,97,115,32]++bt d.name)))));have XB:A9 (nQ d) d=q1++(q2++(q3++[10])):=by rw [<- pf,<- mi,<- Oj];unfold A9;simp only [dD,ay]
 have ec:=hO;rw [XB] at ec;simp only [ag,aj,ai,aN,ab,af,ah] at ec;have hbq:=E5 (Dy d.note);simp only [go_sem];refine rI (n:=83) tt_ok [30000] (fun a:Nat×List UInt8=>[(0,.ptr 0 0),(3,.ptr 2 0)]) (fun a:Nat×List UInt8=>bM 129 a.1 a.2 [.box (dM d)]) 3 (fun a=>a.2=O++(q1)) (fun Z1 dm=>?_) ?_;·simp only [go_sem];apply bE <;> intro Rb;(·have he:d.exported=true:=Rb;rw [gH he] at pf;have Uw:=yJ List.length pf;simp only [ag,aj,ai,aN,ab,af,ah] at Uw;simp only [go_sem];refine cW (mf (cO [⟨#[101,120,112,111,114,116,32]⟩] (by simp) (jz (by decide) ml) _ _ (by simp only [ag,aj,ai,aN,ab,af,ah];omega)) _ 1 rfl rfl (fun _=>rfl) rfl) ?_;rintro _ _ ⟨rfl,Oy,vy,jV,rfl⟩;have CR:=yJ List.length jV;simp only [ag,aj,ai,aN,ab,af,ah] at CR;simp only [go_sem];refine dm _ ⟨(vy,Oy),?_,da (by omega) (by simp only [go_sem])⟩;dsimp only;first|(rw [jV,<- pf];simp only [dD,ag,aj,ai,aN,ay]));(have he:¬ d.exported=true:=by rw [show d.exported=false from Rb];decide);rw [g5 he] at pf;obtain⟨Oy,jV⟩:=gy O;obtain⟨vy,Qg⟩:=gy v;rw [<- jV,<- Qg];simp only [go_sem];refine dm _ ⟨(vy,Oy),?_,da (by omega) (by simp only [go_sem])⟩;dsimp only;first|(rw [jV,<- pf];simp only [dD,ag,aj,ai,aN,ay])
 rintro⟨vb,Ob⟩ pe;dsimp only at pe;have yp:=yJ List.length pe;simp only [ag,aj,ai,aN,ab,af,ah] at yp;dsimp only [bM];simp only [go_sem];refine rI (n:=83) tt_ok [30000] (fun a:Nat×List UInt8=>[(0,.ptr 0 0),(3,.ptr 2 0)]) (fun a:Nat×List UInt8=>bM 129 a.1 a.2 [.box (dM d)]) 3 (fun a=>a.2=O++(q1++q2)) (fun Z2 lR=>?_) ?_;·simp only [go_sem];apply bE <;> intro jf;(·have he:d.deprecated=true:=jf;rw [gH he] at mi;have D8:=yJ List.length mi;simp only [ag,aj,ai,aN,ab,af,ah] at D8;rw [<- hbq] at D8 mi;simp only [go_sem];refine cL (JR d.note hd.nt) ?_;simp only [go_sem];refine cW (mf (cO [⟨#[100,101,112,114,101,99,97,116,101,100,32]⟩,(bs (Dy d.note)),⟨#[32]⟩] (by simp) (jz (by decide) (jz (T0 _) (jz (by decide) ml))) _ _ (by simp only [ag,aj,ai,aN,ab,af,ah];omega)) _ 1 rfl rfl (fun _=>rfl) rfl) ?_;rintro _ _ ⟨rfl,Oy,vy,jV,rfl⟩;have CR:=yJ List.length jV;simp only [ag,aj,ai,aN,ab,af,ah] at CR;simp only [go_sem];refine lR _ ⟨(vy,Oy),?_,da (by omega) (by simp only [go_sem])⟩;dsimp only;rw [jV,pe,<- mi];simp only [dD,ag,aj,ai,aN,ay]);(have he:¬ d.deprecated=true:=by rw [show d.deprecated=false from jf];decide);rw [g5 he] at mi;obtain⟨Oy,jV⟩:=gy Ob;obtain⟨vy,Qg⟩:=gy vb;rw [<- jV,<- Qg];simp only [go_sem];refine lR _ ⟨(vy,Oy),?_,da (by omega) (by simp only [go_sem])⟩;dsimp only;rw [jV,pe,<- mi];simp only [dD,ag,aj,ai,aN,ay]
 rintro⟨vc,Oc⟩ hOc;dsimp only at hOc;have hlc:=yJ List.length hOc;simp only [ag,aj,ai,aN,ab,af,ah] at hlc;dsimp only [bM];simp only [go_sem];refine rI (n:=83) tt_ok [30000] (fun a:Nat×List UInt8=>[(0,.ptr 0 0),(3,.ptr 2 0)]) (fun a:Nat×List UInt8=>bM 129 a.1 a.2 [.box (dM d)]) 3 (fun a=>a.2=O++(q1++(q2++q3))) (fun Z3 rP=>?_) ?_;·simp only [go_sem];apply bE <;> intro xY;(·(have hk:d.kind=0:=by simpa using xY);rw [gH hk] at Oj;have Uy:=yJ List.length Oj;simp only [ag,aj,ai,aN,ab,af,ah] at Uy;simp only [go_sem];refine cW (mf (cO [⟨#[116,121,112,101,32]⟩,d.name] (by simp) (jz (by decide) (jz hd.nm ml)) _ _ (by simp only [ag,aj,ai,aN,ab,af,ah];omega)) _ 1 rfl rfl (fun _=>rfl) rfl) ?_;rintro _ _ ⟨rfl,OA,vA,Ms,rfl⟩;have XW:=yJ List.length Ms;simp only [ag,aj,ai,aN,ab,af,ah] at XW;simp only [go_sem];refine cW (uC (Da d.kind d.params hd.pl hd.pk _ _ (by rw [hk];omega)) (by simp [aQ,bC]) _) ?_;rintro _ _ ⟨rfl,OB,vB,XX,rfl⟩;rw [hk] at XX;have hlB:=yJ List.length XX;simp only [ag,aj,ai,aN,ab,af,ah] at hlB;simp only [go_sem];refine cW (uC (MH d hd.zl hd.zu (hd.wl hk).1 (hd.wl hk).2 _ _ (by omega)) (by simp [aQ,bC]) _) ?_;rintro _ _ ⟨rfl,OC,vC,DB,rfl⟩;have Qs:=yJ List.length DB;simp only [ag,aj,ai,aN,ab,af,ah] at Qs;simp only [go_sem];refine cW (mf (cO [⟨#[32,61,32]⟩] (by simp) (jz (by decide) ml) _ _ (by simp only [ag,aj,ai,aN,ab,af,ah];omega)) _ 2 rfl rfl (fun _=>rfl) rfl) ?_;rintro _ _ ⟨rfl,OD,vD,D7,rfl⟩;have hlD:=yJ List.length D7;simp only [ag,aj,ai,aN,ab,af,ah] at hlD;simp only [go_sem];refine cW (JP (hd.wt (.inl hk)) (by omega) _) ?_;rintro _ _ ⟨rfl,Oy,vy,jV,rfl⟩;simp only [go_sem];refine rP _ ⟨(vy,Oy),?_,da (by omega) (by simp only [go_sem])⟩;dsimp only;rw [<- Oj];simp only [*,ag,aj,ai,aN,ay,al,aq]);(have AP:¬ d.kind=0:=by simpa using xY);rw [g5 AP] at Oj;simp only [go_sem];apply bE <;> intro Kc;(·(have hk:d.kind=1:=by simpa using Kc);rw [gH hk] at Oj;have Uy:=yJ List.length Oj;simp only [ag,aj,ai,aN,ab,af,ah] at Uy;simp only [go_sem];refine cW (mf (cO [⟨#[108,101,116,32]⟩,d.name] (by simp) (jz (by decide) (jz hd.nm ml)) _ _ (by simp only [ag,aj,ai,aN,ab,af,ah];omega)) _ 1 rfl rfl (fun _=>rfl) rfl) ?_;rintro _ _ ⟨rfl,OA,vA,Ms,rfl⟩;have XW:=yJ List.length Ms;simp only [ag,aj,ai,aN,ab,af,ah] at XW;simp only [go_sem];refine cW (uC (Da d.kind d.params hd.pl hd.pk _ _ (by rw [hk];omega)) (by simp [aQ,bC]) _) ?_;rintro _ _ ⟨rfl,OB,vB,XX,rfl⟩;rw [hk] at XX;have hlB:=yJ List.length XX;simp only [ag,aj,ai,aN,ab,af,ah] at hlB;simp only [go_sem];refine cW (mf (cO [⟨#[58,32]⟩] (by simp) (jz (by decide) ml) _ _ (by simp only [ag,aj,ai,aN,ab,af,ah];omega)) _ 2 rfl rfl (fun _=>rfl) rfl) ?_;rintro _ _ ⟨rfl,OC,vC,DB,rfl⟩;have Qs:=yJ List.length DB;simp only [ag,aj,ai,aN,ab,af,ah] at Qs;simp only [go_sem];refine cW (JP (hd.wt (.inr hk)) (by omega) _) ?_;rintro _ _ ⟨rfl,OD,vD,D7,rfl⟩;have hlD:=yJ List.length D7;simp only [ag,aj,ai,aN,ab,af,ah] at hlD;simp only [go_sem];refine cW (mf (cO [⟨#[32,61,32]⟩] (by simp) (jz (by decide) ml) _ _ (by simp only [ag,aj,ai,aN,ab,af,ah];omega)) _ 3 rfl rfl (fun _=>rfl) rfl) ?_;rintro _ _ ⟨rfl,OE,vE,hOE,rfl⟩;have hlE:=yJ List.length hOE;simp only [ag,aj,ai,aN,ab,af,ah] at hlE;simp only [go_sem];refine cW (wex (hd.wx hk) (by omega) _) ?_;rintro _ _ ⟨rfl,Oy,vy,jV,rfl⟩;simp only [go_sem];refine rP _ ⟨(vy,Oy),?_,da (by omega) (by simp only [go_sem])⟩;dsimp only;rw [<- Oj];simp only [*,ag,aj,ai,aN,ay,al,aq]);(have gW:¬ d.kind=1:=by simpa using Kc);rw [g5 gW] at Oj;simp only [go_sem];apply bE <;> intro ail;(·(have hk:d.kind=2:=by simpa using ail);have Uy:=yJ List.length Oj;simp only [ag,aj,ai,aN,ab,af,ah] at Uy;simp only [go_sem];refine cW (mf (cO [⟨#[117,115,101,32]⟩,d.mod,⟨#[58,58]⟩,d.target,⟨#[32,97,115,32]⟩,d.name] (by simp) (jz (by decide) (jz (hd.md hk).1 (jz (by decide) (jz (hd.md hk).2 (jz (by decide) (jz hd.nm ml)))))) _ _ (by simp only [ag,aj,ai,aN,ab,af,ah];omega)) _ 1 rfl rfl (fun _=>rfl) rfl) ?_;rintro _ _ ⟨rfl,Oy,vy,jV,rfl⟩;simp only [go_sem];refine rP _ ⟨(vy,Oy),?_,da (by omega) (by simp only [go_sem])⟩;dsimp only;rw [<- Oj];simp only [*,ag,aj,ai,aN,ay,al,aq]);(have kh:¬ d.kind=2:=by simpa using ail);exact absurd hd.k (by omega)
 rintro⟨vd,Od⟩ hOd;dsimp only at hOd;have hld:=yJ List.length hOd;simp only [ag,aj,ai,aN,ab,af,ah] at hld;dsimp only [bM];simp only [go_sem];refine cW (mf (cO [⟨#[10]⟩] (by simp) (jz (by decide) ml) _ _ (by simp only [ag,aj,ai,aN,ab,af,ah];omega)) _ 1 rfl rfl (fun _=>rfl) rfl) ?_;rintro _ _ ⟨rfl,OZ,vZ,hOZ,rfl⟩;have hlZ:=yJ List.length hOZ;simp only [ag,aj,ai,aN,ab,af,ah] at hlZ;simp only [go_sem];exact hK _ _ ⟨rfl,_,_,by rw [XB,hOZ,hOd];simp only [dD,ag,aj,ai,aN,ay],rfl⟩
end
end
section
def Uz (B:bx) (v:Nat) (O:List UInt8) (l:List bx):List bx:=B :: .ox 129 2 v O.length :: .pq 5 v O :: l
def WRL (B:bx) (O X:List UInt8) (l:List bx) (r:V) (m:List bx):Prop:=r = .fZ []/\∃ O' v',O'=O++X/\m=Uz B v' O' l
theorem anP {f:FuncId} {vs vs':List V} {O X:List UInt8} {v:Nat} (h:∃ r m,WR O X [] r m/\bK ak f vs (bM 129 v O []) r m) (hv:vs.all (aQ 2)=true) (Pf:∀ N,uU (s1 N) vs=vs') (B:bx) (l:List bx) :
  ∃ r m,WRL B O X l r m/\bK ak f vs' (B :: .ox 129 2 v O.length :: .pq 5 v O :: l) r m:=by
 obtain⟨r,m,⟨rfl,O',v',rfl,rfl⟩,h⟩:=h;refine⟨_,_,⟨rfl,_,v',rfl,rfl⟩,?_⟩;have h2:=h.LO (Uz B v O l) (s1 (Uz B v O l).length) 2 rfl hv rfl rfl rfl (aA _) (fun i C hi=>?_) (My _) (fun j hj=>by unfold s1;rw [g5 (by omega),g5 (by omega)]);·rw [Pf] at h2;exact JO h2 ((ai _).trans rfl)
 match i,hi with|0,hi=>cases hi;rfl|1,hi=>cases hi;rfl|i+2,hi=>cases hi
def s3 (k N j:Nat):Nat:=if j=0 then 1 else if j=1 then 2 else if j=2 then k+3 else N+(j-3)
theorem adW (k N i j:Nat) (hi:i<3) (hj:j<3) (h:s3 k N i=s3 k N j):i=j:=by
 have h1:i=0\/i=1\/i=2:=by omega
 have h2:j=0\/j=1\/j=2:=by omega
 rcases h1 with rfl|rfl|rfl <;> rcases h2 with rfl|rfl|rfl <;> first|rfl|(simp [s3] at h)|(simp [s3] at h;omega)
theorem aim {f:FuncId} {vs vs' rs:List V} {O X:List UInt8} {v e:Nat} (h:∃ r m,WR O X [.rows 0 e rs] r m/\bK ak f vs (bM 129 v O [.rows 0 e rs]) r m) (B:bx) (l:List bx) (k:Nat) (hk:l[k]?=some (.rows 0 e rs)) (hv:vs.all (aQ 3)=true) (Pf:∀ N,uU (s3 k N) vs=vs') (ym:a6 3 (.rows 0 e rs)=true) :
  ∃ r m,WRL B O X l r m/\bK ak f vs' (B :: .ox 129 2 v O.length :: .pq 5 v O :: l) r m:=by
 obtain⟨r,m,⟨rfl,O',v',rfl,rfl⟩,h⟩:=h;refine⟨_,_,⟨rfl,_,v',rfl,rfl⟩,?_⟩;have h2:=h.LO (Uz B v O l) (s3 k (Uz B v O l).length) 3 rfl hv (by simp only [bM,cI,ym,ew,aJ];rfl) rfl (by simp only [bM,cI,ym,ew,aJ];rfl) (aA _) (fun i C hi=>?_) (adW k _) (fun j hj=>by unfold s3;rw [g5 (by omega),g5 (by omega),g5 (by omega)]);·rw [Pf] at h2;refine JO h2 ((ai _).trans ?_);show (((Uz B v O l).set 1 (.ox 129 2 v' (O++X).length)).set 2 (.pq 5 v' (O++X))).set (k+3) (DW (s3 k (Uz B v O l).length) (.rows 0 e rs))=_;show B :: .ox 129 2 v' (O++X).length :: .pq 5 v' (O++X) :: l.set k (.rows 0 e rs)=_;rw [tg hk];rfl
 match i,hi with|0,hi=>cases hi;rfl|1,hi=>cases hi;rfl|2,hi=>cases hi;exact hk|i+3,hi=>cases hi
structure MdK (m:Md):Prop where
 p:0<m.path.size
 il:m.imports.length<=1048576
 dl:m.decls.length<=1048576
 im:∀ x∈m.imports,0<x.path.size/\0<x.alias.size
 dk:∀ d∈m.decls,DcK d
section
attribute [local go_sem] DD aC
theorem Yc (m:Md) (hm:MdK m) (v:Nat) (O:List UInt8) (hO:O.length+(Bb nQ m).length<=34359738368):∃ r_ m_,(WR1 (.fZ []) (.box [str m.path,.slice (m.imports.map eI),.slice (m.decls.map ct)]) O (Bb nQ m)) r_ m_/\bK ak 52 [.ptr 1 0,.ptr 0 0] (DD (.box [str m.path,.slice (m.imports.map eI),.slice (m.decls.map ct)]) v O) r_ m_:=by
 refine ma [] 38 [] 3 Tryz.func52 Tryz.call52 fun K hK=>?_;simp only [DD];obtain⟨q1,pf⟩:=gz (m.imports.flatMap Ba);obtain⟨q2,mi⟩:=gz (m.decls.flatMap (fun d=>A9 (nQ d) d));have HB:Bb nQ m=[109,111,100,117,108,101,32]++(bt m.path++([10]++(q1++q2))):=by rw [<- pf,<- mi];unfold Bb;simp only [ay]
 have ec:=hO;rw [HB] at ec;simp only [ag,aj,ai,aN,ab,af,ah] at ec;have FO:=hm.il;have Du:=hm.dl;simp only [go_sem];refine cW (aim (cO [⟨#[109,111,100,117,108,101,32]⟩,m.path,⟨#[10]⟩] (by simp) (jz (by decide) (jz hm.p (jz (by decide) ml))) _ _ (by simp only [ag,aj,ai,aN,ab,af,ah];omega)) _ _ 0 rfl rfl (fun _=>rfl) rfl) ?_;rintro _ _ ⟨rfl,O1,v1,k7,rfl⟩;have oc:=yJ List.length k7;simp only [ag,aj,ai,aN,ab,af,ah] at oc;simp only [go_sem];refine ij tt_ok [] (fun a:Nat×Nat×List UInt8=>[(0,.ptr 1 0),(1,.ptr 0 0),(13,.slice (m.imports.map eI)),(14,num m.imports.length),(15,num a.1)]) (fun a:Nat×Nat×List UInt8=>DD (.box [str m.path,.slice (m.imports.map eI),.slice (m.decls.map ct)]) a.2.1 a.2.2) (fun a=>m.imports.length-a.1) (fun a=>a.1<=m.imports.length/\a.2.2=O++([109,111,100,117,108,101,32]++(bt m.path++([10]++(m.imports.take a.1).flatMap Ba)))) ((0,v1,O1)) 3 (da (by omega) (by simp only [Uz,bQ,go_sem] <;> rfl)) (⟨aY _,by rw [k7];simp only [dD,ag,aj,ai,aN,ay]⟩) ?_;clear k7 oc;rintro⟨i,va,Oa⟩ ⟨hi,lE⟩;try dsimp only at hi lE
 have uP:=yJ List.length lE;simp only [ag,aj,ai,aN,ab,af,ah] at uP;try dsimp only [DD]
 intro Z1 dm;simp only [go_sem];apply bE <;> intro iG;·have bH:=jq iG;have hw:=bj i (by omega);obtain⟨x,DA⟩:=gA bH;have hxm:=aw DA;(have bF:(i:Int)<(m.imports.length:Int):=by omega);have eW:=l5 Ba DA;have nX:=uD Ba m.imports (i+1);rw [eW,pf,ab] at nX;(have him:(Ba x).length=12+(bt x.path).length+(bt x.alias).length:=by unfold Ba;simp only [ag,aj,ai,aN,ab,af,ah];omega);simp only [hw,ae,DA,bF,eI,go_sem];refine cW (aim (cO [⟨#[105,109,112,111,114,116,32]⟩,x.path,⟨#[32,97,115,32]⟩,x.alias,⟨#[10]⟩] (by simp) (jz (by decide) (jz (hm.im x hxm).1 (jz (by decide) (jz (hm.im x hxm).2 (jz (by decide) ml))))) _ _ (by simp only [ag,aj,ai,aN,ab,af,ah];omega)) _ _ 1 rfl rfl (fun _=>rfl) rfl) ?_;rintro _ _ ⟨rfl,Oy,vy,jV,rfl⟩;simp only [hw,ae,DA,bF,eI,go_sem];refine dm _ ⟨(i+1,vy,Oy),?_,?_,da (by omega) (by simp only [hw,Uz,go_sem])⟩;(·exact⟨bH,by rw [eW,jV,lE];unfold Ba;simp only [dD,ag,aj,ai,aN,ay]⟩);dsimp only;omega
 have fP:=ki iG;have jx:i=m.imports.length:=by omega
 rw [jx,aE,pf] at lE;simp only [go_sem];refine ij tt_ok [] (fun a:Nat×Nat×List UInt8=>[(0,.ptr 1 0),(1,.ptr 0 0),(28,.slice (m.decls.map ct)),(29,num m.decls.length),(30,num a.1)]) (fun a:Nat×Nat×List UInt8=>DD (.box [str m.path,.slice (m.imports.map eI),.slice (m.decls.map ct)]) a.2.1 a.2.2) (fun a=>m.decls.length-a.1) (fun a=>a.1<=m.decls.length/\a.2.2=O++([109,111,100,117,108,101,32]++(bt m.path++([10]++(q1++(m.decls.take a.1).flatMap (fun d=>A9 (nQ d) d)))))) ((0,va,Oa)) 3 (da (by omega) (by simp only [Uz,bQ,go_sem] <;> rfl)) (⟨aY _,by rw [lE];simp only [dD,ag,aj,ai,aN,ay]⟩) ?_;rintro⟨j,vc,Oc⟩ ⟨hj,hOc⟩;try dsimp only at hj hOc
 have hlc:=yJ List.length hOc;simp only [ag,aj,ai,aN,ab,af,ah] at hlc;try dsimp only [DD]
 intro Z2 lR;simp only [go_sem];apply bE <;> intro Au;·have J6:=jq Au;have iR:=bj j (by omega);obtain⟨d,hd_⟩:=gA J6;have X7:=aw hd_;(have mg:(j:Int)<(m.decls.length:Int):=by omega);have eW:=l5 (fun d=>A9 (nQ d) d) hd_;have nX:=uD (fun d=>A9 (nQ d) d) m.decls (j+1);rw [eW,mi,ab] at nX;simp only [iR,ae,hd_,mg,ct,au,aH,ax,aB,aM,al,aq,go_sem];refine cW (anP (Ux d (hm.dk d X7) _ _ (by omega)) (by simp [aQ,bC]) (fun _=>rfl) _ _) ?_;rintro _ _ ⟨rfl,Oy,vy,jV,rfl⟩;simp only [iR,ae,hd_,mg,ct,au,aH,ax,aB,aM,al,aq,go_sem];refine lR _ ⟨(j+1,vy,Oy),?_,?_,da (by omega) (by simp only [iR,Uz,go_sem])⟩;(·exact⟨J6,by rw [eW,jV,hOc];simp only [dD,ag,aj,ai,aN,ay]⟩);dsimp only;omega
 have adH:=ki Au;have Wn:j=m.decls.length:=by omega
 rw [Wn,aE,mi] at hOc;simp only [go_sem];exact hK _ _ ⟨rfl,_,_,by rw [HB,hOc],rfl⟩
end
end
section
def VT (t:Ty):Prop:=Cn 41 [cA t] (str (bs t.pr))
theorem pj {t:Ty} (h:VT t):Cn 41 [.agg (tM t)] (str (bs t.pr)):=by unfold VT at h;simp only [aF,au,ax,aB] at h;exact h
theorem UA (a b:List UInt8):bs a++bs b=bs (a++b):=by apply avL;simp [bs]
theorem anQ:bs []=⟨#[]⟩:=rfl
theorem He (A B:List UInt8) (h:A.length+B.length<=68719476736) (x y:Operand):dy ak (oy .add 9 x y) (str (bs A)) (str (bs B))=some (str (bs (A++B))):=by rw [<- UA];exact wU ak 9 x y (bs A) (bs B) (by rw [nz,nz,show IntKind.i64.max=9223372036854775807 from rfl];omega)
class fH (A:List UInt8) (n:outParam Nat):Prop where
 h:A.length<=n*34359738368
class sx (s:g6):Prop where
 h:s.size<=34359738368
instance:fH [] 0:=⟨aY _⟩
instance {a:UInt8} {l:List UInt8} {n:Nat} [h:fH l n]:fH (a :: l) (n+1):=⟨by have:=h.h;rw [af];omega⟩
instance {A B:List UInt8} {n m:Nat} [h:fH A n] [g:fH B m]:fH (A++B) (n+m):=⟨by have:=h.h;have:=g.h;rw [ab];omega⟩
instance {s:g6} [h:sx s]:fH (bt s) 1:=⟨by rw [bA,Nat.one_mul];exact h.h⟩
theorem tV (l:List UInt8):(⟨List.toArray l⟩:g6)=bs l:=rfl
theorem o4 (A B:List UInt8) (x y:Operand) {n m:Nat} [h:fH A n] [g:fH B m] (hb:n+m<=1000):dy ak (oy .add 9 x y) (str (bs A)) (str (bs B))=some (str (bs (A++B))):=by have h1:=h.h;have h2:=g.h;rw [<- UA];exact wU ak 9 x y (bs A) (bs B) (by rw [nz,nz,show IntKind.i64.max=9223372036854775807 from rfl];omega)
theorem qR (A:List UInt8) (s:g6) (x y:Operand) {n:Nat} [fH A n] [sx s] (hb:n+1<=1000):dy ak (oy .add 9 x y) (str (bs A)) (str s)=some (str (bs (A++bt s))):=by have:=o4 A (bt s) x y hb;rwa [jL] at this
theorem qS (s:g6) (B:List UInt8) (x y:Operand) {n:Nat} [fH B n] [sx s] (hb:1+n<=1000):dy ak (oy .add 9 x y) (str s) (str (bs B))=some (str (bs (bt s++B))):=by have:=o4 (bt s) B x y hb;rwa [jL] at this
theorem ain {l:List Ty} {i:Nat} {u:Ty} (h:l[i]?=some u):jn [44,32] ((l.map Ty.pr).take (i+1))=jn [44,32] ((l.map Ty.pr).take i)++(if 0<i then [44,32] else [])++u.pr:=ov (by rw [ae,h];rfl)
section
attribute [local go_sem] aC tV o4 qR qS
theorem Fb (l:List Ty) (hl:l.length<=1048576) (hb:(jn [44,32] (l.map Ty.pr)).length<=34359738368) (hX:∀ u∈l,VT u):Cn 184 [.slice (l.map cA)] (str (bs (jn [44,32] (l.map Ty.pr)))):=by
 refine cM [] 23 [.tmp 2] Tryz.func184 Tryz.call184 fun K hK=>?_;simp only [go_sem];refine ij tt_ok [] (fun i:Nat=>[(0,.slice (l.map cA)),(3,str (bs (jn [44,32] ((l.map Ty.pr).take i)))),(4,num i)]) (fun i:Nat=>[]) (fun i=>l.length-i) (fun i=>i<=l.length) (0) 0 (da (by omega) (by simp only [dF,jn,bQ,go_sem] <;> rfl)) (aY _) ?_;intro i hi;intro Z1 dm;simp only [go_sem];apply bE <;> intro sB;·have bH:=jq sB;have hw:=bj i (by omega);obtain⟨u,dd⟩:=gA bH;(have bF:(i:Int)<(l.length:Int):=by omega);have eW:=ain dd;have nX:=vp [44,32] (l.map Ty.pr) (i+1);have eX:=nX;rw [eW] at eX;simp only [hw,ae,dd,bF,aF,au,ax,aB,go_sem];apply bE <;> intro x9;(·(have pH:0<i:=by have h0:(0:Int)<i:=(by simpa using x9);omega);rw [gH pH] at eW eX;simp only [ab,af,ah] at eX;have z1:fH (jn [44,32] ((l.map Ty.pr).take i)) 1:=⟨by omega⟩;have z2:fH u.pr 1:=⟨by omega⟩;simp only [hw,ae,dd,bF,aF,au,ax,aB,go_sem];refine cL (pj (hX u (aw dd))) ?_;simp only [hw,ae,dd,bF,aF,au,ax,aB,go_sem];refine dm _ ⟨i+1,?_,?_,da (by omega) (by simp only [hw,eW,go_sem])⟩;(·exact bH);omega);have pH:¬ 0<i:=fun h0=>(k9 x9) (by omega:(0:Int)<(i:Int));rw [g5 pH,ai] at eW eX;simp only [ab] at eX;have z1:fH (jn [44,32] ((l.map Ty.pr).take i)) 1:=⟨by omega⟩;have z2:fH u.pr 1:=⟨by omega⟩;simp only [hw,ae,dd,bF,aF,au,ax,aB,go_sem];refine cL (pj (hX u (aw dd))) ?_;simp only [hw,ae,dd,bF,aF,au,ax,aB,go_sem];refine dm _ ⟨i+1,?_,?_,da (by omega) (by simp only [hw,eW,go_sem])⟩;(·exact bH);omega
 have fP:=ki sB;have jx:i=l.length:=by omega
 rw [jx,b8 (qV (by rw [aC]))];simp only [go_sem];exact hK _ rfl
end
end
section
theorem adX (A:List UInt8) (s:g6) (h:A.length+s.size<=68719476736) (x y:Operand):dy ak (oy .add 9 x y) (str (bs A)) (str s)=some (str (bs (A++bt s))):=by have:=He A (bt s) (by rw [bA];exact h) x y;rwa [jL] at this
theorem aio {sp:List UInt8} {l:List Fd} {i:Nat} {u:Fd} (h:l[i]?=some u):jn sp ((l.map Fd.pr).take (i+1))=jn sp ((l.map Fd.pr).take i)++(if 0<i then sp else [])++u.pr:=ov (by rw [ae,h];rfl)
section
attribute [local go_sem] aC tV o4 qR qS
theorem wy (l:List Fd) (sp:List UInt8) (M0:sp.length<=8) (hl:l.length<=1048576) (hb:(jn sp (l.map Fd.pr)).length<=34359738368) (hX:∀ u∈l,VT u.ty):Cn 99 [.slice (l.map gZ),str (bs sp)] (str (bs (jn sp (l.map Fd.pr)))):=by
 refine cM [] 42 [.tmp 4] Tryz.func99 Tryz.call99 fun K hK=>?_;simp only [go_sem];refine ij tt_ok [] (fun i:Nat=>[(0,.slice (l.map gZ)),(1,str (bs sp)),(5,str (bs (jn sp ((l.map Fd.pr).take i)))),(6,num i)]) (fun i:Nat=>[]) (fun i=>l.length-i) (fun i=>i<=l.length) (0) 0 (da (by omega) (by simp only [dF,jn,bQ,go_sem] <;> rfl)) (aY _) ?_;intro i hi;intro Z1 dm;simp only [go_sem];apply bE <;> intro jf;·have bH:=jq jf;have hw:=bj i (by omega);obtain⟨u,dd⟩:=gA bH;(have bF:(i:Int)<(l.length:Int):=by omega);have eW:=aio (sp:=sp) dd;have nX:=vp sp (l.map Fd.pr) (i+1);have dX:=u.eS;have hlp:=yJ List.length dX;simp only [ab,af,ah,bA] at hlp;have eX:=nX;rw [eW] at eX;simp only [hw,ae,dd,bF,bL,au,ax,aB,al,aq,go_sem];apply bE <;> intro mG;(·(have pH:0<i:=by have h0:(0:Int)<i:=(by simpa using mG);omega);rw [gH pH] at eW eX;simp only [ab,af,ah] at eX;have z1:fH (jn sp ((l.map Fd.pr).take i)) 1:=⟨by omega⟩;have z2:fH sp 1:=⟨by omega⟩;have z3:sx u.name:=⟨by omega⟩;have z4:fH u.ty.pr 1:=⟨by omega⟩;simp only [hw,ae,dd,bF,bL,au,ax,aB,al,aq,go_sem];apply bE <;> intro ya;(·have Db:=dX;rw [gH (show u.opt=true from ya)] at Db;simp only [hw,ae,dd,bF,bL,au,ax,aB,al,aq,go_sem];refine cL (pj (hX u (aw dd))) ?_;simp only [hw,ae,dd,bF,bL,au,ax,aB,al,aq,go_sem];refine dm _ ⟨i+1,?_,?_,da (by omega) (by simp only [hw,eW,Db,ay,go_sem])⟩;(·exact bH);omega);have Db:=dX;rw [g5 (show ¬ u.opt=true by rw [ya];decide),ai] at Db;simp only [hw,ae,dd,bF,bL,au,ax,aB,al,aq,go_sem];refine cL (pj (hX u (aw dd))) ?_;simp only [hw,ae,dd,bF,bL,au,ax,aB,al,aq,go_sem];refine dm _ ⟨i+1,?_,?_,da (by omega) (by simp only [hw,eW,Db,ay,go_sem])⟩;(·exact bH);omega);have pH:¬ 0<i:=fun h0=>(k9 mG) (by omega:(0:Int)<(i:Int));rw [g5 pH,ai] at eW eX;simp only [ab] at eX;have z1:fH (jn sp ((l.map Fd.pr).take i)) 1:=⟨by omega⟩;have z2:sx u.name:=⟨by omega⟩;have z3:fH u.ty.pr 1:=⟨by omega⟩;simp only [hw,ae,dd,bF,bL,au,ax,aB,al,aq,go_sem];apply bE <;> intro ya;(·have Db:=dX;rw [gH (show u.opt=true from ya)] at Db;simp only [hw,ae,dd,bF,bL,au,ax,aB,al,aq,go_sem];refine cL (pj (hX u (aw dd))) ?_;simp only [hw,ae,dd,bF,bL,au,ax,aB,al,aq,go_sem];refine dm _ ⟨i+1,?_,?_,da (by omega) (by simp only [hw,eW,Db,ay,go_sem])⟩;(·exact bH);omega);have Db:=dX;rw [g5 (show ¬ u.opt=true by rw [ya];decide),ai] at Db;simp only [hw,ae,dd,bF,bL,au,ax,aB,al,aq,go_sem];refine cL (pj (hX u (aw dd))) ?_;simp only [hw,ae,dd,bF,bL,au,ax,aB,al,aq,go_sem];refine dm _ ⟨i+1,?_,?_,da (by omega) (by simp only [hw,eW,Db,ay,go_sem])⟩;(·exact bH);omega
 have fP:=ki jf;have jx:i=l.length:=by omega
 rw [jx,b8 (qV (by rw [aC]))];simp only [go_sem];exact hK _ rfl
end
end
section
def quL (M N:List UInt8) (l:List (List UInt8)):List UInt8:=(if M=[] then [] else M++[58,58])++N++(if l=[] then [] else [91]++jn [44,32] l++[93])
theorem UB (m n:g6) (l:List (List UInt8)):quL (bt m) (bt n) l=EZ m n l:=by
 unfold quL EZ;by_cases h:m=⟨#[]⟩;·subst h;rfl
 rw [g5 h,g5 (fun e=>h (by rw [<- jL m,e];rfl))]
theorem anR {l:List UInt8}:bs l=⟨#[]⟩↔l=[]:=⟨fun h=>by have:=yJ bt h;rwa [E5] at this,fun h=>by rw [h];rfl⟩
def arR:List V:=[str ⟨#[97,110,121]⟩,str ⟨#[110,111,110,101]⟩,str ⟨#[105,110,116]⟩,str ⟨#[98,111,111,108]⟩,str ⟨#[116,101,120,116]⟩]
theorem adZ {k:Int} (h0:0<=k) (h4:k<=4):∃ n:Nat,k=(n:Int)/\(n:Int)<((5:Nat):Int)/\arR[n]?=some (str (bs (ZO k))):=by
 have:k=0\/k=1\/k=2\/k=3\/k=4:=by omega
 rcases this with rfl|rfl|rfl|rfl|rfl
 ·exact⟨0,rfl,by decide,rfl⟩
 ·exact⟨1,rfl,by decide,rfl⟩
 ·exact⟨2,rfl,by decide,rfl⟩
 ·exact⟨3,rfl,by decide,rfl⟩
 exact⟨4,rfl,by decide,rfl⟩
section
attribute [local go_sem] aC cY tV o4 qR qS
theorem Kd (M N:List UInt8) (l:List Ty) (hM:M.length<=1048576) (hN:N.length<=1048576) (hl:l.length<=1048576) (hb:(jn [44,32] (l.map Ty.pr)).length<=34359738368) (hX:∀ u∈l,VT u):Cn 100 [str (bs M),str (bs N),.slice (l.map cA)] (str (bs (quL M N (l.map Ty.pr)))):=by
 refine cM [] 25 [.tmp 6] Tryz.func100 Tryz.call100 fun K hK=>?_;have z1:fH M 1:=⟨by omega⟩;have z2:fH N 1:=⟨by omega⟩;simp only [go_sem];apply bE <;> intro jf;·(have h1:¬ M=[]:=fun e=>by subst e;simp at jf);have z1:fH M 1:=⟨by omega⟩;have z2:fH N 1:=⟨by omega⟩;have z3:fH (jn [44,32] (l.map Ty.pr)) 1:=⟨by omega⟩;simp only [go_sem];apply bE <;> intro oq;(·(have h2:¬ l.map Ty.pr=[]:=fun e=>by rw [avY] at e;subst e;exact absurd oq (by decide));simp only [go_sem];refine cL (Fb l hl hb hX) ?_;simp only [go_sem];exact hK _ (yJ (fun l=>str (bs l)) (by unfold quL;simp [h1,h2])));have h2:l.map Ty.pr=[]:=avY.2 (dn (by have h3:=k9 oq;omega));simp only [go_sem];exact hK _ (yJ (fun l=>str (bs l)) (by unfold quL;simp [h1,h2]))
 have h_:bs M=bs []:=by simpa using jf
 have h1:M=[]:=anR.1 (h_.trans anQ);have z1:fH N 1:=⟨by omega⟩;have z2:fH (jn [44,32] (l.map Ty.pr)) 1:=⟨by omega⟩;simp only [go_sem];apply bE <;> intro oq;·(have h2:¬ l.map Ty.pr=[]:=fun e=>by rw [avY] at e;subst e;exact absurd oq (by decide));simp only [go_sem];refine cL (Fb l hl hb hX) ?_;simp only [go_sem];exact hK _ (yJ (fun l=>str (bs l)) (by unfold quL;simp [h1,h2]))
 have h2:l.map Ty.pr=[]:=avY.2 (dn (by have h3:=k9 oq;omega));simp only [go_sem];exact hK _ (yJ (fun l=>str (bs l)) (by unfold quL;simp [h1,h2]))
end
section
attribute [local go_sem] ax aB aC tV o4 qR qS
theorem MI (t:Ty) (ht:TyK t) (HB:t.mod.size<=1048576) (OU:t.name.size<=1048576) (hA:∀ u∈t.args,VT u) (hF:∀ x∈t.bT,VT x.ty) (hb:t.pr.length<=34359738368):Cn 41 [cA t] (str (bs t.pr)):=by
 refine cM [] 55 [.tmp 2] Tryz.func41 Tryz.call41 fun K hK=>?_;have dX:=t.eS;simp only [aF,au];simp only [go_sem];apply bE <;> intro Rb;·have h5:=qB Rb;rw [gH h5] at dX;obtain⟨a,r,ha⟩:=ht.hd (.inl h5);have hWa:=pj (hA a (by rw [ha];exact cP ..));(have hph:lj t.args=a.pr:=by rw [ha];rfl);rw [hph] at dX;have ec:=hb;rw [dX] at ec;simp only [ab,af,ah] at ec;have z1:fH a.pr 1:=⟨by omega⟩;simp only [ha,bo,aF,au,go_sem];refine cL (hWa) ?_;simp only [ha,bo,aF,au,go_sem];exact hK _ (yJ (fun l=>str (bs l)) (by first|(rw [dX];done)|(rw [dX];rfl)|(rw [dX,fe];done)|(rw [dX];simp)|(simp only [dX,fe];done)))
 have h5:=k9 Rb;rw [g5 h5] at dX;simp only [go_sem];apply bE <;> intro mG;·have h6:=qB mG;rw [gH h6] at dX;have ec:=hb;rw [dX] at ec;simp only [ab,af,ah] at ec;have hff:=wy t.bT [44,32] (by decide) ht.lf (by omega) hF;have z1:fH (jn [44,32] (t.bT.map Fd.pr)) 1:=⟨by omega⟩;simp only [go_sem];refine cL (hff) ?_;simp only [go_sem];exact hK _ (yJ (fun l=>str (bs l)) (by first|(rw [dX];done)|(rw [dX];rfl)|(rw [dX,fe];done)|(rw [dX];simp)|(simp only [dX,fe];done)))
 have h6:=k9 mG;rw [g5 h6] at dX;simp only [go_sem];apply bE <;> intro yQ;·have h7:=qB yQ;rw [gH h7] at dX;have ec:=hb;rw [dX] at ec;simp only [ab,af,ah] at ec;have hff:=wy t.bT [32,124,32] (by decide) ht.lf (by omega) hF;have z1:fH (jn [32,124,32] (t.bT.map Fd.pr)) 1:=⟨by omega⟩;simp only [go_sem];refine cL (hff) ?_;simp only [go_sem];exact hK _ (yJ (fun l=>str (bs l)) (by first|(rw [dX];done)|(rw [dX];rfl)|(rw [dX,fe];done)|(rw [dX];simp)|(simp only [dX,fe];done)))
 have h7:=k9 yQ;rw [g5 h7] at dX;simp only [go_sem];apply bE <;> intro y8;·have h8:=qB y8;rw [gH h8] at dX;obtain⟨a,r,ha⟩:=ht.hd (.inr h8);have hWa:=pj (hA a (by rw [ha];exact cP ..));(have hph:lj t.args=a.pr:=by rw [ha];rfl);rw [hph] at dX;have ec:=hb;rw [dX] at ec;simp only [ab,af,ah] at ec;have hff:=wy t.bT [44,32] (by decide) ht.lf (by omega) hF;have z1:fH (jn [44,32] (t.bT.map Fd.pr)) 1:=⟨by omega⟩;have z2:fH a.pr 1:=⟨by omega⟩;simp only [ha,bo,aF,au,go_sem];refine lr [pN,pR,pN,pN,pN,pN,pR,pR,pR,pN,pN,pN] 0 ?_;simp only [ha,bo,aF,au,go_sem];refine lQ (hff) ?_;simp only [ha,bo,aF,au,go_sem];refine lQ (hWa) ?_;simp only [ha,bo,aF,au,go_sem];exact hK _ (yJ (fun l=>str (bs l)) (by first|(rw [dX];done)|(rw [dX];rfl)|(rw [dX,fe];done)|(rw [dX];simp)|(simp only [dX,fe];done)))
 have h8:=k9 y8;rw [g5 h8] at dX;simp only [go_sem];apply bE <;> intro GG;·have sZ:=qB GG;rw [gH sZ] at dX;have ec:=hb;rw [dX] at ec;(have hqb:(jn [44,32] (t.args.map Ty.pr)).length<=34359738368:=by unfold EZ at ec;simp only [ab] at ec;by_cases he:t.args.map Ty.pr=[];rw [he];decide;rw [g5 he] at ec;simp only [ab,af,ah] at ec;omega);have hqu:=Kd (bt t.mod) (bt t.name) t.args (by rw [bA];exact HB) (by rw [bA];exact OU) ht.la hqb hA;rw [jL,jL,UB] at hqu;simp only [go_sem];refine cL (hqu) ?_;simp only [go_sem];exact hK _ (yJ (fun l=>str (bs l)) (by first|(rw [dX];done)|(rw [dX];rfl)|(rw [dX,fe];done)|(rw [dX];simp)|(simp only [dX,fe];done)))
 have sZ:=k9 GG;rw [g5 sZ] at dX;obtain⟨kn,fe,hk5,Ok⟩:=adZ ht.k0 (by have h1:=ht.k1;omega);unfold arR at Ok;simp only [tV] at Ok;rw [fe] at Rb mG yQ y8 GG ⊢;simp only [Ok,hk5,fe,go_sem];exact hK _ (yJ (fun l=>str (bs l)) (by first|(rw [dX];done)|(rw [dX];rfl)|(rw [dX,fe];done)|(rw [dX];simp)|(simp only [dX,fe];done)))
end
end
theorem dg0 (hG:bJ.g=some 0):dz ak 202 [num 0] (str ⟨#[48]⟩):=cB bG (cq hG) 200 kr
theorem dg1 (hG:bJ.g=some 0):dz ak 202 [num (-1)] (str ⟨#[49]⟩):=cB bG (cq hG) 200 kr
theorem dg2 (hG:bJ.g=some 0):dz ak 202 [num (-2)] (str ⟨#[50]⟩):=cB bG (cq hG) 200 kr
theorem dg3 (hG:bJ.g=some 0):dz ak 202 [num (-3)] (str ⟨#[51]⟩):=cB bG (cq hG) 200 kr
theorem dg4 (hG:bJ.g=some 0):dz ak 202 [num (-4)] (str ⟨#[52]⟩):=cB bG (cq hG) 200 kr
theorem dg5 (hG:bJ.g=some 0):dz ak 202 [num (-5)] (str ⟨#[53]⟩):=cB bG (cq hG) 200 kr
theorem dg6 (hG:bJ.g=some 0):dz ak 202 [num (-6)] (str ⟨#[54]⟩):=cB bG (cq hG) 200 kr
theorem dg7 (hG:bJ.g=some 0):dz ak 202 [num (-7)] (str ⟨#[55]⟩):=cB bG (cq hG) 200 kr
theorem dg8 (hG:bJ.g=some 0):dz ak 202 [num (-8)] (str ⟨#[56]⟩):=cB bG (cq hG) 200 kr
theorem dg9 (hG:bJ.g=some 0):dz ak 202 [num (-9)] (str ⟨#[57]⟩):=cB bG (cq hG) 200 kr
def DgV (u:Nat):Prop:=Cn 202 [num (-(u:Int))] (str (bs (Lib.decDigits u)))
theorem UC (P:g7) (T:g9) (x y:Operand) (k:IntKind) (a b:Int) (hb:b≠0):dy P (oy .rem T x y) (.sc (.int k a)) (.sc (.int k b))=some (.sc (.int k (a.tmod b))):=by simp [dy,fq,oy,binOp,Op.intDiv,eqGuard,dL,j6,bind,pure,Sem.bind,hb]
theorem UD {u:Nat} (h:10<=u):Lib.decDigits u=Lib.decDigits (u / 10)++Lib.decDigits (u % 10):=by
 conv=>lhs;rw [Lib.decDigits,dif_neg (by omega:¬ u<10)]
 congr 1;rw [Lib.decDigits,dif_pos (avF _ (by decide))]
theorem Dd (u:Nat) (h:u<=9223372036854775808):(Lib.decDigits u).length<=20:=by rw [Lib.decDigits_length];have:=Lib.nDigits_le20 u;omega
theorem Wd {u:Nat} {b:g6} {n:Int} (h:dz ak 202 [num n] (str b)) (e:bs (Lib.decDigits u)=b) (en:n = -(u:Int):=by rfl):DgV u:=by subst en;exact⟨_,rfl,by rw [e];exact h⟩
theorem UE (hG:bJ.g=some 0) {u:Nat} (h:u<10):DgV u:=by
 have:u=0\/u=1\/u=2\/u=3\/u=4\/u=5\/u=6\/u=7\/u=8\/u=9:=by omega
 rcases this with rfl|rfl|rfl|rfl|rfl|rfl|rfl|rfl|rfl|rfl
 ·exact Wd (dg0 hG) (by rw [Lib.decDigits,dif_pos (by decide)];rfl)
 ·exact Wd (dg1 hG) (by rw [Lib.decDigits,dif_pos (by decide)];rfl)
 ·exact Wd (dg2 hG) (by rw [Lib.decDigits,dif_pos (by decide)];rfl)
 ·exact Wd (dg3 hG) (by rw [Lib.decDigits,dif_pos (by decide)];rfl)
 ·exact Wd (dg4 hG) (by rw [Lib.decDigits,dif_pos (by decide)];rfl)
 ·exact Wd (dg5 hG) (by rw [Lib.decDigits,dif_pos (by decide)];rfl)
 ·exact Wd (dg6 hG) (by rw [Lib.decDigits,dif_pos (by decide)];rfl)
 ·exact Wd (dg7 hG) (by rw [Lib.decDigits,dif_pos (by decide)];rfl)
 ·exact Wd (dg8 hG) (by rw [Lib.decDigits,dif_pos (by decide)];rfl)
 exact Wd (dg9 hG) (by rw [Lib.decDigits,dif_pos (by decide)];rfl)
theorem QG (u:Nat) (hu:u<=9223372036854775808) (sZ:10<=u) (h1:DgV (u / 10)) (h2:DgV (u % 10)):Cn 202 [num (-(u:Int))] (str (bs (Lib.decDigits u))):=by
 refine cM [] 17 [.tmp 2] Tryz.func202 Tryz.call202 fun K hK=>?_;have pf:(-(u:Int)).tdiv 10 = -((u / 10:Nat):Int):=by rw [Int.neg_tdiv];rfl
 have hm1:(-(u:Int)).tmod 10 = -((u % 10:Nat):Int):=by rw [Int.neg_tmod];rfl
 have hq:∀ x y,dy ak (oy .quo 3 x y) (num (-(u:Int))) (num 10)=some (num (-((u / 10:Nat):Int))):=fun x y=>by rw [SB _ _ _ _ _ _ _ (by decide),pf,IntWalk.i64_in _ (by omega)]
 have hm:∀ x y,dy ak (oy .rem 3 x y) (num (-(u:Int))) (num 10)=some (num (-((u % 10:Nat):Int))):=fun x y=>by rw [UC _ _ _ _ _ _ _ (by decide),hm1]
 have l1:=Dd (u / 10) (by omega);have l2:=Dd (u % 10) (by omega);have c1:=He (Lib.decDigits (u / 10)) (Lib.decDigits (u % 10)) (by omega);simp only [hq,hm,c1,go_sem];apply bE <;> intro hc4;·exact absurd (qB hc4) (by omega)
 simp only [hq,hm,c1,go_sem];refine cL (h1) ?_;simp only [hq,hm,c1,go_sem];refine cL (h2) ?_;simp only [hq,hm,c1,go_sem];exact hK _ (by rw [UD sZ])
theorem Be (hG:bJ.g=some 0):∀ (N u:Nat),u<=N->u<=9223372036854775808->DgV u
 | 0,u,h,_=>UE hG (by omega)
 | N+1,u,h,hu=>by
  by_cases sZ:u<10
  ·exact UE hG sZ
  exact QG u hu (by omega) (Be hG N (u / 10) (by omega) (by omega)) (Be hG N (u % 10) (by omega) (by omega))
theorem Yd (hG:bJ.g=some 0) (n:Int) (h0 : -9223372036854775808<=n) (h1:n<=9223372036854775807):Cn 122 [num n] (str (bs (Lib.itoa n))):=by
 refine cM [] 11 [.tmp 2] Tryz.func122 Tryz.call122 fun K hK=>?_;have lm:(⟨#[45]⟩:g6)=bs [45]:=rfl;simp only [lm,go_sem];apply bE <;> intro hc4;·(have hn:n<0:=by simpa using hc4);have Ji:=Be hG _ n.natAbs (aA _) (by omega);unfold DgV at Ji;rw [show -((n.natAbs:Nat):Int)=n by omega] at Ji;have l1:=Dd n.natAbs (by omega);have c1:=He [45] (Lib.decDigits n.natAbs) (by simp only [af,ah];omega);simp only [dD] at c1;simp only [c1,lm,go_sem];refine cL (Ji) ?_;simp only [c1,lm,go_sem];exact hK _ (by unfold Lib.itoa;simp [hn])
 have hn:¬ n<0:=by simpa using hc4
 have Ji:=Be hG _ n.toNat (aA _) (by omega);unfold DgV at Ji;rw [show -((n.toNat:Nat):Int) = -n by omega] at Ji;have hw:IntKind.i64.wrap (0-n) = -n:=by rw [IntWalk.i64_in _ (by omega)];omega
 have ais:qt ak (Op.unary .neg) (num n)=some (num (-n)):=by rw [abE,hw]
 simp only [ais,lm,go_sem];refine cL (Ji) ?_;simp only [ais,lm,go_sem];exact hK _ (by unfold Lib.itoa;simp [hn])
section
theorem yb:∀ l:List UInt8,kz (jB l)=some (l.map fun b=>(b.toNat:Int))
 | []=>rfl
 | b :: r=>by
  show (match kz (jB r) with|some l=>some ((b.toNat:Int) :: l)|none=>none)=_
  rw [yb r];rfl
theorem QH (l:List UInt8):strOfNums (l.map fun b=>(b.toNat:Int))=bs l:=by
 unfold strOfNums bs;rw [avP];congr 2;conv=>rhs;rw [<- List.map_id l]
 exact AF fun b _=>by simp
theorem UF {mem:List bx} {b v:Nat} (l:List UInt8) (h:mem[b]?=some (.rows v 1 (jB l))):rY ak mem 125 9 (.ms b v 0 l.length)=some (str (bs l)):=by
 have hs:ak.underlying 125=some (.slice 5):=kr;have he:ak.underlying 5=some (.int .u8):=kr;have hd:ak.underlying 9=some .string:=kr;have hl:(jB l).length=l.length:=by simp [jB]
 have ht:((jB l).drop 0).take l.length=jB l:=b8 (by simp [jB]);simp only [rY,h,true_and,hl,dc,aA,if_true,ht,qb,hs,he,hd,yb,QH]
theorem ait (c:UInt8):IntKind.u8.wrap ((c.toNat:Int).tdiv 16)=((c / 16).toNat:Int):=by
 have h:∀ n:Fin 256,IntKind.u8.wrap ((n.val:Int).tdiv 16)=((n.val / 16:Nat):Int):=by decide +kernel
 rw [h ⟨c.toNat,c.toNat_lt⟩,avS];rfl
theorem aiu (c:UInt8):(c.toNat:Int).tmod 16=((c % 16).toNat:Int):=by
 have h:∀ n:Fin 256,(n.val:Int).tmod 16=((n.val % 16:Nat):Int):=by decide +kernel
 rw [h ⟨c.toNat,c.toNat_lt⟩,avT];rfl
section
attribute [local go_sem] af ah dc
theorem Fc (s:g6) (hs:s.size<=1048576):Cn 123 [str s] (str (bs (Dy s))):=by
 refine cM [] 57 [.tmp 2] Tryz.func123 Tryz.call123 fun K hK=>?_;have rJ:ak.underlying 9=some .string:=Tryz.underlying9;have sl:=zY;have bl_:=bA s;have BC:∀ x:Int,iM [V.sc (.int .u8 x)] 0 1=true:=fun x=>rfl;have Dv:∀ x y:Int,iM [V.sc (.int .u8 x),V.sc (.int .u8 y)] 0 1=true:=fun x y=>rfl;have F3:∀ x y z u:Int,iM [V.sc (.int .u8 x),V.sc (.int .u8 y),V.sc (.int .u8 z),V.sc (.int .u8 u)] 0 1=true:=fun x y z u=>rfl;have Ke:∀ l:List UInt8,(jB l).length=l.length:=fun l=>by simp [jB]
 have t92:((92:UInt8).toNat:Int)=92:=rfl;have t110:((110:UInt8).toNat:Int)=110:=rfl;have t120:((120:UInt8).toNat:Int)=120:=rfl;simp only [sl,BC,Dv,F3,Ke,go_sem];refine ij tt_ok [] (fun a:Nat×List UInt8=>[(0,str s),(3,str ⟨#[48,49,50,51,52,53,54,55,56,57,97,98,99,100,101,102]⟩),(4,.ms 0 a.1 0 a.2.length),(5,num a.1)]) (fun a:Nat×List UInt8=>[.rows a.1 1 (jB a.2)]) (fun a=>s.size-a.1) (fun a=>a.1<=s.size/\a.2=34 :: ((bt s).take a.1).flatMap A8) ((0,[34])) 1 (da (by omega) (by simp only [sl,BC,Dv,F3,Ke,jB,bo,dR,bQ,go_sem] <;> rfl)) (⟨aY _,by simp⟩) ?_;rintro⟨i,Oa⟩ ⟨hi,lE⟩;try dsimp only at hi lE
 have uP:=yJ List.length lE;have hqf:=GZ ((bt s).take i);rw [eK] at hqf;rw [af] at uP;try dsimp only
 have j8:Oa.length+1<=34359738368:=by omega
 have nD:Oa.length+2<=34359738368:=by omega
 have o3:Oa.length+4<=34359738368:=by omega
 intro Z1 dm;simp only [sl,BC,Dv,F3,Ke,go_sem];apply bE <;> intro ql;·have bH:=jq ql;have hw:=bj i (by omega);obtain⟨c,hc⟩:=er (s:=s) (i:=i) bH;have ic:=eM (P:=ak) s rJ .i64 (i:Int) (by omega) (c:=c) (by rw [gx];exact hc);have eW:=l5 A8 (ZX hc);(have QI:∀ x y,dy ak (oy .quo 5 x y) (.sc (.int .u8 (c.toNat:Int))) (.sc (.int .u8 16))=some (.sc (.int .u8 ((c / 16).toNat:Int))):=fun x y=>by rw [SB _ _ _ _ _ _ _ (by decide),ait]);(have ug:∀ x y,dy ak (oy .rem 5 x y) (.sc (.int .u8 (c.toNat:Int))) (.sc (.int .u8 16))=some (.sc (.int .u8 ((c % 16).toNat:Int))):=fun x y=>by rw [UC _ _ _ _ _ _ _ (by decide),aiu]);have nS:=XP (c / 16) (by rw [avS];have:=c.toNat_lt;show c.toNat / 16<16;omega);have ob:=XP (c % 16) (by rw [avT];show c.toNat % 16<16;omega);simp only [hw,ic,QI,ug,nS,ob,j8,nD,o3,sl,BC,Dv,F3,Ke,go_sem];apply bE <;> intro Kf;(·have hq:=NZ (c:=c) (by first|exact .inl (qB Kf)|exact .inr (qB Hf));simp only [hw,ic,QI,ug,nS,ob,j8,nD,o3,sl,BC,Dv,F3,Ke,go_sem];refine dm _ ⟨(i+1,Oa++A8 c),?_,?_,da (by omega) (by (simp only [hw,hq,jB,t92,t110,t120,fa,bo,dR,ab,go_sem] <;> simp [a6,aQ]))⟩;(·exact⟨bH,by dsimp only;rw [eW,lE];rfl⟩);dsimp only;omega);simp only [hw,ic,QI,ug,nS,ob,j8,nD,o3,sl,BC,Dv,F3,Ke,go_sem];apply bE <;> intro Hf;(·have hq:=NZ (c:=c) (by first|exact .inl (qB Kf)|exact .inr (qB Hf));simp only [hw,ic,QI,ug,nS,ob,j8,nD,o3,sl,BC,Dv,F3,Ke,go_sem];refine dm _ ⟨(i+1,Oa++A8 c),?_,?_,da (by omega) (by (simp only [hw,hq,jB,t92,t110,t120,fa,bo,dR,ab,go_sem] <;> simp [a6,aQ]))⟩;(·exact⟨bH,by dsimp only;rw [eW,lE];rfl⟩);dsimp only;omega);simp only [hw,ic,QI,ug,nS,ob,j8,nD,o3,sl,BC,Dv,F3,Ke,go_sem];apply bE <;> intro y8;(·have hq:=ZV (c:=c) (qB y8);simp only [hw,ic,QI,ug,nS,ob,j8,nD,o3,sl,BC,Dv,F3,Ke,go_sem];refine dm _ ⟨(i+1,Oa++A8 c),?_,?_,da (by omega) (by (simp only [hw,hq,jB,t92,t110,t120,fa,bo,dR,ab,go_sem] <;> simp [a6,aQ]))⟩;(·exact⟨bH,by dsimp only;rw [eW,lE];rfl⟩);dsimp only;omega);simp only [hw,ic,QI,ug,nS,ob,j8,nD,o3,sl,BC,Dv,F3,Ke,go_sem];apply bE <;> intro MJ;(·simp only [hw,ic,QI,ug,nS,ob,j8,nD,o3,sl,BC,Dv,F3,Ke,go_sem];apply bE <;> intro PO;(·have hq:=ZW (c:=c) (k9 Kf) (k9 Hf) (qB MJ) (qB PO);simp only [hw,ic,QI,ug,nS,ob,j8,nD,o3,sl,BC,Dv,F3,Ke,go_sem];refine dm _ ⟨(i+1,Oa++A8 c),?_,?_,da (by omega) (by (simp only [hw,hq,jB,t92,t110,t120,fa,bo,dR,ab,go_sem] <;> simp [a6,aQ]))⟩;(·exact⟨bH,by dsimp only;rw [eW,lE];rfl⟩);dsimp only;omega);have hq:=N0 (c:=c) (k9 Kf) (k9 Hf) (k9 y8) (by first|exact fun h_=>(k9 MJ) h_.1|exact fun h_=>(k9 PO) h_.2);simp only [hw,ic,QI,ug,nS,ob,j8,nD,o3,sl,BC,Dv,F3,Ke,go_sem];refine lr [pN,pN,pN,pN,pN,pN,pN,pN,pN,pN,⟨.w,0,[],[],[]⟩,pN] 1 ?_;simp only [hw,ic,QI,ug,nS,ob,j8,nD,o3,sl,BC,Dv,F3,Ke,go_sem];refine dm _ ⟨(i+1,Oa++A8 c),?_,?_,da (by omega) (by (simp only [hw,hq,jB,t92,t110,t120,fa,bo,dR,ab,go_sem] <;> simp [a6,aQ]))⟩;(·exact⟨bH,by dsimp only;rw [eW,lE];rfl⟩);dsimp only;omega);have hq:=N0 (c:=c) (k9 Kf) (k9 Hf) (k9 y8) (by first|exact fun h_=>(k9 MJ) h_.1|exact fun h_=>(k9 PO) h_.2);simp only [hw,ic,QI,ug,nS,ob,j8,nD,o3,sl,BC,Dv,F3,Ke,go_sem];refine lr [pN,pN,pN,pN,pN,pN,pN,pN,pN,pN,⟨.w,0,[],[],[]⟩,pN] 1 ?_;simp only [hw,ic,QI,ug,nS,ob,j8,nD,o3,sl,BC,Dv,F3,Ke,go_sem];refine dm _ ⟨(i+1,Oa++A8 c),?_,?_,da (by omega) (by (simp only [hw,hq,jB,t92,t110,t120,fa,bo,dR,ab,go_sem] <;> simp [a6,aQ]))⟩;(·exact⟨bH,by dsimp only;rw [eW,lE];rfl⟩);dsimp only;omega
 have fP:=ki ql;have jx:i=s.size:=by omega
 rw [jx,<- bl_,aE] at lE;have Q9:∀ mem:List bx,mem[0]?=some (.rows (i+1) 1 (jB Oa++[V.sc (.int .u8 34)]))->rY ak mem 125 9 (.ms 0 (i+1) 0 (Oa.length+1))=some (str (bs (Oa++[34]))):=fun mem hm=>by have h:=UF (b:=0) (v:=i+1) (Oa++[34]) (mem:=mem) (by rw [hm];simp [jB]);rw [<- h,ab];rfl
 simp only [Q9,j8,ab,sl,BC,Dv,F3,Ke,go_sem];exact hK _ (by rw [lE];rfl)
end
end
theorem yc:dH ⟨#[]⟩=false:=by cases h:dH ⟨#[]⟩ with|false=>rfl|true=>exact absurd kr (fun h2:dH ⟨#[]⟩=false=>by rw [h] at h2;cases h2)
theorem aiv {u:Ty} (h:pd u=0):u.kind=10\/u.mod=⟨#[]⟩:=by
 unfold pd at h;split at h;·cases h
 rename_i hs;have hs:L8 u=true:=by simpa using hs
 by_cases hk:u.kind=10;·exact .inl hk
 right;unfold L8 at hs;rw [g5 hk] at hs;have he:jI u.mod=true:=by (repeat' split at hs);(all_goals (simp only [aG,aO] at hs));all_goals first|exact hs.2.1.1.1|exact hs.2.1.1|exact hs.2.1|(cases hs;done)
 exact qB he
theorem De {α:Type} {p q:α->Bool}:∀ {l:List α},(∀ x∈l,p x=q x)->l.all p=l.all q
 | [],_=>rfl
 | x :: r,h=>by rw [cI,cI,h x (cP ..),De fun y hy=>h y (bZ _ hy)]
theorem UG {t:Ty} (h:eZ t=true):kN t=true:=by
 simp only [eZ,aG,decide_eq_true_eq] at h;obtain⟨⟨⟨⟨h0,hm⟩,-⟩,ha⟩,hf⟩:=h;have hm:t.mod=⟨#[]⟩:=qB hm;have hp:t.parts=[]:=by unfold Ty.parts;rw [dn ha,dn hf];rfl
 rw [Ug,hp,h0,hm,yc];rfl
theorem k17 {k:Int} (h:0<=k/\k<=16):k=0\/k=1\/k=2\/k=3\/k=4\/k=5\/k=6\/k=7\/k=8\/k=9\/k=10\/k=11\/k=12\/k=13\/k=14\/k=15\/k=16:=by omega
theorem anT {k:Int} {f:Fo} (h:kI k=some f) (h4:k≠4):me f.fl ⟨#[109]⟩=false:=by rcases k17 (uJ h) with rfl|rfl|rfl|rfl|rfl|rfl|rfl|rfl|rfl|rfl|rfl|rfl|rfl|rfl|rfl|rfl|rfl <;> first|(exact absurd rfl h4)|(cases h;kernel_rfl)
theorem anU {k:Int} {f:Fo} (h:kI k=some f) (h8:k≠8):me f.fl ⟨#[116]⟩=false:=by rcases k17 (uJ h) with rfl|rfl|rfl|rfl|rfl|rfl|rfl|rfl|rfl|rfl|rfl|rfl|rfl|rfl|rfl|rfl|rfl <;> first|(exact absurd rfl h8)|(cases h;kernel_rfl)
theorem Ol {u:Ex} {f:Fo} (ok:qm u f) (h4:u.kind≠4):u.mod=⟨#[]⟩:=TG (ok.em (anT ok.form h4))
theorem aaq {x:Ex} (hc:sg x=0) (hs:sj x=true):∀ u∈x.nodes,dH u.mod=false:=by
 intro u hu;obtain⟨f,ok⟩:=uI ((QC hc).2 u hu);by_cases h4:u.kind=4;·have:=(MF hs u hu).1;simp only [plN,h4,decide_true,aL,eH] at this;exact this.1
 rw [Ol ok h4];exact yc
theorem Kg {x:Ex} (hc:sg x=0) (hs:sj x=true) (hr:C7 x):x.pr.length+71<=158*x.size+4*x.rS :=
 Ex.oF _ x (aA _) fun u hu=>⟨(QC hc).2 u hu,(hr u hu).1,(hr u hu).2,aaq hc hs u hu⟩
theorem tW {t:Ty} (hc:j0 t=0):t.pr.length+40<=144*t.size:=Ty.oF _ t (aA _) (C5 hc).2
theorem y9 {α:Type} {g h:α->Nat}:∀ {l:List α},(∀ a∈l,g a<=h a)->aU g l<=aU h l
 | [],_=>aA _
 | a :: r,hle=>by
  have h1:=hle a (cP ..)
  have h2:=y9 (l:=r) fun b hb=>hle b (bZ _ hb)
  simp only [aU];omega
theorem ng:∀ (N:Nat) (x:Ex),x.size<=N->x.rS<=x.wt
 | 0,x,h=>absurd x.size_pos (by omega)
 | N+1,x,h=>by
  have h1:=x.oE
  have h2:=x.G9
  have h3:=x.fF
  have h4:aU Ex.rS x.kids<=aU Ex.wt x.kids:=y9 fun k hk=>ng N k (by
   obtain⟨i,hi⟩:=br.1 hk
   have:=bX Ex.size hi
   omega)
  omega
theorem MK {t:Ty} (h1:j0 t=0) (h2:kN t=true):t.pr≠[]/\t.pr.length<=34359738368/\WT t:=by have:=tW h1;have:=(C5 h1).1;exact⟨Ty.Us (ME ((C5 h1).2 t t.iL) (Hb h2 t t.iL).1),by omega,rT h1 h2⟩
theorem UH (hP:bJ.uO 1=some jg) {x:Ex} (hw:x.wt<=1048576) (hr:C7 x) (h1:sg x=0) (h2:sj x=true):x.pr≠[]/\x.pr.length<=34359738368/\WX x:=by have:=Kg h1 h2 hr;have:=(QC h1).1;have:=ng _ x (aA _);exact⟨Ex.Us (Hc h1 h2 hw hr x x.iL),by omega,Uu hP h1 h2 hw hr⟩
def KN (s:g6):Int×Int×Int :=
 if s=⟨#[111,114]⟩ then (1,1,2) else if s=⟨#[97,110,100]⟩ then (2,2,3) else if s=⟨#[110,111,116]⟩ then (3,3,0)
 else if s=⟨#[61,61]⟩\/s=⟨#[61,61,61]⟩\/s=⟨#[60]⟩ then (4,5,5) else if s=⟨#[42]⟩ then (6,6,7) else if s=⟨#[108,101,110,103,116,104]⟩ then (7,7,0) else (5,5,6)
theorem Hg {s:g6} (h:Ac s≠0):KN s=Av s:=by
 have hm:s∈uX\/s∈wi:=by unfold Ac at h;by_cases h1:qk s uX=true;(·left;simpa [qk] using h1);rw [g5 h1] at h;by_cases h2:qk s wi=true;(·right;simpa [qk] using h2);rw [g5 h2] at h;exact absurd rfl h
 have key:∀ s∈uX++wi,KN s=Av s:=by decide +kernel
 exact key s (ey.2 hm)
def Rc (x:Ex):Int :=
 if x.kind=10\/x.kind=12\/x.kind=13\/x.kind=15\/x.kind=8 then 0 else if x.kind=16 then (KN x.name).1
 else if x.kind=6\/x.kind=9 then 8 else if x.kind=0/\x.num<0 then 7 else 9
theorem Ye {x:Ex} (h:x.kind=16->Ac x.name≠0):Rc x=x.lvl:=by
 unfold Rc Ex.lvl;by_cases hk:x.kind=16;·rw [Hg (h hk)]
 simp only [hk,if_false]
theorem Df (s:g6):Cn 204 [str s] (.fZ [num (KN s).1,num (KN s).2.1,num (KN s).2.2]):=by refine cM [] 25 [.tmp 2,.tmp 3,.tmp 4] Tryz.func204 Tryz.call204 fun K hK=>?_;repeat' (simp only [cY,go_sem];first|apply bE <;> intro hg|(exact hK _ (by simp_all [KN])))
theorem QJ (x:Ex):Cn 203 [ca x] (num (Rc x)):=by refine cM [] 35 [.tmp 2] Tryz.func203 Tryz.call203 fun K hK=>?_;simp only [aS,aH];repeat' (simp only [go_sem];first|apply bE <;> intro hg|refine cL (Df x.name) ?_|(exact hK _ (by simp_all [Rc])))
section
def XV (x:Ex):Prop:=Cn 47 [ca x] (str (bs x.pr))
theorem ow {x:Ex} (h:XV x):Cn 47 [.agg (xM x)] (str (bs x.pr)):=by unfold XV at h;simp only [aS,aH,ax,aM] at h;exact h
theorem aiw (x:Ex):Cn 203 [.agg (xM x)] (num (Rc x)):=by have h:=QJ x;simp only [aS,aH,ax,aM] at h;exact h
def Yf (ls:List Lb) (ks:List Ex):List (List UInt8):=List.zipWith (fun l p=>bt l.name++[58,32]++p) ls (ks.map Ex.pr)
theorem ad2 {ls:List Lb} {ks:List Ex} {i:Nat} {l:Lb} {k:Ex} (h1:ls[i]?=some l) (h2:ks[i]?=some k):(Yf ls ks)[i]?=some (bt l.name++[58,32]++k.pr):=by unfold Yf;rw [awg,h1,ae,h2];rfl
theorem Yg {ls:List Lb} {ks:List Ex} (h:ls.length=ks.length):(Yf ls ks).length=ls.length:=by unfold Yf;rw [aa2,aC,h,Nat.min_self]
section
attribute [local go_sem] tV o4 qR qS
theorem UI (x:Ex) (least:Int) (hl:Rc x=x.lvl) (hb:x.pr.length<=34359738368) (hX:XV x):Cn 125 [ca x,num least] (str (bs (ku x.lvl least x.pr))):=by
 refine cM [] 15 [.tmp 4] Tryz.func125 Tryz.call125 fun K hK=>?_;have hlv:=aiw x;rw [hl] at hlv;have hXc:=ow hX;have z1:fH x.pr 1:=⟨by omega⟩;simp only [aS,aH,ax,aM];simp only [go_sem];refine cL (hlv) ?_;simp only [go_sem];apply bE <;> intro sB;·(have hq:¬ least<=x.lvl:=by have:=qB sB;omega);simp only [go_sem];refine cL (hXc) ?_;simp only [go_sem];exact hK _ (yJ (fun l=>str (bs l)) (by unfold ku;simp [hq]))
 have hq:least<=x.lvl:=by have:=k9 sB;omega
 simp only [go_sem];refine cL (hXc) ?_;simp only [go_sem];exact hK _ (yJ (fun l=>str (bs l)) (by unfold ku;simp [hq]))
end
section
attribute [local go_sem] aC tV o4 qR qS
theorem Fe (ls:List Lb) (ks:List Ex) (hlen:ls.length=ks.length) (hl:ls.length<=1048576) (hb:(NU ls (ks.map Ex.pr)).length<=34359738368) (hX:∀ k∈ks,XV k):Cn 124 [.slice (ls.map cr),.slice (ks.map ca)] (str (bs (NU ls (ks.map Ex.pr)))):=by
 refine cM [] 32 [.tmp 4] Tryz.func124 Tryz.call124 fun K hK=>?_;have hgs:NU ls (ks.map Ex.pr)=jn [44,32] (Yf ls ks):=rfl;have hgl:=Yg hlen;rw [hgs] at hb hK;simp only [go_sem];refine ij tt_ok [] (fun i:Nat=>[(0,.slice (ls.map cr)),(1,.slice (ks.map ca)),(5,str (bs (jn [44,32] ((Yf ls ks).take i)))),(6,num i)]) (fun i:Nat=>[]) (fun i=>ls.length-i) (fun i=>i<=ls.length) (0) 0 (da (by omega) (by simp only [dF,jn,bQ,go_sem] <;> rfl)) (aY _) ?_;intro i hi;intro Z1 dm;simp only [go_sem];apply bE <;> intro jf;·have bH:=jq jf;have hw:=bj i (by omega);obtain⟨l,dd⟩:=gA bH;obtain⟨k,jm⟩:=gB ks i (by omega);(have bF:(i:Int)<(ls.length:Int):=by omega);(have mg:(i:Int)<(ks.length:Int):=by omega);have eW:=ov (sep:=[44,32]) (ad2 dd jm);have nX:=vp [44,32] (Yf ls ks) (i+1);have eX:=nX;rw [eW] at eX;simp only [hw,ae,dd,jm,bF,mg,cr,au,ax,aB,al,aq,aS,aH,ax,aM,go_sem];apply bE <;> intro mG;(·(have pH:0<i:=by have h0:(0:Int)<i:=(by simpa using mG);omega);rw [gH pH] at eW eX;simp only [ab,af,ah,bA] at eX;have z1:fH (jn [44,32] ((Yf ls ks).take i)) 1:=⟨by omega⟩;have z2:sx l.name:=⟨by omega⟩;have z3:fH k.pr 1:=⟨by omega⟩;simp only [hw,ae,dd,jm,bF,mg,cr,au,ax,aB,al,aq,aS,aH,ax,aM,go_sem];refine lr [pN,pN,pN,pR,pN,pR,pN,pN,pN,pN,pR,pR,pN,pN,pN] 0 ?_;simp only [hw,ae,dd,jm,bF,mg,cr,au,ax,aB,al,aq,aS,aH,ax,aM,go_sem];refine lQ (ow (hX k (aw jm))) ?_;simp only [hw,ae,dd,jm,bF,mg,cr,au,ax,aB,al,aq,aS,aH,ax,aM,go_sem];refine dm _ ⟨i+1,?_,?_,da (by omega) (by simp only [hw,eW,ay,go_sem])⟩;(·exact bH);omega);have pH:¬ 0<i:=fun h0=>(k9 mG) (by omega:(0:Int)<(i:Int));rw [g5 pH,ai] at eW eX;simp only [ab,af,ah,bA] at eX;have z1:fH (jn [44,32] ((Yf ls ks).take i)) 1:=⟨by omega⟩;have z2:sx l.name:=⟨by omega⟩;have z3:fH k.pr 1:=⟨by omega⟩;simp only [hw,ae,dd,jm,bF,mg,cr,au,ax,aB,al,aq,aS,aH,ax,aM,go_sem];refine lr [pN,pN,pN,pR,pN,pR,pN,pN,pN,pN,pR,pR,pN,pN,pN] 0 ?_;simp only [hw,ae,dd,jm,bF,mg,cr,au,ax,aB,al,aq,aS,aH,ax,aM,go_sem];refine lQ (ow (hX k (aw jm))) ?_;simp only [hw,ae,dd,jm,bF,mg,cr,au,ax,aB,al,aq,aS,aH,ax,aM,go_sem];refine dm _ ⟨i+1,?_,?_,da (by omega) (by simp only [hw,eW,ay,go_sem])⟩;(·exact bH);omega
 have fP:=ki jf;have jx:i=ls.length:=by omega
 rw [jx,b8 (qV hgl)];simp only [go_sem];exact hK _ rfl
end
end
section
def ML (L:List (List UInt8)):List UInt8:=if L=[] then [] else [32]++jn [44,32] L
theorem UJ {L:List (List UInt8)} {i:Nat} {x:List UInt8} (h:L[i]?=some x):ML (L.take (i+1))=ML (L.take i)++(if 0<i then [44] else [])++[32]++x:=by
 have bH:=(az.1 h).1;have hj:=ov (sep:=[44,32]) h;have Wa:¬ L.take (i+1)=[]:=fun e=>by have h9:=yJ List.length e;rw [eK,ah] at h9;omega
 unfold ML;rw [g5 Wa,hj];by_cases h0:0<i;·(have hn:¬ L.take i=[]:=fun e=>by have h9:=yJ List.length e;rw [eK,ah] at h9;omega);rw [g5 hn,gH h0,gH h0];simp
 have:i=0:=by omega
 subst this;simp [jn]
theorem ad3 (L:List (List UInt8)) (i:Nat):(ML (L.take i)).length<=(ML L).length:=by
 unfold ML;by_cases h1:L.take i=[];·rw [gH h1];exact aY _
 have h2:¬ L=[]:=fun e=>h1 (by rw [e,avD]);have:=vp [44,32] L i;rw [g5 h1,g5 h2];simp only [ab];omega
theorem ad4 {l:List Ex} {i:Nat} {k:Ex} (h:l[i]?=some k):(l.map Ex.pr)[i]?=some k.pr:=by rw [ae,h];rfl
section
attribute [local go_sem] aC tV o4 qR qS
theorem Yh (l:List Ex) (hl:l.length<=1048576) (hb:(ML (l.map Ex.pr)).length<=34359738368) (hX:∀ k∈l,XV k):Cn 128 [.slice (l.map ca)] (str (bs (ML (l.map Ex.pr)))):=by
 refine cM [] 24 [.tmp 2] Tryz.func128 Tryz.call128 fun K hK=>?_;simp only [go_sem];refine ij tt_ok [] (fun i:Nat=>[(0,.slice (l.map ca)),(3,str (bs (ML ((l.map Ex.pr).take i)))),(4,num i)]) (fun i:Nat=>[]) (fun i=>l.length-i) (fun i=>i<=l.length) (0) 0 (da (by omega) (by simp only [dF,ML,if_true,bQ,go_sem] <;> rfl)) (aY _) ?_;intro i hi;intro Z1 dm;simp only [go_sem];apply bE <;> intro sB;·have bH:=jq sB;have hw:=bj i (by omega);obtain⟨k,dd⟩:=gA bH;(have bF:(i:Int)<(l.length:Int):=by omega);have eW:=UJ (ad4 dd);have nX:=ad3 (l.map Ex.pr) (i+1);have eX:=nX;rw [eW] at eX;simp only [hw,ae,dd,bF,aS,aH,ax,aM,go_sem];apply bE <;> intro x9;(·(have pH:0<i:=by have h0:(0:Int)<i:=(by simpa using x9);omega);rw [gH pH] at eW eX;simp only [ab,af,ah] at eX;have z1:fH (ML ((l.map Ex.pr).take i)) 1:=⟨by omega⟩;have z2:fH k.pr 1:=⟨by omega⟩;simp only [hw,ae,dd,bF,aS,aH,ax,aM,go_sem];refine cL (ow (hX k (aw dd))) ?_;simp only [hw,ae,dd,bF,aS,aH,ax,aM,go_sem];refine dm _ ⟨i+1,?_,?_,da (by omega) (by simp only [hw,eW,ay,go_sem])⟩;(·exact bH);omega);have pH:¬ 0<i:=fun h0=>(k9 x9) (by omega:(0:Int)<(i:Int));rw [g5 pH,ai] at eW eX;simp only [ab,af,ah] at eX;have z1:fH (ML ((l.map Ex.pr).take i)) 1:=⟨by omega⟩;have z2:fH k.pr 1:=⟨by omega⟩;simp only [hw,ae,dd,bF,aS,aH,ax,aM,go_sem];refine cL (ow (hX k (aw dd))) ?_;simp only [hw,ae,dd,bF,aS,aH,ax,aM,go_sem];refine dm _ ⟨i+1,?_,?_,da (by omega) (by simp only [hw,eW,ay,go_sem])⟩;(·exact bH);omega
 have fP:=ki sB;have jx:i=l.length:=by omega
 rw [jx,b8 (qV (by rw [aC]))];simp only [go_sem];exact hK _ rfl
end
end
section
theorem yd {x:Ex} {least:Int} (hl:Rc x=x.lvl) (hb:x.pr.length<=34359738368) (hX:XV x):Cn 125 [.agg (xM x),num least] (str (bs (ku x.lvl least x.pr))):=by have h:=UI x least hl hb hX;simp only [aS,aH,ax,aM] at h;exact h
theorem Dg (a b:Int) (l:List UInt8):(ku a b l).length<=l.length+2:=by unfold ku;split <;> simp
section
attribute [local go_sem] af ah aS aH ax aM tV o4 qR qS
theorem Yi (x a:Ex) (hk:x.kids=[a]) (OU:x.name.size<=1048576) (hl:Rc a=a.lvl) (hb:a.pr.length<=17179869184) (hX:XV a):Cn 129 [ca x] (str (bs (bt x.name++[32]++ku a.lvl (KN x.name).2.1 a.pr))):=by
 refine cM [] 45 [.tmp 2] Tryz.func129 Tryz.call129 fun K hK=>?_;have pl:=Dg a.lvl (KN x.name).2.1 a.pr;have z1:sx x.name:=⟨by omega⟩;have z2:fH (ku a.lvl (KN x.name).2.1 a.pr) 1:=⟨by omega⟩;simp only [aS,aH,ax,aM];simp only [hk,bo,dR];simp only [go_sem];refine cL (Df x.name) ?_;simp only [go_sem];apply bE <;> intro iG;·simp only [go_sem];refine lr [pN,pR,pN,pN,pR,pR,pR,pN,pN,pN,pN] 0 ?_;simp only [go_sem];refine lQ (yd hl (by omega) hX) ?_;simp only [go_sem];exact hK _ rfl
 exact absurd iG (by decide)
theorem Yj (x a b:Ex) (hk:x.kids=[a,b]) (OU:x.name.size<=1048576) (hl:Rc a=a.lvl) (Ad:Rc b=b.lvl) (hb:a.pr.length<=17179869184) (nD:b.pr.length<=17179869184) (hX:XV a) (hX2:XV b):Cn 129 [ca x] (str (bs (ku a.lvl (KN x.name).2.1 a.pr++[32]++bt x.name++[32]++ku b.lvl (KN x.name).2.2 b.pr))):=by
 refine cM [] 45 [.tmp 2] Tryz.func129 Tryz.call129 fun K hK=>?_;have pl:=Dg a.lvl (KN x.name).2.1 a.pr;have pl2:=Dg b.lvl (KN x.name).2.2 b.pr;have hB:(34359738368:Nat)<=34359738368:=aA _;have z1:fH (ku a.lvl (KN x.name).2.1 a.pr) 1:=⟨by omega⟩;have z2:sx x.name:=⟨by omega⟩;have z3:fH (ku b.lvl (KN x.name).2.2 b.pr) 1:=⟨by omega⟩;simp only [aS,aH,ax,aM];simp only [hk,bo,dR];simp only [go_sem];refine cL (Df x.name) ?_;simp only [go_sem];apply bE <;> intro iG;·exact absurd iG (by decide)
 simp only [go_sem];refine lr [pN,pR,pR,pR,pN,pN,pN,pN,pR,pN,pN,pN,pR,pR,pR,pN,pN,pN,pN] 0 ?_;simp only [go_sem];refine lQ (yd hl (by omega) hX) ?_;simp only [go_sem];refine lQ (yd Ad (by omega) hX2) ?_;simp only [go_sem];exact hK _ rfl
end
end
section
def Hh (ls:List Lb) (ks:List Ex):List (List UInt8):=List.zipWith (fun l p=>bt l.name++[32]++bt l.var++[32,61,62,32]++p) ls (ks.map Ex.pr)
theorem Yk {ls:List Lb} {ks:List Ex} {i:Nat} {l:Lb} {k:Ex} (h1:ls[i]?=some l) (h2:ks[i]?=some k):(Hh ls ks)[i]?=some (bt l.name++[32]++bt l.var++[32,61,62,32]++k.pr):=by unfold Hh;rw [awg,h1,ae,h2];rfl
theorem UK {ls:List Lb} {ks:List Ex} (h:ls.length=ks.length):(Hh ls ks).length=ls.length:=by unfold Hh;rw [aa2,aC,h,Nat.min_self]
section
attribute [local go_sem] aC tV o4 qR qS
theorem UL (x a:Ex) (q:List Ex) (hk:x.kids=a :: q) (hlen:x.labels.length=q.length) (hl:x.labels.length<=1048576) (hb:(D1 x.labels (q.map Ex.pr)).length<=34359738368) (hX:∀ k∈q,XV k):Cn 127 [ca x] (str (bs (D1 x.labels (q.map Ex.pr)))):=by
 refine cM [] 42 [.tmp 2] Tryz.func127 Tryz.call127 fun K hK=>?_;have hgs:D1 x.labels (q.map Ex.pr)=jn [44,32] (Hh x.labels q):=rfl;have hgl:=UK hlen;have yE:x.kids.length=q.length+1:=by rw [hk];rfl
 rw [hgs] at hb hK;simp only [aS,aH,ax,aM];simp only [go_sem];refine ij tt_ok [] (fun i:Nat=>[(1,.ptr 0 0),(3,str (bs (jn [44,32] ((Hh x.labels q).take i)))),(4,num i)]) (fun i:Nat=>[.box (xM x)]) (fun i=>x.labels.length-i) (fun i=>i<=x.labels.length) (0) 1 (da (by omega) (by simp only [dF,jn,bQ,go_sem] <;> rfl)) (aY _) ?_;intro i hi;intro Z1 dm;simp only [go_sem];apply bE <;> intro kj;·have bH:=jq kj;have hw:=bj i (by omega);obtain⟨l,dd⟩:=gA bH;obtain⟨k,jm⟩:=gB q i (by omega);(have tY:x.kids[i+1]?=some k:=by rw [hk,cu];exact jm);(have bF:(i:Int)<(x.labels.length:Int):=by omega);(have mg:((i+1:Nat):Int)<(x.kids.length:Int):=by omega);have eW:=ov (sep:=[44,32]) (Yk dd jm);have nX:=vp [44,32] (Hh x.labels q) (i+1);have eX:=nX;rw [eW] at eX;simp only [hw,ae,dd,tY,bF,mg,cr,au,ax,aB,al,aq,aS,aH,ax,aM,go_sem];apply bE <;> intro o1;(·(have pH:0<i:=by have h0:(0:Int)<i:=(by simpa using o1);omega);rw [gH pH] at eW eX;simp only [ab,af,ah,bA] at eX;have z1:fH (jn [44,32] ((Hh x.labels q).take i)) 1:=⟨by omega⟩;have z2:sx l.name:=⟨by omega⟩;have z3:sx l.var:=⟨by omega⟩;have z4:fH k.pr 1:=⟨by omega⟩;simp only [hw,ae,dd,tY,bF,mg,cr,au,ax,aB,al,aq,aS,aH,ax,aM,go_sem];refine lr [pN,pN,pR,pN,pR,pN,pR,pN,pN,pN,pR,pN,pR,pN,pR,pN,pN,pN,pR,pN,pN,pR,pR,pN,pN,pN] 0 ?_;simp only [hw,ae,dd,tY,bF,mg,cr,au,ax,aB,al,aq,aS,aH,ax,aM,go_sem];refine lQ (ow (hX k (aw jm))) ?_;simp only [hw,ae,dd,tY,bF,mg,cr,au,ax,aB,al,aq,aS,aH,ax,aM,go_sem];refine dm _ ⟨i+1,?_,?_,da (by omega) (by simp only [hw,eW,ay,go_sem])⟩;(·exact bH);omega);have pH:¬ 0<i:=fun h0=>(k9 o1) (by omega:(0:Int)<(i:Int));rw [g5 pH,ai] at eW eX;simp only [ab,af,ah,bA] at eX;have z1:fH (jn [44,32] ((Hh x.labels q).take i)) 1:=⟨by omega⟩;have z2:sx l.name:=⟨by omega⟩;have z3:sx l.var:=⟨by omega⟩;have z4:fH k.pr 1:=⟨by omega⟩;simp only [hw,ae,dd,tY,bF,mg,cr,au,ax,aB,al,aq,aS,aH,ax,aM,go_sem];refine lr [pN,pN,pR,pN,pR,pN,pR,pN,pN,pN,pR,pN,pR,pN,pR,pN,pN,pN,pR,pN,pN,pR,pR,pN,pN,pN] 0 ?_;simp only [hw,ae,dd,tY,bF,mg,cr,au,ax,aB,al,aq,aS,aH,ax,aM,go_sem];refine lQ (ow (hX k (aw jm))) ?_;simp only [hw,ae,dd,tY,bF,mg,cr,au,ax,aB,al,aq,aS,aH,ax,aM,go_sem];refine dm _ ⟨i+1,?_,?_,da (by omega) (by simp only [hw,eW,ay,go_sem])⟩;(·exact bH);omega
 have fP:=ki kj;have jx:i=x.labels.length:=by omega
 rw [jx,b8 (qV hgl)];simp only [go_sem];exact hK _ rfl
end
end
section
def Om:List Lb->List Ex->List (List UInt8)
 | [],_=>[]
 | l :: r,ks=>if l.opt=true then (bt l.name++[58,32]++l.ty.pr++[32,61,32]++(ks.map Ex.pr).headD []) :: Om r ks.tail else (bt l.name++[58,32]++l.ty.pr) :: Om r ks
theorem Hi:∀ (ls:List Lb) (ks:List Ex),Om ls ks=A7 ls (ks.map Ex.pr)
 | [],_=>rfl
 | l :: r,ks=>by
  unfold Om A7
  split
  ·rw [Hi r ks.tail,List.map_tail]
  rw [Hi r ks]
theorem On:∀ (ls:List Lb) (ks:List Ex),(Om ls ks).length=ls.length
 | [],_=>rfl
 | l :: r,ks=>by unfold Om;split <;> simp [On r]
def oN (ls:List Lb) (i:Nat):Nat:=fR (ls.take i)
theorem Oo {ls:List Lb} {i:Nat} {l:Lb} (h:ls[i]?=some l):oN ls (i+1)=oN ls i+(if l.opt=true then 1 else 0):=by unfold oN fR;rw [cg,h,awc,ab];cases ho:l.opt <;> simp [ho]
def fmA (l:Lb) (p:List UInt8):List UInt8:=if l.opt=true then bt l.name++[58,32]++l.ty.pr++[32,61,32]++p else bt l.name++[58,32]++l.ty.pr
theorem aar {l:Lb} {p:List UInt8} (h:l.opt=true):fmA l p=bt l.name++[58,32]++l.ty.pr++[32,61,32]++p:=gH h
theorem aas {l:Lb} {p:List UInt8} (h:l.opt=false):fmA l p=bt l.name++[58,32]++l.ty.pr:=g5 (by rw [h];decide)
theorem Oq (l:Lb) (p:List UInt8):l.name.size+2+l.ty.pr.length<=(fmA l p).length:=by unfold fmA;split <;> simp only [ab,af,ah,bA] <;> omega
theorem MM:∀ {ls:List Lb} {ks:List Ex} {i:Nat} {l:Lb},ls[i]?=some l->(Om ls ks)[i]?=some (fmA l ((ks.map Ex.pr)[oN ls i]?.getD []))
 | [],_,_,_,h=>by simp at h
 | a :: r,ks,0,l,h=>by
  simp at h;subst h
  unfold Om fmA
  by_cases ho:a.opt=true
  ·rw [gH ho,gH ho]
   have:oN (a :: r) 0=0:=rfl
   rw [this];cases ks <;> rfl
  rw [g5 ho,g5 ho];rfl
 | a :: r,ks,i+1,l,h=>by
  have h':r[i]?=some l:=by simpa using h
  unfold Om
  by_cases ho:a.opt=true
  ·rw [gH ho,cu,MM (ks:=ks.tail) h']
   have:oN (a :: r) (i+1)=oN r i+1:=by unfold oN fR;simp [ho]
   rw [this]
   cases ks with
   | nil=>simp
   | cons k q=>simp
  rw [g5 ho,cu,MM (ks:=ks) h']
  have:oN (a :: r) (i+1)=oN r i:=by unfold oN fR;simp [ho]
  rw [this]
theorem aiy (ls:List Lb) (i:Nat):oN ls i<=fR ls:=by
 have h:ls=ls.take i++ls.drop i:=(ji i ls).symm;unfold oN;have e:fR ls=fR (ls.take i)+fR (ls.drop i):=by (conv=>lhs;rw [h]);unfold fR;rw [awc,ab]
 omega
theorem aat {ls:List Lb} {i:Nat} {l:Lb} (h:ls[i]?=some l) (ho:l.opt=true):oN ls i+1<=fR ls:=by have h1:=Oo h;rw [gH ho] at h1;have h2:=aiy ls (i+1);omega
section
attribute [local go_sem] aC tV o4 qR qS
theorem Kh (x:Ex) (iq:fR x.labels<=x.kids.length) (hl:x.labels.length<=1048576) (yE:x.kids.length<=1048576) (hb:(jn [44,32] (A7 x.labels (x.kids.map Ex.pr))).length<=34359738368) (hX:∀ k∈x.kids,XV k) (hT:∀ l∈x.labels,VT l.ty):Cn 126 [ca x] (str (bs (jn [44,32] (A7 x.labels (x.kids.map Ex.pr))))):=by
 refine cM [] 52 [.tmp 2] Tryz.func126 Tryz.call126 fun K hK=>?_;have hgl:=On x.labels x.kids;rw [<- Hi] at hb hK;have o0:oN x.labels 0=0:=rfl;simp only [aS,aH,ax,aM];simp only [go_sem];refine ij tt_ok [] (fun i:Nat=>[(1,.ptr 0 0),(3,str (bs (jn [44,32] ((Om x.labels x.kids).take i)))),(4,num (oN x.labels i)),(5,num i)]) (fun i:Nat=>[.box (xM x)]) (fun i=>x.labels.length-i) (fun i=>i<=x.labels.length) (0) 1 (da (by omega) (by simp only [dF,jn,o0,bQ,bQ,go_sem] <;> rfl)) (aY _) ?_;intro i hi;intro Z1 dm;simp only [go_sem];apply bE <;> intro jf;·have bH:=jq jf;have hw:=bj i (by omega);obtain⟨l,dd⟩:=gA bH;(have bF:(i:Int)<(x.labels.length:Int):=by omega);have eW:=ov (sep:=[44,32]) (MM (ks:=x.kids) dd);have nX:=vp [44,32] (Om x.labels x.kids) (i+1);have M6:=Oo dd;simp only [hw,ae,dd,bF,cr,au,ax,aB,al,aq,go_sem];apply bE <;> intro mG;(·(have pH:0<i:=by have h0:(0:Int)<i:=(by simpa using mG);omega);rw [gH pH] at eW;have Ki:=nX;rw [eW] at Ki;simp only [ab,af,ah] at Ki;have z1:fH (jn [44,32] ((Om x.labels x.kids).take i)) 1:=⟨by omega⟩;obtain⟨B,hB⟩:=gy (jn [44,32] ((Om x.labels x.kids).take i)++[44,32]);rw [<- hB] at eW;have QK:=hB.symm;have eX:=nX;rw [eW,ab] at eX;have hfa:=Oq l ((x.kids.map Ex.pr)[oN x.labels i]?.getD []);have z1:fH B 1:=⟨by omega⟩;have z2:sx l.name:=⟨by omega⟩;have z3:fH l.ty.pr 1:=⟨by omega⟩;simp only [hw,ae,dd,bF,cr,au,ax,aB,al,aq,QK,go_sem];refine lr [pN,pN,pR,pN,pR,pN,pR,pN,pN,pN,pR,pN,pR,pN,pR,pN,pN,pN] 0 ?_;simp only [hw,ae,dd,bF,cr,au,ax,aB,al,aq,QK,go_sem];refine lQ (pj (hT l (aw dd))) ?_;simp only [hw,ae,dd,bF,cr,au,ax,aB,al,aq,QK,go_sem];apply bE <;> intro UM;(·have ho:l.opt=true:=UM;have O0:=aat dd ho;rw [gH ho] at M6;obtain⟨k,tY⟩:=gB x.kids (oN x.labels i) (by omega);(have hkp:(x.kids.map Ex.pr)[oN x.labels i]?.getD []=k.pr:=by rw [ae,tY];rfl);rw [aar ho,hkp] at eW;(have mg:((oN x.labels i:Nat):Int)<(x.kids.length:Int):=by omega);have hw4:=bj (oN x.labels i) (by omega);rw [eW] at nX;simp only [ab,af,ah,bA] at nX;have z1:fH B 1:=⟨by omega⟩;have z2:sx l.name:=⟨by omega⟩;have z3:fH l.ty.pr 1:=⟨by omega⟩;have z4:fH k.pr 1:=⟨by omega⟩;simp only [hw,ae,dd,bF,cr,au,ax,aB,al,aq,QK,tY,mg,hw4,aS,aH,ax,aM,go_sem];refine cL (ow (hX k (aw tY))) ?_;simp only [hw,ae,dd,bF,cr,au,ax,aB,al,aq,QK,tY,mg,hw4,aS,aH,ax,aM,go_sem];refine dm _ ⟨i+1,?_,?_,da (by omega) (by simp only [hw,eW,M6,ay,go_sem])⟩;(·exact bH);omega);have ho:l.opt=false:=UM;rw [g5 (by rw [ho];decide),fI] at M6;rw [aas ho] at eW;simp only [hw,ae,dd,bF,cr,au,ax,aB,al,aq,QK,go_sem];refine dm _ ⟨i+1,?_,?_,da (by omega) (by simp only [hw,eW,M6,ay,go_sem])⟩;(·exact bH);omega);have pH:¬ 0<i:=fun h0=>(k9 mG) (by omega:(0:Int)<(i:Int));rw [g5 pH,ai] at eW;obtain⟨B,hB⟩:=gy (jn [44,32] ((Om x.labels x.kids).take i));rw [<- hB] at eW ⊢;have eX:=nX;rw [eW,ab] at eX;have hfa:=Oq l ((x.kids.map Ex.pr)[oN x.labels i]?.getD []);have z1:fH B 1:=⟨by omega⟩;have z2:sx l.name:=⟨by omega⟩;have z3:fH l.ty.pr 1:=⟨by omega⟩;simp only [hw,ae,dd,bF,cr,au,ax,aB,al,aq,go_sem];refine lr [pN,pN,pR,pN,pR,pN,pR,pN,pN,pN,pR,pN,pR,pN,pR,pN,pN,pN] 0 ?_;simp only [hw,ae,dd,bF,cr,au,ax,aB,al,aq,go_sem];refine lQ (pj (hT l (aw dd))) ?_;simp only [hw,ae,dd,bF,cr,au,ax,aB,al,aq,go_sem];apply bE <;> intro UM;(·have ho:l.opt=true:=UM;have O0:=aat dd ho;rw [gH ho] at M6;obtain⟨k,tY⟩:=gB x.kids (oN x.labels i) (by omega);(have hkp:(x.kids.map Ex.pr)[oN x.labels i]?.getD []=k.pr:=by rw [ae,tY];rfl);rw [aar ho,hkp] at eW;(have mg:((oN x.labels i:Nat):Int)<(x.kids.length:Int):=by omega);have hw4:=bj (oN x.labels i) (by omega);rw [eW] at nX;simp only [ab,af,ah,bA] at nX;have z1:fH B 1:=⟨by omega⟩;have z2:sx l.name:=⟨by omega⟩;have z3:fH l.ty.pr 1:=⟨by omega⟩;have z4:fH k.pr 1:=⟨by omega⟩;simp only [hw,ae,dd,bF,cr,au,ax,aB,al,aq,tY,mg,hw4,aS,aH,ax,aM,go_sem];refine cL (ow (hX k (aw tY))) ?_;simp only [hw,ae,dd,bF,cr,au,ax,aB,al,aq,tY,mg,hw4,aS,aH,ax,aM,go_sem];refine dm _ ⟨i+1,?_,?_,da (by omega) (by simp only [hw,eW,M6,ay,go_sem])⟩;(·exact bH);omega);have ho:l.opt=false:=UM;rw [g5 (by rw [ho];decide),fI] at M6;rw [aas ho] at eW;simp only [hw,ae,dd,bF,cr,au,ax,aB,al,aq,go_sem];refine dm _ ⟨i+1,?_,?_,da (by omega) (by simp only [hw,eW,M6,ay,go_sem])⟩;(·exact bH);omega
 have fP:=ki jf;have jx:i=x.labels.length:=by omega
 rw [jx,b8 (qV hgl)];simp only [go_sem];exact hK _ rfl
end
end
section
structure ExQ (x:Ex):Prop where
 q3:x.kind=3->x.mod=⟨#[]⟩/\x.types=[]
 q5:x.kind=5->x.kids.length=x.labels.length
 q9:x.kind=9\/x.kind=13->x.kids.length=x.labels.length+1
 q8:x.kind=8->x.kids.length=fR x.labels+1
 q16:x.kind=16->Ac x.name≠0/\(x.kids.length=1\/x.kids.length=2)
theorem UN {x:Ex} {f:Fo} (ok:qm x f):ExQ x:=by
 have F:=C6 ok;have hf:=ok.form;refine⟨fun k=>?_,fun k=>?_,fun k=>?_,fun k=>?_,fun k=>?_⟩;·rw [k] at hf;cases hf;exact⟨Ol ok (by omega),dn (by have:=F.h7 (by decide);simpa using this)⟩
 ·rw [k] at hf;cases hf;have h:=F.h9 (by simp only [mH,k];simp <;> omega);simp [mH,k] at h;omega
 ·(rcases k with k|k);(·rw [k] at hf;cases hf;have h:=F.h9 (by simp only [mH,k];simp <;> omega);simp [mH,k] at h;omega);rw [k] at hf;cases hf;have h:=F.h9 (by simp only [mH,k];simp <;> omega);simp [mH,k] at h;omega
 ·rw [k] at hf;cases hf;have h:=F.h9 (by simp only [mH,k];simp <;> omega);simp [mH,k] at h;omega
 have h6:=F.h6 k;have e0:mH x f.kd=Ac x.name:=by unfold mH;rw [gH k]
 rw [e0] at h6;have hr:=Ut x.name;have h:=F.h9 (by rw [e0];omega);rw [e0] at h;exact⟨h6,by omega⟩
section
variable {x a b c k:Ex} {u:Ty} {q:List Ex}
theorem Kj (h:x.types[0]?=some u):lj x.types=u.pr:=by cases ht:x.types with|nil=>rw [ht] at h;cases h|cons v r=>rw [ht] at h;cases h;rfl
theorem aiA (h:x.kind=0):x.pr=Lib.itoa x.num:=by rw [x.eS];unfold rN;simp only [h,reduceIte]
theorem aiB (h:x.kind=1):x.pr=Dy x.text:=by rw [x.eS];unfold rN;simp only [h,reduceIte,dB]
theorem aiC (h:x.kind=2):x.pr=if x.num=1 then [116,114,117,101] else [102,97,108,115,101]:=by rw [x.eS];unfold rN;simp only [h,reduceIte,dB]
theorem aiD (h:x.kind=3) (hm:x.mod=⟨#[]⟩) (ht:x.types=[]):x.pr=bt x.name:=by rw [x.eS];unfold rN;simp [h,hm,ht,EZ]
theorem aiE (h:x.kind=4):x.pr=EZ x.mod x.name (x.types.map Ty.pr):=by rw [x.eS];unfold rN;simp only [h,reduceIte,dB,or_true]
theorem aiF (h:x.kind=5):x.pr=[123]++NU x.labels (x.kids.map Ex.pr)++[125]:=by rw [x.eS];unfold rN;simp only [h,reduceIte,dB,or_self]
theorem aiG (h:x.kind=6) (g0:x.kids[0]?=some a):x.pr=ku a.lvl 8 a.pr++[46]++bt x.name:=by rw [x.eS];unfold rN;simp only [h,g0,reduceIte,dB,or_self,ae,bU,fS]
theorem aiH (h:x.kind=7) (g0:x.kids[0]?=some a):x.pr=[60]++bt x.name++[58,32]++a.pr++[62]:=by rw [x.eS];unfold rN;simp only [h,g0,reduceIte,dB,or_self,ae,bU,fS]
theorem aiI (h:x.kind=8) (g0:x.kids[fR x.labels]?=some a):x.pr=[102,110,40]++jn [44,32] (A7 x.labels (x.kids.map Ex.pr))++[41,32,61,62,32]++a.pr:=by have g0:x.kids[(x.labels.filter Lb.opt).length]?=some a:=g0;rw [x.eS];unfold rN;simp only [h,g0,reduceIte,dB,or_self,ae,bU,fS]
theorem aiJ (h:x.kind=9) (hk:x.kids=a :: q):x.pr=ku a.lvl 8 a.pr++[40]++NU x.labels (q.map Ex.pr)++[41]:=by rw [x.eS];unfold rN;simp only [h,hk,reduceIte,dB,or_self,bo,aI,n8,fS]
theorem ad5 (h:x.kind=10) (g0:x.kids[0]?=some a) (g1:x.kids[1]?=some b):x.pr=[108,101,116,32]++bt x.name++[32,61,32]++a.pr++[32,105,110,32]++b.pr:=by rw [x.eS];unfold rN;simp only [h,g0,g1,reduceIte,dB,or_self,ae,bU,fS]
theorem ad6 (h:x.kind=11) (g0:x.kids[0]?=some a) (gt:x.types[0]?=some u):x.pr=[40]++a.pr++[32,58,32]++u.pr++[41]:=by rw [x.eS];unfold rN;simp only [h,g0,Kj gt,reduceIte,dB,or_self,ae,bU,fS]
theorem ad7 (h:x.kind=12) (g0:x.kids[0]?=some a) (g1:x.kids[1]?=some b) (g2:x.kids[2]?=some c) (gt:x.types[0]?=some u):x.pr=[105,102,91]++u.pr++[93,32]++a.pr++[32,116,104,101,110,32]++b.pr++[32,101,108,115,101,32]++c.pr:=by rw [x.eS];unfold rN Dz;simp only [h,g0,g1,g2,Kj gt,reduceIte,dB,or_self,ae,bU,fS];simp
theorem ad8 (h:x.kind=13) (hk:x.kids=a :: q) (gt:x.types[0]?=some u):x.pr=[109,97,116,99,104,91]++u.pr++[93,32]++a.pr++[32,123]++D1 x.labels (q.map Ex.pr)++[125]:=by rw [x.eS];unfold rN Dz;simp only [h,hk,Kj gt,reduceIte,dB,or_self,bo,aI,n8,fS];simp
theorem ad9 (h:x.kind=14) (gt:x.types[0]?=some u):x.pr=[91]++u.pr++[124]++ML (x.kids.map Ex.pr)++[93]:=by rw [x.eS];unfold rN ML;simp only [h,Kj gt,reduceIte,dB,or_self]
theorem aea (h:x.kind=15) (g0:x.kids[0]?=some a) (g1:x.kids[1]?=some b) (g2:x.kids[2]?=some c) (gt:x.types[0]?=some u):x.pr=[102,111,108,100,91]++u.pr++[93,32]++bt x.name++[44,32]++bt x.text++[32,105,110,32]++a.pr++[32,102,114,111,109,32]++b.pr++[32,61,62,32]++c.pr:=by rw [x.eS];unfold rN Dz;simp only [h,g0,g1,g2,Kj gt,reduceIte,dB,or_self,ae,bU,fS];simp
theorem Yl (h:x.kind=16) (hk:x.kids=[a]):x.pr=bt x.name++[32]++ku a.lvl (Av x.name).2.1 a.pr:=by rw [x.eS];unfold rN ZP;simp [h,hk]
theorem Ym (h:x.kind=16) (hk:x.kids=[a,b]):x.pr=ku a.lvl (Av x.name).2.1 a.pr++[32]++bt x.name++[32]++ku b.lvl (Av x.name).2.2 b.pr:=by rw [x.eS];unfold rN ZP;simp [h,hk]
end
end
section
theorem MN {x:Ex} (iq:fR x.labels<=x.kids.length) (hl:x.labels.length<=1048576) (yE:x.kids.length<=1048576) (hb:(jn [44,32] (A7 x.labels (x.kids.map Ex.pr))).length<=34359738368) (hX:∀ k∈x.kids,XV k) (hT:∀ l∈x.labels,VT l.ty):Cn 126 [.agg (xM x)] (str (bs (jn [44,32] (A7 x.labels (x.kids.map Ex.pr))))):=by have h:=Kh x iq hl yE hb hX hT;simp only [aS,aH,ax,aM] at h;exact h
theorem Yn {x a:Ex} {q:List Ex} (hk:x.kids=a :: q) (hlen:x.labels.length=q.length) (hl:x.labels.length<=1048576) (hb:(D1 x.labels (q.map Ex.pr)).length<=34359738368) (hX:∀ k∈q,XV k):Cn 127 [.agg (xM x)] (str (bs (D1 x.labels (q.map Ex.pr)))):=by have h:=UL x a q hk hlen hl hb hX;simp only [aS,aH,ax,aM] at h;exact h
theorem ye (a b:Int) (l:List UInt8):l.length<=(ku a b l).length:=by
 unfold ku;split;·exact aA _
 simp only [ab,af,ah];omega
theorem aiK {x:Ex} (HF:x.kind=16) (hq:ExQ x) (OU:x.name.size<=1048576) (hX:∀ k∈x.kids,XV k/\Rc k=k.lvl) (hb:x.pr.length<=17179869184):Cn 129 [.agg (xM x)] (str (bs x.pr)):=by
 obtain⟨hn,hk|hk⟩:=hq.q16 HF;·obtain⟨a,r,hr⟩:=gb hk;(obtain rfl:r=[]:=by rw [hr] at hk;exact dn (by simpa using hk));have hp:=Yl HF hr;have HH:=hX a (by rw [hr];simp);have hl:=yJ List.length hp;have hg:=ye a.lvl (Av x.name).2.1 a.pr;simp only [ab] at hl;have h:=Yi x a hr OU HH.2 (by omega) HH.1;rw [Hg hn,<- hp] at h;simp only [aS,aH,ax,aM] at h;exact h
 obtain⟨a,b,r,hr⟩:=kd2 (qV hk.symm);obtain rfl:r=[]:=by rw [hr] at hk;exact dn (by simpa using hk)
 have hp:=Ym HF hr;have HH:=hX a (by rw [hr];simp);have hXb:=hX b (by rw [hr];simp);have hl:=yJ List.length hp;have hg:=ye a.lvl (Av x.name).2.1 a.pr;have hg2:=ye b.lvl (Av x.name).2.2 b.pr;simp only [ab] at hl;have h:=Yj x a b hr OU HH.2 hXb.2 (by omega) (by omega) HH.1 hXb.1;rw [Hg hn,<- hp] at h;simp only [aS,aH,ax,aM] at h;exact h
theorem Yo {n:Int} (h:n=0\/n=1):∃ k:Nat,n=(k:Int)/\(k:Int)<((2:Nat):Int)/\([str ⟨#[102,97,108,115,101]⟩,str ⟨#[116,114,117,101]⟩]:List V)[k]?=some (str (bs (if n=1 then [116,114,117,101] else [102,97,108,115,101]))):=by
 rcases h with rfl|rfl
 ·exact⟨0,rfl,by decide,rfl⟩
 exact⟨1,rfl,by decide,rfl⟩
section
attribute [local go_sem] aC aS aH ax aM tV o4 qR qS
theorem MO (hG:bJ.g=some 0) (x:Ex) (hx:N4 x) (hq:ExQ x) (HB:x.mod.size<=1048576) (OU:x.name.size<=1048576) (hX:∀ k∈x.kids,XV k/\Rc k=k.lvl) (hT:∀ t∈x.types,VT t) (hTl:x.kind=8->∀ l∈x.labels,VT l.ty) (hb:x.pr.length<=17179869184):Cn 47 [ca x] (str (bs x.pr)):=by
 refine cM [] 222 [.tmp 2] Tryz.func47 Tryz.call47 fun K hK=>?_;have yn:=hx.ts;simp only [aS,aH,ax,aM];simp only [go_sem];apply bE <;> intro sB;·have h0:=qB sB;have dX:=aiA h0;simp only [go_sem];refine cL (Yd hG x.num hx.n0 hx.n1) ?_;simp only [go_sem];exact hK _ (by first|(rw [dX];done)|(rw [dX,fe];done)|(rw [dX,jL];done)|(rw [dX];simp;done)|rfl)
 have h0:=k9 sB;simp only [go_sem];apply bE <;> intro o1;·have h1:=qB o1;have dX:=aiB h1;simp only [go_sem];refine cL (Fc x.text hx.ts) ?_;simp only [go_sem];exact hK _ (by first|(rw [dX];done)|(rw [dX,fe];done)|(rw [dX,jL];done)|(rw [dX];simp;done)|rfl)
 have h1:=k9 o1;simp only [go_sem];apply bE <;> intro qQ;·have h2:=qB qQ;obtain⟨kn,fe,hk5,Ok⟩:=Yo (hx.b0 h2);simp only [tV] at Ok;have dX:=aiC h2;simp only [Ok,hk5,fe,gx,go_sem];exact hK _ (by first|(rw [dX];done)|(rw [dX,fe];done)|(rw [dX,jL];done)|(rw [dX];simp;done)|rfl)
 have h2:=k9 qQ;simp only [go_sem];apply bE <;> intro x3;·have h3:=qB x3;have dX:=aiD h3 (hq.q3 h3).1 (hq.q3 h3).2;simp only [go_sem];exact hK _ (by first|(rw [dX];done)|(rw [dX,fe];done)|(rw [dX,jL];done)|(rw [dX];simp;done)|rfl)
 have h3:=k9 x3;simp only [go_sem];apply bE <;> intro ya;·have h4:=qB ya;have dX:=aiE h4;have ec:=hb;rw [dX] at ec;(have hqb:(jn [44,32] (x.types.map Ty.pr)).length<=34359738368:=by unfold EZ at ec;simp only [ab] at ec;by_cases he:x.types.map Ty.pr=[];rw [he];decide;rw [g5 he] at ec;simp only [ab,af,ah] at ec;omega);have hqu:=Kd (bt x.mod) (bt x.name) x.types (by rw [bA];exact HB) (by rw [bA];exact OU) hx.lt hqb hT;rw [jL,jL,UB] at hqu;simp only [go_sem];refine cL (hqu) ?_;simp only [go_sem];exact hK _ (by first|(rw [dX];done)|(rw [dX,fe];done)|(rw [dX,jL];done)|(rw [dX];simp;done)|rfl)
 have h4:=k9 ya;simp only [go_sem];apply bE <;> intro ot;·have h5:=qB ot;have dX:=aiF h5;have ec:=hb;rw [dX] at ec;simp only [ab,af,ah,bA] at ec;have z1:fH (NU x.labels (x.kids.map Ex.pr)) 1:=⟨by omega⟩;simp only [go_sem];refine cL (Fe x.labels x.kids (hq.q5 h5).symm hx.ll (by omega) fun k hk=>(hX k hk).1) ?_;simp only [go_sem];exact hK _ (by first|(rw [dX];done)|(rw [dX,fe];done)|(rw [dX,jL];done)|(rw [dX];simp;done)|rfl)
 have h5:=k9 ot;simp only [go_sem];apply bE <;> intro DY;·have h6:=qB DY;have mM:=hx.kd;rw [show gg x=1 by simp [gg,h6]] at mM;obtain⟨a,g0⟩:=gB x.kids 0 (by omega);(have nr:(0:Int)<(x.kids.length:Int):=by omega);have HH:=ow (hX a (aw g0)).1;have dX:=aiG h6 g0;have ec:=hb;rw [dX] at ec;simp only [ab,af,ah,bA] at ec;have z1:fH (ku a.lvl 8 a.pr) 1:=⟨by omega⟩;have z2:sx x.name:=⟨by omega⟩;simp only [g0,nr,bI,ch,ae,go_sem];refine lr [pN,pR,pR,pN,pN,pN,pR,pN,pN] 0 ?_;simp only [g0,nr,bI,ch,ae,go_sem];refine lQ (yd (least:=8) (hX a (aw g0)).2 (by have:=ye a.lvl 8 a.pr;omega) (hX a (aw g0)).1) ?_;simp only [g0,nr,bI,ch,ae,go_sem];exact hK _ (by first|(rw [dX];done)|(rw [dX,fe];done)|(rw [dX,jL];done)|(rw [dX];simp;done)|rfl)
 have h6:=k9 DY;simp only [go_sem];apply bE <;> intro aiL;·have h7:=qB aiL;have mM:=hx.kd;rw [show gg x=1 by simp [gg,h7]] at mM;obtain⟨a,g0⟩:=gB x.kids 0 (by omega);(have nr:(0:Int)<(x.kids.length:Int):=by omega);have HH:=ow (hX a (aw g0)).1;have dX:=aiH h7 g0;have ec:=hb;rw [dX] at ec;simp only [ab,af,ah,bA] at ec;have z1:sx x.name:=⟨by omega⟩;have z2:fH a.pr 1:=⟨by omega⟩;simp only [g0,nr,bI,ch,ae,go_sem];refine lr [pN,pR,pN,pN,pN,pR,pR,pN,pN,pN,pN] 0 ?_;simp only [g0,nr,bI,ch,ae,go_sem];refine lQ (HH) ?_;simp only [g0,nr,bI,ch,ae,go_sem];exact hK _ (by first|(rw [dX];done)|(rw [dX,fe];done)|(rw [dX,jL];done)|(rw [dX];simp;done)|rfl)
 have h7:=k9 aiL;simp only [go_sem];apply bE <;> intro Ud;·have h8:=qB Ud;have hk8:=hq.q8 h8;obtain⟨k,g8⟩:=gB x.kids (fR x.labels) (by omega);have Z0:=hx.lk;(have Yp:((fR x.labels:Nat):Int)<(x.kids.length:Int):=by omega);have hw8:IntKind.i64.wrap ((x.kids.length:Int)-1)=((fR x.labels:Nat):Int):=Ci _ _ (by omega) (by omega);have hXk:=ow (hX k (aw g8)).1;have dX:=aiI h8 g8;have ec:=hb;rw [dX] at ec;simp only [ab,af,ah,bA] at ec;have z1:fH (jn [44,32] (A7 x.labels (x.kids.map Ex.pr))) 1:=⟨by omega⟩;have z2:fH k.pr 1:=⟨by omega⟩;simp only [g8,Yp,hw8,bI,ch,ae,go_sem];refine lr [pR,pN,pN,pN,pN,pN,pN,pN,pR,pR,pN,pN,pN] 0 ?_;simp only [g8,Yp,hw8,bI,ch,ae,go_sem];refine lQ (MN (by omega) hx.ll hx.lk (by omega) (fun k hk=>(hX k hk).1) (hTl h8)) ?_;simp only [g8,Yp,hw8,bI,ch,ae,go_sem];refine lQ (hXk) ?_;simp only [g8,Yp,hw8,bI,ch,ae,go_sem];exact hK _ (by first|(rw [dX];done)|(rw [dX,fe];done)|(rw [dX,jL];done)|(rw [dX];simp;done)|rfl)
 have h8:=k9 Ud;simp only [go_sem];apply bE <;> intro Kk;·have h9:=qB Kk;have hk9:=hq.q9 (.inl h9);(obtain⟨a,q,dd⟩:∃ a q,x.kids=a :: q:=by cases h:x.kids with|nil=>rw [h] at hk9;simp at hk9|cons a q=>exact⟨a,q,rfl⟩);have Z0:=hx.lk;rw [dd,af] at hk9;(have g0:x.kids[0]?=some a:=by rw [dd];rfl);(have nr:(0:Int)<(x.kids.length:Int):=by rw [dd];simp only [af];omega);(have hcut:∀ mem,cutAt mem 8 1 none (.slice (x.kids.map ca))=some (.slice (q.map ca)):=fun mem=>by have h:=xW x.kids ca 8 uA 1 (by rw [dd];simp) mem;rw [dd] at h ⊢;exact h);have dX:=aiJ h9 dd;have ec:=hb;rw [dX] at ec;simp only [ab,af,ah,bA] at ec;have z1:fH (ku a.lvl 8 a.pr) 1:=⟨by omega⟩;have z2:fH (NU x.labels (q.map Ex.pr)) 1:=⟨by omega⟩;simp only [g0,nr,hcut,bI,ch,ae,go_sem];refine lr [pN,pR,pR,pN,pN,pN,pR,pN,pR,pN,pN,pN,pN] 0 ?_;simp only [g0,nr,hcut,bI,ch,ae,go_sem];refine lQ (yd (least:=8) (hX a (aw g0)).2 (by have:=ye a.lvl 8 a.pr;omega) (hX a (aw g0)).1) ?_;simp only [g0,nr,hcut,bI,ch,ae,go_sem];refine lQ (Fe x.labels q (by omega) hx.ll (by omega) fun k hk=>(hX k (by rw [dd];exact bZ _ hk)).1) ?_;simp only [g0,nr,hcut,bI,ch,ae,go_sem];exact hK _ (by first|(rw [dX];done)|(rw [dX,fe];done)|(rw [dX,jL];done)|(rw [dX];simp;done)|rfl)
 have h9:=k9 Kk;simp only [go_sem];apply bE <;> intro aiM;·have sZ:=qB aiM;have mM:=hx.kd;rw [show gg x=2 by simp [gg,sZ]] at mM;obtain⟨a,g0⟩:=gB x.kids 0 (by omega);(have nr:(0:Int)<(x.kids.length:Int):=by omega);have HH:=ow (hX a (aw g0)).1;obtain⟨b,g1⟩:=gB x.kids 1 (by omega);(have AJ:(1:Int)<(x.kids.length:Int):=by omega);have hXb:=ow (hX b (aw g1)).1;have dX:=ad5 sZ g0 g1;have ec:=hb;rw [dX] at ec;simp only [ab,af,ah,bA] at ec;have z1:sx x.name:=⟨by omega⟩;have z2:fH a.pr 1:=⟨by omega⟩;have z3:fH b.pr 1:=⟨by omega⟩;simp only [g0,nr,g1,AJ,bI,ch,ae,go_sem];refine lr [pN,pR,pN,pN,pN,pR,pR,pN,pN,pN,pN,pR,pR,pN,pN,pN] 0 ?_;simp only [g0,nr,g1,AJ,bI,ch,ae,go_sem];refine lQ (HH) ?_;simp only [g0,nr,g1,AJ,bI,ch,ae,go_sem];refine lQ (hXb) ?_;simp only [g0,nr,g1,AJ,bI,ch,ae,go_sem];exact hK _ (by first|(rw [dX];done)|(rw [dX,fe];done)|(rw [dX,jL];done)|(rw [dX];simp;done)|rfl)
 have sZ:=k9 aiM;simp only [go_sem];apply bE <;> intro aav;·have VZ:=qB aav;have mM:=hx.kd;rw [show gg x=1 by simp [gg,VZ]] at mM;obtain⟨a,g0⟩:=gB x.kids 0 (by omega);(have nr:(0:Int)<(x.kids.length:Int):=by omega);have HH:=ow (hX a (aw g0)).1;obtain⟨u,ur,Ot⟩:=hx.ty (by omega) (by omega);(have gt:x.types[0]?=some u:=by rw [Ot];rfl);(have uL:(0:Int)<(x.types.length:Int):=by rw [Ot];simp only [af];omega);have Yq:=pj (hT u (aw gt));have dX:=ad6 VZ g0 gt;have ec:=hb;rw [dX] at ec;simp only [ab,af,ah,bA] at ec;have z1:fH a.pr 1:=⟨by omega⟩;have z2:fH u.pr 1:=⟨by omega⟩;simp only [g0,nr,gt,uL,aF,au,aB,bI,ch,ae,go_sem];refine lr [pN,pR,pR,pN,pN,pN,pN,pR,pR,pR,pN,pN,pN,pN] 0 ?_;simp only [g0,nr,gt,uL,aF,au,aB,bI,ch,ae,go_sem];refine lQ (HH) ?_;simp only [g0,nr,gt,uL,aF,au,aB,bI,ch,ae,go_sem];refine lQ (Yq) ?_;simp only [g0,nr,gt,uL,aF,au,aB,bI,ch,ae,go_sem];exact hK _ (by first|(rw [dX];done)|(rw [dX,fe];done)|(rw [dX,jL];done)|(rw [dX];simp;done)|rfl)
 have VZ:=k9 aav;simp only [go_sem];apply bE <;> intro aaw;·have h12:=qB aaw;have mM:=hx.kd;rw [show gg x=3 by simp [gg,h12]] at mM;obtain⟨a,g0⟩:=gB x.kids 0 (by omega);(have nr:(0:Int)<(x.kids.length:Int):=by omega);have HH:=ow (hX a (aw g0)).1;obtain⟨b,g1⟩:=gB x.kids 1 (by omega);(have AJ:(1:Int)<(x.kids.length:Int):=by omega);have hXb:=ow (hX b (aw g1)).1;obtain⟨c,g2⟩:=gB x.kids 2 (by omega);(have uz:(2:Int)<(x.kids.length:Int):=by omega);have hXc:=ow (hX c (aw g2)).1;obtain⟨u,ur,Ot⟩:=hx.ty (by omega) (by omega);(have gt:x.types[0]?=some u:=by rw [Ot];rfl);(have uL:(0:Int)<(x.types.length:Int):=by rw [Ot];simp only [af];omega);have Yq:=pj (hT u (aw gt));have dX:=ad7 h12 g0 g1 g2 gt;have ec:=hb;rw [dX] at ec;simp only [ab,af,ah,bA] at ec;have z1:fH u.pr 1:=⟨by omega⟩;have z2:fH a.pr 1:=⟨by omega⟩;have z3:fH b.pr 1:=⟨by omega⟩;have z4:fH c.pr 1:=⟨by omega⟩;simp only [g0,nr,g1,AJ,g2,uz,gt,uL,aF,au,aB,bI,ch,ae,go_sem];refine lr [pN,pR,pR,pR,pN,pN,pN,pN,pR,pR,pN,pN,pN,pN,pR,pR,pN,pN,pN,pN,pR,pR,pN,pN,pN] 0 ?_;simp only [g0,nr,g1,AJ,g2,uz,gt,uL,aF,au,aB,bI,ch,ae,go_sem];refine lQ (Yq) ?_;simp only [g0,nr,g1,AJ,g2,uz,gt,uL,aF,au,aB,bI,ch,ae,go_sem];refine lQ (HH) ?_;simp only [g0,nr,g1,AJ,g2,uz,gt,uL,aF,au,aB,bI,ch,ae,go_sem];refine lQ (hXb) ?_;simp only [g0,nr,g1,AJ,g2,uz,gt,uL,aF,au,aB,bI,ch,ae,go_sem];refine lQ (hXc) ?_;simp only [g0,nr,g1,AJ,g2,uz,gt,uL,aF,au,aB,bI,ch,ae,go_sem];exact hK _ (by first|(rw [dX];done)|(rw [dX,fe];done)|(rw [dX,jL];done)|(rw [dX];simp;done)|rfl)
 have h12:=k9 aaw;simp only [go_sem];apply bE <;> intro aax;·have h13:=qB aax;have hk9:=hq.q9 (.inr h13);(obtain⟨a,q,dd⟩:∃ a q,x.kids=a :: q:=by cases h:x.kids with|nil=>rw [h] at hk9;simp at hk9|cons a q=>exact⟨a,q,rfl⟩);rw [dd,af] at hk9;(have g0:x.kids[0]?=some a:=by rw [dd];rfl);(have nr:(0:Int)<(x.kids.length:Int):=by rw [dd];simp only [af];omega);have HH:=ow (hX a (aw g0)).1;obtain⟨u,ur,Ot⟩:=hx.ty (by omega) (by omega);(have gt:x.types[0]?=some u:=by rw [Ot];rfl);(have uL:(0:Int)<(x.types.length:Int):=by rw [Ot];simp only [af];omega);have Yq:=pj (hT u (aw gt));have dX:=ad8 h13 dd gt;have ec:=hb;rw [dX] at ec;simp only [ab,af,ah,bA] at ec;have z1:fH u.pr 1:=⟨by omega⟩;have z2:fH a.pr 1:=⟨by omega⟩;have z3:fH (D1 x.labels (q.map Ex.pr)) 1:=⟨by omega⟩;simp only [g0,nr,gt,uL,aF,au,aB,bI,ch,ae,go_sem];refine lr [pN,pR,pR,pR,pN,pN,pN,pN,pR,pR,pN,pN,pN,pR,pN,pN,pN,pN] 0 ?_;simp only [g0,nr,gt,uL,aF,au,aB,bI,ch,ae,go_sem];refine lQ (Yq) ?_;simp only [g0,nr,gt,uL,aF,au,aB,bI,ch,ae,go_sem];refine lQ (HH) ?_;simp only [g0,nr,gt,uL,aF,au,aB,bI,ch,ae,go_sem];refine lQ (Yn dd (by omega) hx.ll (by omega) fun k hk=>(hX k (by rw [dd];exact bZ _ hk)).1) ?_;simp only [g0,nr,gt,uL,aF,au,aB,bI,ch,ae,go_sem];exact hK _ (by first|(rw [dX];done)|(rw [dX,fe];done)|(rw [dX,jL];done)|(rw [dX];simp;done)|rfl)
 have h13:=k9 aax;simp only [go_sem];apply bE <;> intro aay;·have h14:=qB aay;obtain⟨u,ur,Ot⟩:=hx.ty (by omega) (by omega);(have gt:x.types[0]?=some u:=by rw [Ot];rfl);(have uL:(0:Int)<(x.types.length:Int):=by rw [Ot];simp only [af];omega);have Yq:=pj (hT u (aw gt));have dX:=ad9 h14 gt;have ec:=hb;rw [dX] at ec;simp only [ab,af,ah,bA] at ec;have z1:fH u.pr 1:=⟨by omega⟩;have z2:fH (ML (x.kids.map Ex.pr)) 1:=⟨by omega⟩;simp only [gt,uL,aF,au,aB,bI,ch,ae,go_sem];refine cL (Yq) ?_;simp only [gt,uL,aF,au,aB,bI,ch,ae,go_sem];refine cL (Yh x.kids hx.lk (by omega) fun k hk=>(hX k hk).1) ?_;simp only [gt,uL,aF,au,aB,bI,ch,ae,go_sem];exact hK _ (by first|(rw [dX];done)|(rw [dX,fe];done)|(rw [dX,jL];done)|(rw [dX];simp;done)|rfl)
 have h14:=k9 aay;simp only [go_sem];apply bE <;> intro aaz;·have h15:=qB aaz;have mM:=hx.kd;rw [show gg x=3 by simp [gg,h15]] at mM;obtain⟨a,g0⟩:=gB x.kids 0 (by omega);(have nr:(0:Int)<(x.kids.length:Int):=by omega);have HH:=ow (hX a (aw g0)).1;obtain⟨b,g1⟩:=gB x.kids 1 (by omega);(have AJ:(1:Int)<(x.kids.length:Int):=by omega);have hXb:=ow (hX b (aw g1)).1;obtain⟨c,g2⟩:=gB x.kids 2 (by omega);(have uz:(2:Int)<(x.kids.length:Int):=by omega);have hXc:=ow (hX c (aw g2)).1;obtain⟨u,ur,Ot⟩:=hx.ty (by omega) (by omega);(have gt:x.types[0]?=some u:=by rw [Ot];rfl);(have uL:(0:Int)<(x.types.length:Int):=by rw [Ot];simp only [af];omega);have Yq:=pj (hT u (aw gt));have dX:=aea h15 g0 g1 g2 gt;have ec:=hb;rw [dX] at ec;simp only [ab,af,ah,bA] at ec;have z1:fH u.pr 1:=⟨by omega⟩;have z2:sx x.name:=⟨by omega⟩;have z3:sx x.text:=⟨by omega⟩;have z4:fH a.pr 1:=⟨by omega⟩;have z5:fH b.pr 1:=⟨by omega⟩;have z6:fH c.pr 1:=⟨by omega⟩;simp only [g0,nr,g1,AJ,g2,uz,gt,uL,aF,au,aB,bI,ch,ae,go_sem];refine lr [pN,pR,pR,pR,pN,pN,pN,pN,pR,pN,pN,pN,pR,pN,pN,pN,pR,pR,pN,pN,pN,pN,pR,pR,pN,pN,pN,pN,pR,pR,pN,pN,pN] 0 ?_;simp only [g0,nr,g1,AJ,g2,uz,gt,uL,aF,au,aB,bI,ch,ae,go_sem];refine lQ (Yq) ?_;simp only [g0,nr,g1,AJ,g2,uz,gt,uL,aF,au,aB,bI,ch,ae,go_sem];refine lQ (HH) ?_;simp only [g0,nr,g1,AJ,g2,uz,gt,uL,aF,au,aB,bI,ch,ae,go_sem];refine lQ (hXb) ?_;simp only [g0,nr,g1,AJ,g2,uz,gt,uL,aF,au,aB,bI,ch,ae,go_sem];refine lQ (hXc) ?_;simp only [g0,nr,g1,AJ,g2,uz,gt,uL,aF,au,aB,bI,ch,ae,go_sem];exact hK _ (by first|(rw [dX];done)|(rw [dX,fe];done)|(rw [dX,jL];done)|(rw [dX];simp;done)|rfl)
 have h15:=k9 aaz;have HF:x.kind=16:=by have:=hx.k0;have:=hx.k1;omega
 have ko:=aiK HF hq OU hX hb;simp only [go_sem];refine cL (ko) ?_;simp only [go_sem];exact hK _ (by first|(rw [dX];done)|(rw [dX,fe];done)|(rw [dX,jL];done)|(rw [dX];simp;done)|rfl)
end
end
noncomputable def Ff (s:g6):Bool:=@decide (∃ j:Nat,s[j]?=some (47:UInt8)) (Classical.propDecidable _)
theorem aaA {s:g6} {i:Nat} {c:UInt8} (h:s[i]?=some c) (hc:(c.toNat:Int)=47):Ff s=true:=by unfold Ff;refine @decide_eq_true _ (Classical.propDecidable _) ⟨i,?_⟩;rw [h];congr 1;exact avR.1 (by show c.toNat=47;omega)
theorem UO {s:g6} (h:∀ j<s.size,∀ c,s[j]?=some c->¬ (c.toNat:Int)=47):Ff s=false:=by
 unfold Ff;refine @decide_eq_false _ (Classical.propDecidable _) fun ⟨j,hj⟩=>?_;have bH:j<s.size:=by (rcases bn j s.size with h|h);(·exact h);rw [getElem?_neg s j (by omega)] at hj;cases hj
 exact h j bH 47 hj rfl
theorem Dh:∀ (N:Nat) (t:Ty),t.size<=N->t.wt<=1048576->(∀ v∈t.nodes,pd v=0/\¬ v.kind=9)->VT t
 | 0,t,h,_,_=>absurd t.size_pos (by omega)
 | N+1,t,h,hw,hn=>by
  have h1:=t.eA
  have h2:=t.fF
  have Cx:=Ty.oF _ t (aA _) fun u hu=>(hn u hu).1
  have hsw:=t.de
  have hp:∀ u∈t.parts,VT u:=fun u hu=>by
   obtain⟨i,hi⟩:=br.1 hu
   have q1:=bX Ty.size hi
   have q2:=Ty.oW (show u∈t.nodes by rw [t.dZ];exact bZ _ (fU.2 ⟨u,hu,u.iL⟩))
   exact Dh N u (by omega) (by omega) fun v hv=>hn v (by rw [t.dZ];exact bZ _ (fU.2 ⟨u,hu,hv⟩))
  have h0:=hn t t.iL
  exact MI t (ME h0.1 h0.2) (by omega) (by omega) (fun u hu=>hp u (fT _ hu)) (fun x hx=>hp x.ty (gO _ (aa1 hx))) (by omega)
theorem Di (s:g6) (hs:s.size<=1048576):Cn 98 [str s] (bl (Ff s)):=by
 refine cM [] 14 [.tmp 2] Tryz.func98 Tryz.call98 fun K hK=>?_;have rJ:ak.underlying 9=some .string:=Tryz.underlying9;have sl:=zY;simp only [sl,go_sem];refine di tt_ok [] [3] 0 [0] (fun vs=>((s.size:Int)-Go.Eng.intOf (vs.headD .undef)).toNat) (fun vs=>∃ i:Nat,vs=[num i]/\i<=s.size/\∀ j<i,∀ c,s[j]?=some c->¬ (c.toNat:Int)=47) (by omega) (by simp only [sl,go_sem]) (⟨0,rfl,aY _,fun j hj=>absurd hj (bR j)⟩) fun vs hI Z1 dm=>?_;obtain⟨i,rfl,hi,cZ⟩:=hI;simp only [sl,go_sem];apply bE <;> intro NJ;·have bH:=jq NJ;have hw:=bj i (by omega);obtain⟨c,su⟩:=er (s:=s) (i:=i) bH;have ic:=eM (P:=ak) s rJ .i64 (i:Int) (by omega) (c:=c) (show s[((i:Nat):Int).toNat]?=some c from su);simp only [hw,ic,sl,go_sem];apply bE <;> intro o1;(·have cj:true=Ff s:=(aaA su (by simpa using o1)).symm;simp only [hw,ic,sl,go_sem];exact hK _ (yJ bl cj));simp only [hw,ic,sl,go_sem];refine dm _ (fN (by omega) (by simp only [hw,ic,sl,go_sem]) ?_ ?_) <;> simp only [eO,lk,reduceIte,zE];(·refine⟨i+1,rfl,bH,fun j hj=>?_⟩;(rcases bn j i with h|h);(·exact cZ j h);(obtain rfl:j=i:=by omega);intro y hy;rw [su] at hy;cases hy;simpa using o1);simp only [Go.Eng.intOf,a7];omega
 have fP:=ki NJ;have cj:false=Ff s:=(UO fun j hj=>cZ j (by omega)).symm;simp only [sl,go_sem];exact hK _ (yJ bl cj)
end Go.Proofs.YtfbbfmcggbapoaaGreatDoor
end
section
namespace Go.Proofs.YtfbbfmcggbapoaaGreatDoor
open Go.Eng
def wdU (c:UInt8):Bool:=uV c.toNat
theorem Yr {s:List UInt8} (h:1<=s.length):∃ c q,s=c :: q:=by cases s with|nil=>simp at h|cons a q=>exact⟨a,q,rfl⟩
theorem MQ {s:List UInt8} (h:dC ⟨s.toArray⟩=true):∃ c q,s=c :: q/\GD c.toNat=true/\s.all wdU=true:=by simp only [dC,aG,decide_eq_true_eq,mC] at h;obtain⟨⟨⟨⟨h1,-⟩,h3⟩,h4⟩,-⟩:=h;obtain⟨c,q,rfl⟩:=Yr (s:=s) (by simpa [ByteArray.size] using h1);exact⟨c,q,rfl,h3,by simpa [wdU] using h4⟩
end Go.Proofs.YtfbbfmcggbapoaaGreatDoor
end
section
namespace Go.Proofs.YtfbbfmcggbapoaaGreatDoor
open Go.Eng
variable [bJ]
open Nat renaming reduceAdd -> zA, reduceLT -> zB, reduceLeDiff -> zC, reduceMul -> zD, reduceEqDiff -> zE, reduceSub -> zF
theorem aec {t:Ty} (h:pd t=0) (hk:t.kind=10):lD t.mod=true/\iv t.name=true:=by
 unfold pd at h;split at h;· simp at h
 split at h;· simp at h
 split at h;· simp at h
 rename_i h4;cases h6:lD t.mod <;> cases h7:iv t.name <;> simp [hk,h6,h7] at h4 ⊢
section
noncomputable def sC (t:Ty):Bool:=t.nodes.all fun u=>!(decide (u.kind=9)||Ff u.mod)
theorem aed (t:Ty):sC t=(!(decide (t.kind=9)||Ff t.mod)&&t.parts.all sC):=by unfold sC;rw [t.dZ,cI,avX]
def SrV (t:Ty):Prop:=Cn 39 [cA t] (bl (sC t))
theorem Hj {t:Ty} (h:SrV t):Cn 39 [.agg (tM t)] (bl (sC t)):=by unfold SrV at h;simp only [aF,au,ax,aB] at h;exact h
theorem UP {s:g6} (h:dC s=true):Ff s=false:=by
 refine UO fun j hj c hc e=>?_;obtain⟨_,_,-,-,hw⟩:=MQ (s:=bt s) (by rw [show (⟨(bt s).toArray⟩:g6)=s from jL s];exact h);rw [getElem?_pos s j hj] at hc;have hm:c∈bt s:=by rw [<- mP hc];exact Array.mem_toList_iff.2 (Array.getElem_mem hj)
 have anY:c=47:=avR.1 (by show c.toNat=47;omega);have h2:=ba.1 hw c hm;rw [anY] at h2;revert h2;decide
theorem UQ {s:g6} (h:dH s=true):Ff s=true:=by obtain⟨j,-,hj⟩:=Td h;exact aaA hj rfl
theorem aee {s:g6} (h:dC s=true):dH s=false:=by cases e:dH s with|false=>rfl|true=>exact absurd (UQ e) (by rw [UP h];decide)
theorem Dj:Ff ⟨#[]⟩=false:=UO fun j hj=>absurd hj (bR j)
theorem UR {s:g6} (h:lD s=true):Ff s=dH s:=by
 simp only [lD,ez] at h;rcases h with (h|h)|h
 ·rw [show s=⟨#[]⟩ by simpa [jI] using h,yc,Dj]
 ·rw [UP h,aee h]
 rw [UQ h,h]
theorem aiN {u:Ty} (h:pd u=0):Ff u.mod=dH u.mod:=by
 rcases aiv h with hk|hm
 ·exact UR (aec h hk).1
 rw [hm,yc,Dj]
theorem uM {t:Ty} (h:∀ v∈t.nodes,pd v=0):sC t=kN t:=by unfold sC kN;refine De fun u hu=>?_;rw [aiN (h u hu)];cases decide (u.kind=9) <;> cases dH u.mod <;> rfl
theorem yf {α:Type} {p:α->Bool} {l:List α} {i:Nat} {a:α} (h:l[i]?=some a) (ha:p a=false):l.all p=false:=by rw [afG];intro e;rw [ba.1 e a (aw h)] at ha;cases ha
theorem yg {α:Type} {p:α->Bool} {l:List α} (h:∀ j<l.length,∀ a,l[j]?=some a->p a=true):l.all p=true:=by rw [ba];intro a ha;obtain⟨j,hj⟩:=br.1 ha;exact h j (az.1 hj).1 a hj
section
attribute [local go_sem] aC
theorem QL (t:Ty) (hm:t.mod.size<=1048576) (hl:t.parts.length<=1048576) (EN:t.args.length+t.bT.length<=34359738368) (hX:∀ u∈t.parts,SrV u):Cn 39 [cA t] (bl (sC t)):=by
 refine cM [] 27 [.tmp 2] Tryz.func39 Tryz.call39 fun K hK=>?_;have hpp:=xF t EN;have oK:=aed t;simp only [aF,au,ax,aB,ax] at hpp ⊢;simp only [go_sem];apply bE <;> intro z8 <;> simp only [go_sem];·exact hK _ (yJ bl (by rw [oK];simp_all))
 refine cL (Di t.mod hm) ?_;simp only [go_sem];apply bE <;> intro x9 <;> simp only [go_sem];·exact hK _ (yJ bl (by rw [oK];simp_all))
 refine cL ((⟨_,rfl,hpp⟩:∃ r_,(fun w=>w = .slice (t.parts.map cA)) r_/\_)) ?_;simp only [go_sem];refine di tt_ok [] [4] 1 [3,12] (fun vs=>((t.parts.length:Int)-Go.Eng.intOf (vs.headD .undef)).toNat) (fun vs=>∃ i:Nat,vs=[num i]/\i<=t.parts.length/\∀ j<i,∀ u,t.parts[j]?=some u->sC u=true) (by omega) (by simp only [go_sem]) (⟨0,rfl,aY _,fun j hj=>absurd hj (bR j)⟩) fun vs hI Z1 dm=>?_;obtain⟨i,rfl,hi,cZ⟩:=hI;simp only [go_sem];apply bE <;> intro qQ;·have bH:=jq qQ;have hw:=bj i (by omega);obtain⟨u,dd⟩:=gA bH;(have bF:(i:Int)<(t.parts.length:Int):=by omega);simp only [hw,ae,dd,bF,aF,au,ax,aB,go_sem];refine cL (Hj (hX u (aw dd))) ?_;simp only [hw,ae,dd,bF,aF,au,ax,aB,go_sem];apply bE <;> intro US;(·have wR:=yf (p:=sC) dd (by simpa using US);simp only [hw,ae,dd,bF,aF,au,ax,aB,go_sem];exact hK _ (yJ bl (by rw [oK];simp_all)));simp only [hw,ae,dd,bF,aF,au,ax,aB,go_sem];refine dm _ (fN (by omega) (by simp only [hw,ae,dd,bF,aF,au,ax,aB,go_sem]) ?_ ?_) <;> simp only [eO,lk,reduceIte,zE];(·refine⟨i+1,rfl,bH,fun j hj=>?_⟩;(rcases bn j i with h|h);(·exact cZ j h);(obtain rfl:j=i:=by omega);intro y hy;rw [dd] at hy;cases hy;simpa using US);simp only [Go.Eng.intOf,a7];omega
 have fP:=ki qQ;have wR:=yg (p:=sC) fun j hj a ha=>cZ j (by omega) a ha;simp only [go_sem];exact hK _ (yJ bl (by rw [oK];simp_all))
end
end
theorem aef (T:g9) (x y:Operand) (a b:g6):dy ak (oy .gtr T x y) (str a) (str b)=some (bl (!Op.bytesLess a.toList b.toList && !decide (a=b))):=by simp [dy,fq,oy,binOp,Op.stringOp,eqGuard,dL,j6,bind,pure,Sem.bind,cY]
theorem UT (a b:g6):S3 b a=(!Op.bytesLess a.toList b.toList && !decide (a=b)):=by
 rw [show Op.bytesLess a.toList b.toList=S3 a b from rfl,GF,GF];by_cases h:a=b;·subst h;simp [avW]
 have dI:a.data.toList≠b.data.toList:=fun e=>h (by cases a;cases b;congr 1;exact ake.1 e);by_cases h1:a.data.toList<b.data.toList;·have h2:¬ b.data.toList<a.data.toList:=fun h2=>avW _ (awk h1 h2);simp [h1,h2]
 have h2:b.data.toList<a.data.toList:=awF h1 dI.symm;simp [h1,h2,h]
theorem Bf (t:Ty):L8 t=(!(decide (t.kind<0)||decide (10<t.kind)) && !(!decide (t.kind=10)&&(!decide ((t.args.length:Int)=(if t.kind=5\/t.kind=8 then 1 else 0)) || !decide (t.mod=⟨#[]⟩)) || !(decide (t.kind=6)||decide (t.kind=7)||decide (t.kind=8))&&decide (0<(t.bT.length:Int)) || !decide (t.kind=10) && !decide (t.kind=9) && !decide (t.name=⟨#[]⟩)) && !(t.bT.any fun x=>x.opt && !decide (t.kind=8))):=by
 have Bx:t.kind≠8->(t.bT.any fun x=>x.opt && !decide (t.kind=8))=t.bT.any Fd.opt:=fun h=>by simp [h]
 have UU:t.kind=8->(t.bT.any fun x=>x.opt && !decide (t.kind=8))=false:=fun h=>by simp [h]
 have zi:∀ n:Nat,decide (0<(n:Int)) = !decide (n=0):=fun n=>by by_cases h:n=0 <;> simp [h] <;> omega
 by_cases hk:t.kind<0\/10<t.kind;·(have h1:(decide (t.kind<0)||decide (10<t.kind))=true:=by simpa using hk);rw [h1];unfold L8;rw [g5 (by omega),g5 (by omega),g5 (by omega),g5 (by omega),g5 (by omega),g5 (by omega)];simp
 have:t.kind=0\/t.kind=1\/t.kind=2\/t.kind=3\/t.kind=4\/t.kind=5\/t.kind=6\/t.kind=7\/t.kind=8\/t.kind=9\/t.kind=10:=by omega
 have he:t.bT.length=0->t.bT.any Fd.opt=false:=fun h=>by rw [b9.1 h];rfl
 unfold L8 jI;rw [zi];obtain⟨nf,Q5⟩:=gz (decide (t.bT.length=0));obtain⟨em,iK⟩:=gz (decide (t.mod=⟨#[]⟩));obtain⟨en,gp⟩:=gz (decide (t.name=⟨#[]⟩));obtain⟨ao,hao⟩:=gz (t.bT.any Fd.opt);have h0:decide ((t.args.length:Int)=0)=decide (t.args.length=0):=by simp only [ci0]
 have h1:decide ((t.args.length:Int)=1)=decide (t.args.length=1):=by simp only [ci1]
 obtain⟨a0,ha0⟩:=gz (decide (t.args.length=0));obtain⟨a1,ha1⟩:=gz (decide (t.args.length=1));have VX:nf=true->ao=false:=fun h=>by rw [<- hao];exact he (qB (Q5.trans h))
 rcases this with h|h|h|h|h|h|h|h|h|h|h <;> first
  | (rw [UU h,hao,Q5,iK,gp];simp only [h,dB,Int.reduceLT,or_false,or_true,false_or,true_or,if_true,if_false,reduceIte,h0,h1,ha0,ha1,decide_true,decide_false];clear Bx UU zi he Q5 iK gp hao ha0 ha1 h0 h1 hk;cases em <;> cases en <;> cases nf <;> cases a0 <;> cases a1 <;> cases ao <;> first|rfl|(cases VX rfl))
  | (rw [Bx (by rw [h];decide),hao,Q5,iK,gp];simp only [h,dB,Int.reduceLT,or_false,or_true,false_or,true_or,if_true,if_false,reduceIte,h0,h1,ha0,ha1,decide_true,decide_false];clear Bx UU zi he Q5 iK gp hao ha0 ha1 h0 h1 hk;cases em <;> cases en <;> cases nf <;> cases a0 <;> cases a1 <;> cases ao <;> first|rfl|(cases VX rfl))
theorem UW {t:Ty} (hs:L8 t=true) (h:(decide ((32:Int)<(t.bT.length:Int))||decide (t.kind=10)&&decide ((8:Int)<(t.args.length:Int)))=false):¬ (32<t.bT.length\/8<t.args.length):=by
 unfold L8 at hs;simp only [eH,awM,decide_eq_false_iff_not,aG] at h hs;obtain⟨-,hs⟩:=hs;have h1:=h.1;have h2:=h.2;intro hc;rcases hc with hc|hc
 ·exact h1 (by omega)
 rcases h2 with h2|h2
 ·(repeat' split at hs);all_goals first|(simp only [aG,decide_eq_true_eq] at hs;omega)|(simp at hs;done)|omega
 exact h2 (by omega)
theorem aeg (t:Ty):pd t=if (decide (t.kind<0)||decide (10<t.kind))=true then 1 else if (!decide (t.kind=10)&&(!decide ((t.args.length:Int)=(if t.kind=5\/t.kind=8 then 1 else 0)) || !decide (t.mod=⟨#[]⟩)) || !(decide (t.kind=6)||decide (t.kind=7)||decide (t.kind=8))&&decide (0<(t.bT.length:Int)) || !decide (t.kind=10) && !decide (t.kind=9) && !decide (t.name=⟨#[]⟩))=true then 1 else if (t.bT.any fun x=>x.opt && !decide (t.kind=8))=true then 1 else if (decide ((32:Int)<(t.bT.length:Int))||decide (t.kind=10)&&decide ((8:Int)<(t.args.length:Int)))=true then 7 else if (decide (t.kind=9) && !yR t.name||decide (t.kind=10)&&(!lD t.mod || !iv t.name))=true then 4 else if (t.bT.any fun x=>!dC x.name)=true then 4 else iU (t.bT.map Fd.name):=by
 rw [T5];by_cases a:(decide (t.kind<0)||decide (10<t.kind))=true;·rw [gH a,gH (by rw [Bf,a];rfl)]
 rw [g5 a];rw [HA] at a;by_cases b:(!decide (t.kind=10)&&(!decide ((t.args.length:Int)=(if t.kind=5\/t.kind=8 then 1 else 0)) || !decide (t.mod=⟨#[]⟩)) || !(decide (t.kind=6)||decide (t.kind=7)||decide (t.kind=8))&&decide (0<(t.bT.length:Int)) || !decide (t.kind=10) && !decide (t.kind=9) && !decide (t.name=⟨#[]⟩))=true;·rw [gH b,gH (by rw [Bf,a,b];rfl)]
 rw [g5 b];rw [HA] at b;by_cases c:(t.bT.any fun x=>x.opt && !decide (t.kind=8))=true;·rw [gH c,gH (by rw [Bf,a,b,c];rfl)]
 rw [g5 c];rw [HA] at c;have hs:L8 t=true:=by rw [Bf,a,b,c];rfl
 rw [g5 (by rw [hs];simp)];by_cases d:(decide ((32:Int)<(t.bT.length:Int))||decide (t.kind=10)&&decide ((8:Int)<(t.args.length:Int)))=true;·rw [gH d,gH (by simp only [ez,aG,decide_eq_true_eq] at d;omega)]
 rw [g5 d,g5 (UW hs (by rw [HA] at d;exact d))];by_cases e:(decide (t.kind=9) && !yR t.name||decide (t.kind=10)&&(!lD t.mod || !iv t.name))=true;·rw [gH e,gH (by simpa using e)]
 rw [g5 e,g5 (by simpa using e)]
end Go.Proofs.YtfbbfmcggbapoaaGreatDoor
end
