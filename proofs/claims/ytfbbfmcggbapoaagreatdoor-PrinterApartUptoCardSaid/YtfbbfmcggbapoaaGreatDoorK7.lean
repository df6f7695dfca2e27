import Derived.Test.YtfbbfmcggbapoaaGreatDoorK6
open Bool renaming and_eq_true→aJ,and_false→bx,and_true→aU,eq_false_iff→auE,false_and→bw,false_or→bX,not_eq_true'→ej,not_false→a8,not_true→bG,or_eq_true→dN,or_false→bT,or_self→cE,or_true→ca,true_and→a6,true_eq_false→auN,true_or→cf
open Decidable renaming byContradiction→auY
open Go.Proofs.Tryz renaming prog→aj
open Int renaming cast_ofNat_Int→dY,le_refl→bY,natCast_nonneg→fP,reduceEq→iL,toNat_natCast→ru
open List renaming all_cons→cI,all_nil→dM,any_eq_false→km,append_assoc→al,append_nil→ah,cons_append→aw,drop_eq_getElem_cons→dW,drop_eq_nil_of_le→eH,eq_nil_of_length_eq_zero→auy,flatMap_cons→ab,flatMap_map→atP,flatMap_nil→ag,foldl_nil→atH,getElem?_eq_getElem→au,getElem?_eq_some_iff→aA,getElem?_map→aq,headD_cons→cg,length_append→ae,length_cons→af,length_map→ax,length_nil→ai,length_take→lg,map_append→fF,map_cons→bm,map_nil→iK,mem_append→eA,mem_append_left→dD,mem_append_right→eP,mem_cons→b8,mem_cons_of_mem→bj,mem_cons_self→cV,mem_flatMap→e9,mem_iff_getElem?→bB,mem_map→cQ,mem_of_getElem?→aE,nil_append→aC,not_mem_nil→ef,replicate_succ→aG,replicate_zero→aH,take_add_one→bH,take_length→az,take_of_length_le→dX,take_zero→xV
open Nat renaming le_refl→ay,le_trans→fU,lt_or_ge→bS,not_lt_zero→iH,zero_add→dL,zero_le→ck
open Option renaming getD_some→atZ,map_eq_some_iff→aY
open Option.some renaming inj→gD
set_option linter.all false
section
namespace Go.Proofs.YtfbbfmcggbapoaaGreatDoor
open Go.Eng
variable [ba]
open Nat renaming reduceAdd → zA, reduceLT → zB, reduceLeDiff → zC, reduceMul → zD, reduceEqDiff → zE, reduceSub → zF
set_option maxHeartbeats 4000000
set_option maxRecDepth 100000
section
structure ExG (x:Ex) (f:Fo):Prop where
 m:iZ f.fl ⟨#[109]⟩=false→x.mod=⟨#[]⟩
 n:iZ f.fl ⟨#[110]⟩=false→x.name=⟨#[]⟩
 t:iZ f.fl ⟨#[120]⟩=false→x.text=⟨#[]⟩
 u:iZ f.fl ⟨#[98]⟩=false→x.num=0
 lv:iZ f.fl ⟨#[118]⟩=false→∀ l∈x.labels,l.var=⟨#[]⟩
 lt:iZ f.fl ⟨#[116]⟩=false→∀ l∈x.labels,l.ty=Wm
 lo:iZ f.fl ⟨#[111]⟩=false→∀ l∈x.labels,l.opt=false
theorem agN {t:Ty} (h:jD t=true):t=Wm:=by obtain⟨k,m,n,a,fl⟩:=t;unfold jD at h;simp only [aJ] at h;obtain⟨⟨⟨⟨h1,h2⟩,h3⟩,h4⟩,h5⟩:=h;obtain rfl:k=0:=of_decide_eq_true h1;obtain rfl:m=⟨#[]⟩:=of_decide_eq_true h2;obtain rfl:n=⟨#[]⟩:=of_decide_eq_true h3;obtain rfl:a=[]:=jk (of_decide_eq_true h4);obtain rfl:fl=[]:=jk (of_decide_eq_true h5);rfl
theorem acf {x:Ex} {f:Fo} (ok:kJ x f):ExG x f:=by
 have h:=ok.fits;simp only [qV,aJ,ej] at h;obtain⟨⟨⟨⟨⟨⟨⟨⟨⟨h1,h2⟩,h3⟩,h4⟩,-⟩,-⟩,-⟩,-⟩,-⟩,xe⟩:=h;have hl:=km.1 xe;refine⟨fun h=>?_,fun h=>?_,fun h=>?_,fun h=>?_,fun h l m=>?_,fun h l m=>?_,fun h l m=>?_⟩;·simpa [q1,h,jJ] using h1
 ·simpa [q2,h,jJ] using h2
 ·simpa [q3,h,jJ] using h3
 ·simpa [q4,h] using h4
 ·have:=hl l m;simp only [lH,h,a8,aU,dN,not_or] at this;simpa [jJ] using this.1.1
 ·have:=hl l m;simp only [lH,h,a8,aU,dN,not_or] at this;exact agN (by simpa using this.1.2)
 have:=hl l m;simp only [lH,h,a8,aU,dN,not_or] at this;simpa using this.2
theorem Mi {x:Ex} (h:wX x=0):(x.labels.map Lb.name).Pairwise fun a b=>zM a b=true:=by
 unfold wX at h;split at h;· simp at h
 split at h;· simp at h
 split at h;· simp at h
 split at h;· simp at h
 split at h;· rename_i h1;exact absurd h h1
 rename_i h1;exact xQ (by simpa using h1)
structure SrM (u:Ex):Prop extends SrN u where
 k9:∀ t∈u.own,∀ v∈t.nodes,v.kind≠9
 k4:u.kind=4→u.mod=⟨#[]⟩→u.types≠[]
structure KX (fT:PT Ty) (f:PT Ex) (n:Nat) (x:Ex) (f0:Fo):Prop where
 ok:kJ x f0
 s:SrM x
 sz:x.size≤n
 kd:∀ k∈x.kids,(1≤k.lvl→RX fT f n (dq k.pc) k k.lvl k.size)∧(∀ rest,Cx rest→f (dq k.pc++rest)=some (k,rest))∧∃ t r,dq k.pc=t :: r∧t≠bF [93]
 ty:∀ t∈x.own,∀ rest,wY rest→fT (dq t.pc++rest)=some (t,rest)
section
variable {fT:PT Ty} {f:PT Ex} {n:Nat} {x:Ex} {f0:Fo}
theorem KX.g (c:KX fT f n x f0):ExG x f0:=acf c.ok
theorem KX.F (c:KX fT f n x f0):ExF x f0:=J6 c.ok
theorem Ex.sS (x:Ex):Ex.mk x.kind x.mod x.name x.text x.num x.types x.labels x.kids=x:=by cases x;rfl
theorem Ex.gC (x:Ex):1≤x.size:=x.size_pos
theorem xS {α:Type} {g:α→Nat}:∀ {l:List α},(∀ a∈l,1≤g a)→l.length≤aM g l
 | [],_=>by simp
 | a :: r,h=>by
  have h1:=h a (by simp)
  have h2:=xS (l:=r) fun b hb=>h b (by simp [hb])
  simp only [af,aM];omega
theorem Mj (x:Ex):x.kids.length≤aM Ex.size x.kids:=xS fun k _=>k.size_pos
theorem agO (c:KX fT f n x f0) (hk:x.kind=0):RX fT f n (dq x.pc) x x.lvl x.size:=by
 have hf:=c.ok.form;have g:=c.g;have F:=c.F;rw [hk] at hf;cases hf;have e1:=g.m kr;have e2:=g.n kr;have e3:=g.t kr;have e4:x.types=[]:=jk (by have:=F.h7 (by decide);simpa using this);have e5:x.labels=[]:=jk (F.h8 rfl);have e6:x.kids=[]:=jk (by have:=F.h9 (by unfold ec;simp [hk,e5]);unfold ec at this;simp [hk,e5] at this;simp [this]);have ex:x = .mk 0 ⟨#[]⟩ ⟨#[]⟩ ⟨#[]⟩ x.num [] [] []:=by conv=>lhs;rw [← x.sS,e1,e2,e3,e4,e5,e6,hk]
 have hp:x.pc=itP x.num:=by rw [Ex.jF];unfold BD;simp only [hk,if_true]
 rw [hp];unfold itP;by_cases h0:x.num<0;·(have hl:x.lvl=7:=by unfold Ex.lvl;simp [hk,h0]);rw [if_pos h0,hl];refine sR x.gC c.sz ⟨bF [45],_,rfl,by decide,fun _=>by decide,fun h=>by omega⟩ (by omega) (fun _ m hm rest hr=>?_) (by omega) (by omega) (by omega) (by omega) (by omega) (by omega);obtain⟨k,rfl⟩:∃ k,m=k+1:=⟨m-1,by have:=x.gC;omega⟩;have h:=SZ h0 c.s.lo rest;rw [← ex] at h;unfold OX;rw [if_neg (by simp [dq,bF,fw]),if_pos (by simp [dq,bF])];exact h
 have hl:x.lvl=9:=by unfold Ex.lvl;simp [hk,h0]
 rw [if_neg h0,hl];refine j9 x.gC c.sz (t:=(3,Lib.decDigits x.num.toNat)) (r:=[]) rfl ⟨by simp [Ud,fw,bF],by simp [fw],by simp [fw],by simp [bF]⟩ fun rest hr=>?_;have h:=S4 fT f n (by omega:0≤x.num) c.s.hi rest;rw [← ex] at h;exact h
theorem agP (c:KX fT f n x f0) (hk:x.kind=1):RX fT f n (dq x.pc) x x.lvl x.size:=by
 have hf:=c.ok.form;have g:=c.g;have F:=c.F;rw [hk] at hf;cases hf;have e1:=g.m kr;have e2:=g.n kr;have e3:=g.u kr;have e4:x.types=[]:=jk (by have:=F.h7 (by decide);simpa using this);have e5:x.labels=[]:=jk (F.h8 rfl);have e6:x.kids=[]:=jk (by have:=F.h9 (by unfold ec;simp [hk,e5]);unfold ec at this;simp [hk,e5] at this;simp [this]);have ex:x = .mk 1 ⟨#[]⟩ ⟨#[]⟩ x.text 0 [] [] []:=by conv=>lhs;rw [← x.sS,e1,e2,e3,e4,e5,e6,hk]
 have hp:x.pc=[.tk 4 (bt x.text)]:=by rw [Ex.jF];unfold BD;simp [hk]
 have hl:x.lvl=9:=by unfold Ex.lvl;simp [hk]
 rw [hp,hl];refine j9 x.gC c.sz (t:=(4,bt x.text)) (r:=[]) rfl ⟨by simp [Ud,fw,bF],by simp [fw],by simp [fw],by simp [bF]⟩ fun rest hr=>?_;have h:=Wn fT f n (bt x.text) rest;rw [mT,← ex] at h;exact h
theorem agQ (c:KX fT f n x f0) (hk:x.kind=2):RX fT f n (dq x.pc) x x.lvl x.size:=by
 have hf:=c.ok.form;have g:=c.g;have F:=c.F;have X1:=F.h5 hk;rw [hk] at hf;cases hf;have e1:=g.m kr;have e2:=g.n kr;have e3:=g.t kr;have e4:x.types=[]:=jk (by have:=F.h7 (by decide);simpa using this);have e5:x.labels=[]:=jk (F.h8 rfl);have e6:x.kids=[]:=jk (by have:=F.h9 (by unfold ec;simp [hk,e5]);unfold ec at this;simp [hk,e5] at this;simp [this]);have ex:x = .mk 2 ⟨#[]⟩ ⟨#[]⟩ ⟨#[]⟩ x.num [] [] []:=by conv=>lhs;rw [← x.sS,e1,e2,e3,e4,e5,e6,hk]
 have hp:x.pc=if x.num=1 then [xO [116,114,117,101]] else [xO [102,97,108,115,101]]:=by rw [Ex.jF];unfold BD;simp [hk]
 have hl:x.lvl=9:=by unfold Ex.lvl;simp [hk]
 rw [hp,hl];rcases X1 with h0|h1
 ·rw [if_neg (by omega)];refine j9 x.gC c.sz (t:=fw [102,97,108,115,101]) (r:=[]) rfl ⟨by decide,by decide,by decide,by decide⟩ fun rest hr=>?_;have h:=Kn fT f n rest;rw [h0] at ex;rw [← ex] at h;exact h
 rw [if_pos h1];refine j9 x.gC c.sz (t:=fw [116,114,117,101]) (r:=[]) rfl ⟨by decide,by decide,by decide,by decide⟩ fun rest hr=>?_;have h:=Ot fT f n rest;rw [h1] at ex;rw [← ex] at h;exact h
end
end
section
section
variable {fT:PT Ty} {f:PT Ex} {n:Nat} {x:Ex} {f0:Fo}
theorem Td {r:List eL} (h:n5 Kq r):wY r:=fun e=>h _ e (by decide)
theorem agR {r:List eL} (h:n5 Kq r):r.head?≠some (bF [58,58]):=fun e=>h _ e (by decide)
theorem Te (x:Ex):x.types.length+1≤x.size:=by
 have h1:=x.size_eq;have h2:x.own.length≤aM Ty.size x.own:=xS fun t _=>t.size_pos;have h3:x.types.length≤x.own.length:=by unfold Ex.own;simp
 omega
theorem KX.tys (c:KX fT f n x f0):∀ t∈x.types,∀ rest,wY rest→fT (dq t.pc++rest)=some (t,rest):=fun t ht=>c.ty t (by unfold Ex.own;exact dD _ ht)
theorem agS (c:KX fT f n x f0) (hk:x.kind=3):RX fT f n (dq x.pc) x x.lvl x.size:=by
 have hf:=c.ok.form;have g:=c.g;have F:=c.F;rw [hk] at hf;cases hf;have e1:=g.m kr;have e2:=g.t kr;have e3:=g.u kr;have e4:x.types=[]:=jk (by have:=F.h7 (by decide);simpa using this);have e5:x.labels=[]:=jk (F.h8 rfl);have e6:x.kids=[]:=jk (by have:=F.h9 (by unfold ec;simp [hk,e5]);unfold ec at this;simp [hk,e5] at this;simp [this]);have ex:x = .mk 3 ⟨#[]⟩ x.name ⟨#[]⟩ 0 [] [] []:=by conv=>lhs;rw [← x.sS,e1,e2,e3,e4,e5,e6,hk]
 have hp:x.pc=[.tk 1 (bt x.name)]:=by rw [Ex.jF];unfold BD;simp [hk,Sw,e1,e4]
 have hl:x.lvl=9:=by unfold Ex.lvl;simp [hk]
 rw [hp,hl];refine j9 x.gC c.sz (t:=(1,bt x.name)) (r:=[]) rfl ⟨by simp [Ud,fw,bF],by simp [fw],by simp [fw],by simp [bF]⟩ fun rest hr=>?_;have h:=Me fT n (s:=x.name) (agR hr) (Kl (f:=fT) [] n rest (by simp) (Td hr) (by simp));simp only [iK,if_true,dq,aC] at h;rw [← ex] at h;exact (BO fT f n).trans h
theorem agT (c:KX fT f n x f0) (hk:x.kind=4):RX fT f n (dq x.pc) x x.lvl x.size:=by
 have hf:=c.ok.form;have g:=c.g;have F:=c.F;have hk4:=c.s.k4 hk;have Cw:=c.tys;have iw:=c.sz;have OS:=Te x;rw [hk] at hf;cases hf;have e2:=g.t kr;have e3:=g.u kr;have e5:x.labels=[]:=jk (F.h8 rfl);have e6:x.kids=[]:=jk (by have:=F.h9 (by unfold ec;simp [hk,e5]);unfold ec at this;simp [hk,e5] at this;simp [this]);have ex:x = .mk 4 x.mod x.name ⟨#[]⟩ 0 x.types [] []:=by conv=>lhs;rw [← x.sS,e2,e3,e5,e6,hk]
 have hp:x.pc=Sw 1 x.mod x.name (x.types.map Ty.pc):=by rw [Ex.jF];unfold BD;simp [hk]
 have hl:x.lvl=9:=by unfold Ex.lvl;simp [hk]
 rw [hp,hl];unfold Sw;have ha:=fun rest (hr:n5 Kq rest)=>Kl (f:=fT) x.types n rest (by omega) (Td hr) Cw;by_cases hm:x.mod=⟨#[]⟩;·rw [if_pos hm];have dy:=hk4 hm;refine j9 x.gC c.sz (t:=(1,bt x.name)) (r:=dq (if x.types.map Ty.pc=[] then [] else [fX [91]]++jp uX (x.types.map Ty.pc)++[fX [93]])) (by simp [cA,dq]) ⟨by simp [Ud,fw,bF],by simp [fw],by simp [fw],by simp [bF]⟩ fun rest hr=>?_;have h:=Me fT n (s:=x.name) (by rw [if_neg (by simpa using dy)];simp [dq,bF]) (ha rest hr);rw [if_neg dy] at h;rw [hm] at ex;rw [← ex] at h;simp only [cP,cA,dq] at h ⊢;exact (BO fT f n).trans h
 rw [if_neg hm];refine j9 x.gC c.sz (t:=(1,bt x.mod)) (r:=bF [58,58] :: (1,bt x.name) :: dq (if x.types.map Ty.pc=[] then [] else [fX [91]]++jp uX (x.types.map Ty.pc)++[fX [93]])) (by simp [cA,dq,bF]) ⟨by simp [Ud,fw,bF],by simp [fw],by simp [fw],by simp [bF]⟩ fun rest hr=>?_;have h:=Wq fT n (s:=x.mod) (v:=x.name) (ha rest hr);rw [← ex] at h;simp only [cP,cA,dq] at h ⊢;exact (BO fT f n).trans h
theorem KX.gvH (c:KX fT f n x f0) (h1:iZ f0.fl ⟨#[118]⟩=false) (h2:iZ f0.fl ⟨#[116]⟩=false) (h3:iZ f0.fl ⟨#[111]⟩=false):∀ l∈x.labels,l.var=⟨#[]⟩∧l.ty=Wm∧l.opt=false:=fun l hl=>⟨c.g.lv h1 l hl,c.g.lt h2 l hl,c.g.lo h3 l hl⟩
theorem agU (c:KX fT f n x f0) (hk:x.kind=5):RX fT f n (dq x.pc) x x.lvl x.size:=by
 have hf:=c.ok.form;have g:=c.g;have F:=c.F;have iw:=c.sz;have zf:=Mj x;have K9:=x.jt;have Kr:=Mi c.s.en;have iO:=c.kd;have hg:=c.gvH;rw [hk] at hf;cases hf;have e1:=g.m kr;have e2:=g.t kr;have e3:=g.u kr;have en:=g.n kr;have hgl:=hg kr kr kr;have e4:x.types=[]:=jk (by have:=F.h7 (by decide);simpa using this);have e6:x.labels.length=x.kids.length:=by have:=F.h9 (by unfold ec;simp [hk];try omega);unfold ec at this;simp [hk] at this;omega
 have ex:x=di 5 ⟨#[]⟩ [] x.labels x.kids:=by unfold di;conv=>lhs;rw [← x.sS,e1,e2,e3,e4,en,hk]
 have hp:x.pc=[fX [123]]++Kb x.labels (x.kids.map Ex.pc)++[fX [125]]:=by rw [Ex.jF];unfold BD;simp [hk]
 have hl:x.lvl=9:=by unfold Ex.lvl;simp [hk]
 rw [hp,hl];refine j9 x.gC c.sz (t:=bF [123]) (r:=dq (Kb x.labels (x.kids.map Ex.pc))++[bF [125]]) (by simp [cA,dq,bF]) ⟨by decide,by decide,by decide,by decide⟩ fun rest hr=>?_;have h:=Ta fT f n (Yi (f:=f) (close:=[125]) (n:=n) (rest:=rest) (by decide) (by decide) e6 (by omega) Kr hgl fun k hk=>(iO k hk).2.1);rw [← ex] at h;(simp only [cP,cA,dq,bF,fw,al] at h ⊢;exact h)
theorem sT {a:Ex} {q:List Ex} (h:x.kids=a :: q):a.size+aM Ex.size q+1≤x.size:=by have:=x.jt;rw [h] at this;simp only [aM] at this;omega
theorem agV (c:KX fT f n x f0) (hk:x.kind=7):RX fT f n (dq x.pc) x x.lvl x.size:=by
 have hf:=c.ok.form;have g:=c.g;have F:=c.F;have iO:=c.kd;rw [hk] at hf;cases hf;have e1:=g.m kr;have e2:=g.t kr;have e3:=g.u kr;have e4:x.types=[]:=jk (by have:=F.h7 (by decide);simpa using this);have e5:x.labels=[]:=jk (F.h8 rfl);obtain⟨a,ha⟩:=BM (l:=x.kids) (by have:=F.h9 (by unfold ec;simp [hk,e5]);unfold ec at this;simp [hk,e5] at this;omega);have ex:x=di 7 x.name [] [] [a]:=by unfold di;conv=>lhs;rw [← x.sS,e1,e2,e3,e4,e5,ha,hk]
 have hp:x.pc=[fX [60],B8 x.name]++Ub++a.pc++[fX [62]]:=by rw [Ex.jF];unfold BD;simp [hk,ha]
 have hl:x.lvl=9:=by unfold Ex.lvl;simp [hk]
 rw [hp,hl];refine j9 x.gC c.sz (t:=bF [60]) (r:=(1,bt x.name) :: bF [58] :: (dq a.pc++[bF [62]])) (by simp [cA,dq,bF]) ⟨by decide,by decide,by decide,by decide⟩ fun rest hr=>?_;have h:=S7 fT f n (v:=x.name) ((iO a (by simp [ha])).2.1 (bF [62] :: rest) (gY (by decide)));rw [← ex] at h;(simp only [cP,cA,dq,bF,fw,al] at h ⊢;exact h)
theorem ach (c:KX fT f n x f0) (hk:x.kind=11):RX fT f n (dq x.pc) x x.lvl x.size:=by
 have hf:=c.ok.form;have g:=c.g;have F:=c.F;have iO:=c.kd;have Cw:=c.tys;rw [hk] at hf;cases hf;have e1:=g.m kr;have e2:=g.t kr;have e3:=g.u kr;have en:=g.n kr;obtain⟨t,ht⟩:=BM (l:=x.types) (by have:(x.types.length:Int)=1:=F.h7 (by decide);omega);have e5:x.labels=[]:=jk (F.h8 rfl);obtain⟨a,ha⟩:=BM (l:=x.kids) (by have:=F.h9 (by unfold ec;simp [hk,e5]);unfold ec at this;simp [hk,e5] at this;omega);have ex:x=di 11 ⟨#[]⟩ [t] [] [a]:=by unfold di;conv=>lhs;rw [← x.sS,e1,e2,e3,ht,e5,ha,en,hk]
 have hp:x.pc=[fX [40]]++a.pc++[.sp 32,fX [58],.sp 32]++t.pc++[fX [41]]:=by rw [Ex.jF];unfold BD;simp [hk,ha,ht,ri]
 have hl:x.lvl=9:=by unfold Ex.lvl;simp [hk]
 rw [hp,hl];refine j9 x.gC c.sz (t:=bF [40]) (r:=dq a.pc++bF [58] :: (dq t.pc++[bF [41]])) (by simp [cA,dq,bF]) ⟨by decide,by decide,by decide,by decide⟩ fun rest hr=>?_;have h:=S6 fT f n ((iO a (by simp [ha])).2.1 (bF [58] :: (dq t.pc++bF [41] :: rest)) (gY (by decide))) (Cw t (by simp [ht]) (bF [41] :: rest) (by simp [wY,bF]));rw [← ex] at h;(simp only [cP,cA,dq,bF,fw,al] at h ⊢;exact h)
theorem aci (c:KX fT f n x f0) (hk:x.kind=14):RX fT f n (dq x.pc) x x.lvl x.size:=by
 have hf:=c.ok.form;have g:=c.g;have F:=c.F;have iO:=c.kd;have Cw:=c.tys;have iw:=c.sz;have zf:=Mj x;have K9:=x.jt;rw [hk] at hf;cases hf;have e1:=g.m kr;have e2:=g.t kr;have e3:=g.u kr;have en:=g.n kr;obtain⟨t,ht⟩:=BM (l:=x.types) (by have:(x.types.length:Int)=1:=F.h7 (by decide);omega);have e5:x.labels=[]:=jk (F.h8 rfl);have ex:x=di 14 ⟨#[]⟩ [t] [] x.kids:=by unfold di;conv=>lhs;rw [← x.sS,e1,e2,e3,ht,e5,en,hk]
 have hp:x.pc=[fX [91]]++t.pc++[fX [124]]++(if x.kids.map Ex.pc=[] then [] else [.sp 32]++jp uX (x.kids.map Ex.pc))++[fX [93]]:=by rw [Ex.jF];unfold BD;simp [hk,ht,ri]
 have hl:x.lvl=9:=by unfold Ex.lvl;simp [hk]
 rw [hp,hl];cases hq:x.kids with|nil =>rw [hq] at ex;refine j9 x.gC c.sz (t:=bF [91]) (r:=dq t.pc++[bF [124],bF [93]]) (by simp [cA,dq,bF]) ⟨by decide,by decide,by decide,by decide⟩ fun rest hr=>?_;have h:=Ko fT f n (Cw t (by simp [ht]) (bF [124] :: bF [93] :: rest) (by simp [wY,bF]));rw [← ex] at h;(simp only [cP,iK,if_true,cA,dq,bF,fw,al] at h ⊢;exact h)|cons a q =>rw [hq] at ex iO zf K9;obtain⟨ta,ra,hta,dy⟩:=(iO a (by simp)).2.2;(have hqq:∀ q:List Ex,(q.map Ex.pc).flatMap (fun y=>dq uX++dq y)=q.flatMap fun u=>bF [44] :: dq u.pc:=by intro q;rw [atP];rfl);(have htj:dq (jp uX ((a :: q).map Ex.pc))=dq a.pc++q.flatMap fun u=>bF [44] :: dq u.pc:=by rw [bm,BK,hqq]);refine j9 x.gC c.sz (t:=bF [91]) (r:=dq t.pc++bF [124] :: (dq (jp uX ((a :: q).map Ex.pc))++[bF [93]])) (by simp [cA,dq,bF]) ⟨by decide,by decide,by decide,by decide⟩ fun rest hr=>?_;have h1:=ab5 (f:=f) q a [] n rest (by simp at zf;omega) fun u hu=>(iO u hu).2.1;have h:=Kp fT f n (t:=t) (lt:=dq t.pc) (l:=dq a.pc++((q.flatMap fun u=>bF [44] :: dq u.pc)++bF [93] :: rest)) (rest:=rest) (Cw t (by simp [ht]) _ (by simp [wY,bF])) (by rw [hta];simpa using dy) h1;rw [aC,← ex] at h;rw [if_neg (by simp)];simp only [cP,cA,dq,bF,al,htj] at h ⊢;exact h
theorem agW (c:KX fT f n x f0) (hk:x.kind=6):RX fT f n (dq x.pc) x x.lvl x.size:=by
 have hf:=c.ok.form;have g:=c.g;have F:=c.F;have iO:=c.kd;have iw:=c.sz;rw [hk] at hf;cases hf;have e1:=g.m kr;have e2:=g.t kr;have e3:=g.u kr;have e4:x.types=[]:=jk (by have:=F.h7 (by decide);simpa using this);have e5:x.labels=[]:=jk (F.h8 rfl);obtain⟨a,ha⟩:=BM (l:=x.kids) (by have:=F.h9 (by unfold ec;simp [hk,e5]);unfold ec at this;simp [hk,e5] at this;omega);have ex:x=di 6 x.name [] [] [a]:=by unfold di;conv=>lhs;rw [← x.sS,e1,e2,e3,e4,e5,ha,hk]
 have hp:x.pc=qG a.lvl 8 a.pc++[fX [46],B8 x.name]:=by rw [Ex.jF];unfold BD;simp [hk,ha]
 have hl:x.lvl=8:=by unfold Ex.lvl;simp [hk]
 have has:=sT ha;simp only [aM] at has;have ka:=iO a (by simp [ha]);have A:RX fT f n (dq (qG a.lvl 8 a.pc)) a 8 a.size:=BP a.gC (by omega) (by decide) (fun h=>ka.1 (by omega)) ka.2.1;rw [hp,hl];have et:dq (qG a.lvl 8 a.pc++[fX [46],B8 x.name])=dq (qG a.lvl 8 a.pc)++[bF [46],(1,bt x.name)]:=by simp [cA,dq,bF]
 rw [et];refine sR x.gC c.sz (by obtain⟨t,r,q1,q2,q3,q4⟩:=A.hd;exact⟨t,r++[bF [46],(1,bt x.name)],by rw [q1];rfl,q2,fun _=>q3 (by decide),fun _=>q4 (by decide)⟩) (fun _ rest hr=>?_) (by omega) (by omega) (by omega) (by omega) (by omega) (by omega) (by omega);obtain⟨b,d,h1,h2,h3⟩:=A.p8 (by decide) (bF [46] :: (1,bt x.name) :: rest) (nS (by decide));refine⟨b+1,d+1,by omega,by omega,fun m hm=>?_⟩;have h:=h3 m (by omega);obtain⟨k,jI⟩:∃ k,m-b=k+1:=⟨m-b-1,by omega⟩;rw [jI,Wp,← ex] at h;rw [show m-(b+1)=k by omega,al];exact h
theorem agX (c:KX fT f n x f0) (hk:x.kind=9):RX fT f n (dq x.pc) x x.lvl x.size:=by
 have hf:=c.ok.form;have g:=c.g;have F:=c.F;have iO:=c.kd;have iw:=c.sz;have Kr:=Mi c.s.en;have hg:=c.gvH;rw [hk] at hf;cases hf;have e1:=g.m kr;have e2:=g.t kr;have e3:=g.u kr;have en:=g.n kr;have hgl:=hg kr kr kr;have e4:x.types=[]:=jk (by have:=F.h7 (by decide);simpa using this);have e6:x.kids.length=x.labels.length+1:=by have:=F.h9 (by unfold ec;simp [hk];try omega);unfold ec at this;simp [hk] at this;omega
 obtain⟨a,q,ha⟩:∃ a q,x.kids=a :: q:=by cases h:x.kids with|nil=>rw [h] at e6;simp at e6|cons a q=>exact⟨a,q,rfl⟩
 have e7:x.labels.length=q.length:=by rw [ha] at e6;simp at e6;omega
 have ex:x=di 9 ⟨#[]⟩ [] x.labels (a :: q):=by unfold di;conv=>lhs;rw [← x.sS,e1,e2,e3,e4,ha,en,hk]
 have hp:x.pc=qG a.lvl 8 a.pc++[fX [40]]++Kb x.labels (q.map Ex.pc)++[fX [41]]:=by rw [Ex.jF];unfold BD;simp [hk,ha]
 have hl:x.lvl=8:=by unfold Ex.lvl;simp [hk]
 have has:=sT ha;have BW:q.length≤aM Ex.size q:=xS fun k _=>k.size_pos;have ka:=iO a (by simp [ha]);have A:RX fT f n (dq (qG a.lvl 8 a.pc)) a 8 a.size:=BP a.gC (by omega) (by decide) (fun h=>ka.1 (by omega)) ka.2.1;rw [hp,hl];have et:dq (qG a.lvl 8 a.pc++[fX [40]]++Kb x.labels (q.map Ex.pc)++[fX [41]])=dq (qG a.lvl 8 a.pc)++(bF [40] :: (dq (Kb x.labels (q.map Ex.pc))++[bF [41]])):=by simp [cA,dq,bF]
 rw [et];refine sR x.gC c.sz (by obtain⟨t,r,q1,q2,q3,q4⟩:=A.hd;exact⟨t,r++(bF [40] :: (dq (Kb x.labels (q.map Ex.pc))++[bF [41]])),by rw [q1];rfl,q2,fun _=>q3 (by decide),fun _=>q4 (by decide)⟩) (fun _ rest hr=>?_) (by omega) (by omega) (by omega) (by omega) (by omega) (by omega) (by omega);obtain⟨b,d,h1,h2,h3⟩:=A.p8 (by decide) (bF [40] :: (dq (Kb x.labels (q.map Ex.pc))++bF [41] :: rest)) (nS (by decide));refine⟨b+1,d+1+q.length,by omega,by omega,fun m hm=>?_⟩;have h:=h3 m (by omega);obtain⟨k,jI⟩:∃ k,m-b=k+1:=⟨m-b-1,by omega⟩;have hgv:=Yi (f:=f) (close:=[41]) (n:=k) (rest:=rest) (by decide) (by decide) e7 (by omega) Kr hgl fun u hu=>(iO u (by rw [ha];exact bj _ hu)).2.1;have hc:=S9 f (m:=k) (e:=a) (l:=dq (Kb x.labels (q.map Ex.pc))++[bF [41]]) (rest:=rest) (p:=(x.labels,q)) (by rw [al];exact hgv);rw [al] at hc;rw [jI] at h;have h4:=h.trans hc;rw [← ex] at h4;rw [show m-(b+1)=k by omega];simpa only [al,aw,aC] using h4
end
end
section
section
variable {fT:PT Ty} {f:PT Ex} {n:Nat} {x:Ex} {f0:Fo} {la lb:List eL} {a b:Ex} {t:eL} {sa sb s:Nat}
theorem BQ {lv lw:Int} (A:RX fT f n la a lv sa) (hw:lw≤lv):∃ u r,la++t :: lb=u :: r∧u ∉ Ud∧(4≤lw→u≠fw (bt Fa))∧(8≤lw→u≠fw (bt E9)∧u≠bF [45]):=by obtain⟨u,r,q1,q2,q3,q4⟩:=A.hd;exact⟨u,r++t :: lb,by rw [q1];rfl,q2,fun h=>q3 (by omega),fun h=>q4 (by omega)⟩
theorem agY (ht:t∈[bF [42]]) (A:RX fT f n la a 6 sa) (B:RX fT f n lb b 7 sb) (h1:1≤sa) (hs:sa+sb+1≤s) (hb:sb≤n) (hn:s≤n):RX fT f n (la++t :: lb) (di 16 (oZ t.2) [] [] [a,b]) 6 s:=by refine sR (by omega) hn (BQ A (by decide)) (by omega) (by omega) (fun _ rest hr=>?_) (by omega) (by omega) (by omega) (by omega) (by omega);obtain⟨c,q1,q2⟩:=A.s6 (by decide) (t :: (lb++rest)) (nS ((by decide:∀ t∈[bF [42]],t ∉ o8) t ht));exact⟨c+1,by omega,wS ht q2 (B.u7 (by decide) n hb rest hr)⟩
theorem Tf (ht:t∈[bF [43],bF [45],bF [43,43]]) (A:RX fT f n la a 5 sa) (B:RX fT f n lb b 6 sb) (h1:1≤sa) (hs:sa+sb+1≤s) (hb:sb≤n) (hn:s≤n):RX fT f n (la++t :: lb) (di 16 (oZ t.2) [] [] [a,b]) 5 s:=by refine sR (by omega) hn (BQ A (by decide)) (by omega) (by omega) (by omega) (fun _ rest hr=>?_) (by omega) (by omega) (by omega) (by omega);obtain⟨c,q1,q2⟩:=A.s5 (by decide) (t :: (lb++rest)) (nS ((by decide:∀ t∈[bF [43],bF [45],bF [43,43]],t ∉ o6) t ht));exact⟨c+1,by omega,wS ht q2 (B.r6 hb (by decide) hr)⟩
theorem agZ (ht:t∈[fw [97,110,100]]) (A:RX fT f n la a 2 sa) (B:RX fT f n lb b 3 sb) (h1:1≤sa) (hs:sa+sb+1≤s) (hb:sb≤n) (hn:s≤n):RX fT f n (la++t :: lb) (di 16 (oZ t.2) [] [] [a,b]) 2 s:=by refine sR (by omega) hn (BQ A (by decide)) (by omega) (by omega) (by omega) (by omega) (by omega) (by omega) (fun _ rest hr=>?_) (by omega);obtain⟨c,q1,q2⟩:=A.s2 (by decide) (t :: (lb++rest)) (nS ((by decide:∀ t∈[fw [97,110,100]],t ∉ o4) t ht));exact⟨c+1,by omega,wS ht q2 (B.n3 (by decide) n hb rest hr)⟩
theorem ag0 (ht:t∈[fw [111,114]]) (A:RX fT f n la a 1 sa) (B:RX fT f n lb b 2 sb) (h1:1≤sa) (hs:sa+sb+1≤s) (hb:sb≤n) (hn:s≤n):RX fT f n (la++t :: lb) (di 16 (oZ t.2) [] [] [a,b]) 1 s:=by refine sR (by omega) hn (BQ A (by decide)) (by omega) (by omega) (by omega) (by omega) (by omega) (by omega) (by omega) (fun _ rest hr=>?_);obtain⟨c,q1,q2⟩:=A.s1 (by decide) (t :: (lb++rest)) (nS ((by decide:∀ t∈[fw [111,114]],t ∉ o2) t ht));exact⟨c+1,by omega,wS ht q2 (B.r2 hb (by decide) hr)⟩
theorem Tg (ht:t∈[bF [61,61],bF [61,61,61],bF [60]]) (A:RX fT f n la a 5 sa) (B:RX fT f n lb b 5 sb) (h1:1≤sa) (hs:sa+sb+1≤s) (ha:sa≤n) (hb:sb≤n) (hn:s≤n):RX fT f n (la++t :: lb) (di 16 (oZ t.2) [] [] [a,b]) 4 s:=by refine sR (by omega) hn (BQ A (by decide)) (by omega) (by omega) (by omega) (by omega) (fun _ rest hr=>?_) (by omega) (by omega) (by omega);have q1:=A.r5 ha (by decide) (rest:=t :: (lb++rest)) (nS ((by decide:∀ t∈[bF [61,61],bF [61,61,61],bF [60]],t ∉ o5) t ht));have q2:=B.r5 hb (by decide) (rest:=rest) (ui hr);rw [al,aw];show jy (pL4 fT f n) _ _=_;refine (c8 q1).trans ?_;show (if t∈_ then _ else _)=_;rw [if_pos ht];exact c8 q2
theorem acj (A:RX fT f n la a 3 sa) (hs:sa+1≤s) (hn:s≤n):RX fT f n (fw (bt Fa) :: la) (di 16 Fa [] [] [a]) 3 s:=by refine sR (by omega) hn ⟨_,_,rfl,by decide,by omega,by omega⟩ (by omega) (by omega) (by omega) (by omega) (by omega) (fun _ m hm rest hr=>?_) (by omega) (by omega);obtain⟨k,rfl⟩:∃ k,m=k+1:=⟨m-1,by omega⟩;rw [aw];show (if _ then _ else _)=_;exact (if_pos rfl).trans (c8 (A.n3 (by decide) k (by omega) rest hr))
theorem ack (A:RX fT f n la a 7 sa) (hs:sa+1≤s) (hn:s≤n):RX fT f n (fw (bt E9) :: la) (di 16 E9 [] [] [a]) 7 s:=by refine sR (by omega) hn ⟨_,_,rfl,by decide,fun _=>by decide,by omega⟩ (by omega) (fun _ m hm rest hr=>?_) (by omega) (by omega) (by omega) (by omega) (by omega) (by omega);obtain⟨k,rfl⟩:∃ k,m=k+1:=⟨m-1,by omega⟩;rw [aw];show (if _ then _ else _)=_;exact (if_pos rfl).trans (c8 (A.u7 (by decide) k (by omega) rest hr))
def Yk (s:ByteArray):eL:=if L4 s=true then fw (bt s) else bF (bt s)
theorem Th (s:ByteArray) (q:List Pc):dq (Wb s :: q)=Yk s :: dq q:=by unfold Wb Yk;split <;> rfl
theorem ag1 (s:ByteArray):oZ (Yk s).2=s:=by unfold Yk;split <;> exact mT s
theorem acm (c:KX fT f n x f0) (hk:x.kind=16):RX fT f n (dq x.pc) x x.lvl x.size:=by
 have hf:=c.ok.form;have g:=c.g;have F:=c.F;have iO:=c.kd;have iw:=c.sz;have jv:=c.ok.xy hk;rw [hk] at hf;cases hf;have e1:=g.m kr;have e2:=g.t kr;have e3:=g.u kr;have e4:x.types=[]:=jk (by have:=F.h7 (by decide);simpa using this);have e5:x.labels=[]:=jk (F.h8 rfl);have e0:ec x (-1)=xy x.name:=by unfold ec;rw [if_pos hk]
 have e6:(x.kids.length:Int)=xy x.name:=by rw [← e0];exact F.h9 (by show 0≤ec x (-1);rw [e0];rcases Sp x.name with h|h|h <;> omega)
 have ex:x=di 16 x.name [] [] x.kids:=by unfold di;conv=>lhs;rw [← x.sS,e1,e2,e3,e4,e5,hk]
 have hp:x.pc=Kd x (x.kids.map Ex.pc):=by rw [Ex.jF];unfold BD;simp [hk]
 have hl:x.lvl=(rm x.name).1:=by unfold Ex.lvl;simp [hk]
 have hm:x.name∈wy∨x.name∈uP:=by by_cases h1:qy x.name wy=true;(·left;simpa [qy] using h1);unfold xy at jv;rw [if_neg h1] at jv;by_cases h2:qy x.name uP=true;(·right;simpa [qy] using h2);rw [if_neg h2] at jv;exact absurd rfl jv
 rcases hm with hm|hm
 ·(have hN:xy x.name=2:=by unfold xy;rw [if_pos (by simpa [qy] using hm)]);rw [hN] at e6;(obtain⟨a,b,ha⟩:∃ a b,x.kids=[a,b]:=by match h:x.kids,(show x.kids.length=2 by omega) with|[a,b],_=>exact⟨a,b,rfl⟩);have has:=sT ha;simp only [aM] at has;have ka:=iO a (by simp [ha]);have kb:=iO b (by simp [ha]);have s1:=a.gC;have s2:=b.gC;have A:=fun (l:Int) (h1:1≤l) (h2:l≤9)=>BP (fT:=fT) (f:=f) (n:=n) (least:=l) a.gC (by omega) h2 (fun h=>ka.1 (by omega)) ka.2.1;have B:=fun (l:Int) (h1:1≤l) (h2:l≤9)=>BP (fT:=fT) (f:=f) (n:=n) (least:=l) b.gC (by omega) h2 (fun h=>kb.1 (by omega)) kb.2.1;(have ht:dq x.pc=dq (qG a.lvl (rm x.name).2.1 a.pc)++Yk x.name :: dq (qG b.lvl (rm x.name).2.2 b.pc):=by rw [hp];unfold Kd;simp [ha,cA,Th,dq]);(have ex2:x=di 16 (oZ (Yk x.name).2) [] [] [a,b]:=by rw [ag1,← ha];exact ex);rw [ht,hl];generalize x.name=s at *;rw [ex2];rw [← ex2];simp only [wy,b8,ef,or_false] at hm;(have key:∀ (L:List eL) (lv:Int),RX fT f n L (di 16 (oZ (Yk s).2) [] [] [a,b]) lv x.size→RX fT f n L x lv x.size:=fun L lv h=>by rw [← ex2] at h;exact h);(rcases hm with rfl|rfl|rfl|rfl|rfl|rfl|rfl|rfl|rfl);(·exact key _ _ (Tf (by decide) (A 5 (by decide) (by decide)) (B 6 (by decide) (by decide)) s1 (by omega) (by omega) iw));(·exact key _ _ (Tf (by decide) (A 5 (by decide) (by decide)) (B 6 (by decide) (by decide)) s1 (by omega) (by omega) iw));(·exact key _ _ (agY (by decide) (A 6 (by decide) (by decide)) (B 7 (by decide) (by decide)) s1 (by omega) (by omega) iw));(·exact key _ _ (Tg (by decide) (A 5 (by decide) (by decide)) (B 5 (by decide) (by decide)) s1 (by omega) (by omega) (by omega) iw));(·exact key _ _ (Tg (by decide) (A 5 (by decide) (by decide)) (B 5 (by decide) (by decide)) s1 (by omega) (by omega) (by omega) iw));(·exact key _ _ (Tg (by decide) (A 5 (by decide) (by decide)) (B 5 (by decide) (by decide)) s1 (by omega) (by omega) (by omega) iw));(·exact key _ _ (Tf (by decide) (A 5 (by decide) (by decide)) (B 6 (by decide) (by decide)) s1 (by omega) (by omega) iw));(·exact key _ _ (agZ (by decide) (A 2 (by decide) (by decide)) (B 3 (by decide) (by decide)) s1 (by omega) (by omega) iw));exact key _ _ (ag0 (by decide) (A 1 (by decide) (by decide)) (B 2 (by decide) (by decide)) s1 (by omega) (by omega) iw)
 have hN:xy x.name=1:=by (have:∀ s∈uP,xy s=1:=by decide +kernel);exact this _ hm
 rw [hN] at e6;obtain⟨a,ha⟩:=BM (l:=x.kids) (by omega);have has:=sT ha;simp only [aM] at has;have ka:=iO a (by simp [ha]);have A:=fun (l:Int) (h1:1≤l) (h2:l≤9)=>BP (fT:=fT) (f:=f) (n:=n) (least:=l) a.gC (by omega) h2 (fun h=>ka.1 (by omega)) ka.2.1;have ht:dq x.pc=Yk x.name :: dq (qG a.lvl (rm x.name).2.1 a.pc):=by rw [hp];unfold Kd;simp [ha,cA,Th,dq]
 rw [ha] at ex;rw [ht,hl];generalize x.name=s at *;simp only [uP,b8,ef,or_false] at hm;have key:∀ (L:List eL) (lv:Int),RX fT f n L (di 16 s [] [] [a]) lv x.size→RX fT f n L x lv x.size:=fun L lv h=>by rw [← ex] at h;exact h
 rcases hm with rfl|rfl
 ·exact key _ _ (acj (A 3 (by decide) (by decide)) (by omega) iw)
 exact key _ _ (ack (A 7 (by decide) (by decide)) (by omega) iw)
end
end
section
section
variable {fT:PT Ty} {f:PT Ex} {n:Nat} {x:Ex} {f0:Fo} {l:List eL} {lv:Int} {s:Nat}
theorem acn (h:RX fT f n l x lv s) (hs:s≤n) (h1:1≤lv) {rest:List eL} (hr:Cx rest):qI fT f n (l++rest)=some (x,rest):=by have key:=h.r1 hs h1 (agK hr);obtain⟨t,r,rfl,hk,-,-⟩:=h.hd;simp only [Ud,b8,ef,or_false,not_or] at hk;unfold qI;simp only [cP] at key ⊢;rw [if_neg hk.1,if_neg hk.2.1,if_neg hk.2.2.1,if_neg hk.2.2.2.1,if_neg hk.2.2.2.2.1];exact key
theorem ag2 {α:Type} {l:List α} (h:l.length=2):∃ a b,l=[a,b]:=by match l,h with|[a,b],_=>exact⟨a,b,rfl⟩
theorem Yl {α:Type} {l:List α} (h:l.length=3):∃ a b c,l=[a,b,c]:=by match l,h with|[a,b,c],_=>exact⟨a,b,c,rfl⟩
theorem aco (c:KX fT f n x f0) (hk:x.kind=10) {rest:List eL} (hr:Cx rest):qI fT f n (dq x.pc++rest)=some (x,rest):=by
 have hf:=c.ok.form;have g:=c.g;have F:=c.F;have iO:=c.kd;rw [hk] at hf;cases hf;have e1:=g.m kr;have e2:=g.t kr;have e3:=g.u kr;have e4:x.types=[]:=jk (by have:=F.h7 (by decide);simpa using this);have e5:x.labels=[]:=jk (F.h8 rfl);obtain⟨a,b,ha⟩:=ag2 (l:=x.kids) (by have:=F.h9 (by unfold ec;simp [hk,e5]);unfold ec at this;simp [hk,e5] at this;omega);have ex:x=di 10 x.name [] [] [a,b]:=by unfold di;conv=>lhs;rw [← x.sS,e1,e2,e3,e4,e5,ha,hk]
 have hp:x.pc=[xO [108,101,116],.sp 32,B8 x.name,.sp 32,fX [61],.sp 32]++a.pc++[.sp 32,xO [105,110],.sp 32]++b.pc:=by rw [Ex.jF];unfold BD;simp [hk,ha]
 have h:=ab7 fT f n (v:=x.name) ((iO a (by simp [ha])).2.1 (fw [105,110] :: (dq b.pc++rest)) (gY (by decide))) ((iO b (by simp [ha])).2.1 rest hr);rw [← ex] at h;rw [hp];simp only [cP,cA,dq,bF,fw,al] at h ⊢;exact h
theorem acp (c:KX fT f n x f0) (hk:x.kind=12) {rest:List eL} (hr:Cx rest):qI fT f n (dq x.pc++rest)=some (x,rest):=by
 have hf:=c.ok.form;have g:=c.g;have F:=c.F;have iO:=c.kd;have Cw:=c.tys;rw [hk] at hf;cases hf;have e1:=g.m kr;have en:=g.n kr;have e2:=g.t kr;have e3:=g.u kr;obtain⟨t,ht⟩:=BM (l:=x.types) (by have:(x.types.length:Int)=1:=F.h7 (by decide);omega);have e5:x.labels=[]:=jk (F.h8 rfl);obtain⟨a,b,d,ha⟩:=Yl (l:=x.kids) (by have:=F.h9 (by unfold ec;simp [hk,e5]);unfold ec at this;simp [hk,e5] at this;omega);have ex:x=di 12 ⟨#[]⟩ [t] [] [a,b,d]:=by unfold di;conv=>lhs;rw [← x.sS,e1,en,e2,e3,ht,e5,ha,hk]
 have hp:x.pc=L5 [105,102] [t]++[.sp 32]++a.pc++[.sp 32,xO [116,104,101,110],.sp 32]++b.pc++[.sp 32,xO [101,108,115,101],.sp 32]++d.pc:=by rw [Ex.jF];unfold BD;simp [hk,ha,ht]
 have h:=ab8 fT f n (lt:=bF [91] :: (dq t.pc++[bF [93]])) (by simp only [cP,al];exact S8 fT (Cw t (by simp [ht]) (bF [93] :: (dq a.pc++fw [116,104,101,110] :: (dq b.pc++fw [101,108,115,101] :: (dq d.pc++rest)))) (by simp [wY,bF]))) ((iO a (by simp [ha])).2.1 _ (gY (by decide))) ((iO b (by simp [ha])).2.1 _ (gY (by decide))) ((iO d (by simp [ha])).2.1 rest hr);rw [← ex] at h;rw [hp];simp only [cP,L5,ri,cA,dq,bF,fw,al] at h ⊢;exact h
theorem acq (c:KX fT f n x f0) (hk:x.kind=15) {rest:List eL} (hr:Cx rest):qI fT f n (dq x.pc++rest)=some (x,rest):=by
 have hf:=c.ok.form;have g:=c.g;have F:=c.F;have iO:=c.kd;have Cw:=c.tys;rw [hk] at hf;cases hf;have e1:=g.m kr;have e3:=g.u kr;obtain⟨t,ht⟩:=BM (l:=x.types) (by have:(x.types.length:Int)=1:=F.h7 (by decide);omega);have e5:x.labels=[]:=jk (F.h8 rfl);obtain⟨a,b,d,ha⟩:=Yl (l:=x.kids) (by have:=F.h9 (by unfold ec;simp [hk,e5]);unfold ec at this;simp [hk,e5] at this;omega);have ex:x = .mk 15 ⟨#[]⟩ x.name x.text 0 [t] [] [a,b,d]:=by conv=>lhs;rw [← x.sS,e1,e3,ht,e5,ha,hk]
 have hp:x.pc=L5 [102,111,108,100] [t]++[.sp 32,B8 x.name,fX [44],.sp 32,B8 x.text,.sp 32,xO [105,110],.sp 32]++a.pc++[.sp 32,xO [102,114,111,109],.sp 32]++b.pc++[.sp 32,fX [61,62],.sp 32]++d.pc:=by rw [Ex.jF];unfold BD;simp [hk,ha,ht]
 have h:=Wo fT f n (x:=x.name) (y:=x.text) (lt:=bF [91] :: (dq t.pc++[bF [93]])) (by simp only [cP,al];exact S8 fT (Cw t (by simp [ht]) (bF [93] :: ((1,bt x.name) :: bF [44] :: (1,bt x.text) :: fw [105,110] :: (dq a.pc++fw [102,114,111,109] :: (dq b.pc++bF [61,62] :: (dq d.pc++rest))))) (by simp [wY,bF]))) ((iO a (by simp [ha])).2.1 _ (gY (by decide))) ((iO b (by simp [ha])).2.1 _ (gY (by decide))) ((iO d (by simp [ha])).2.1 rest hr);rw [← ex] at h;rw [hp];simp only [cP,L5,ri,cA,dq,bF,fw,al] at h ⊢;exact h
theorem acr (c:KX fT f n x f0) (hk:x.kind=13) {rest:List eL} (hr:Cx rest):qI fT f n (dq x.pc++rest)=some (x,rest):=by
 have hf:=c.ok.form;have g:=c.g;have F:=c.F;have iO:=c.kd;have Cw:=c.tys;have iw:=c.sz;have Kr:=Mi c.s.en;rw [hk] at hf;cases hf;have e1:=g.m kr;have en:=g.n kr;have e2:=g.t kr;have e3:=g.u kr;have l1:=g.lt kr;have l2:=g.lo kr;obtain⟨t,ht⟩:=BM (l:=x.types) (by have:(x.types.length:Int)=1:=F.h7 (by decide);omega);have e6:x.kids.length=x.labels.length+1:=by have:=F.h9 (by unfold ec;simp [hk];try omega);unfold ec at this;simp [hk] at this;omega
 obtain⟨a,q,ha⟩:∃ a q,x.kids=a :: q:=by cases h:x.kids with|nil=>rw [h] at e6;simp at e6|cons a q=>exact⟨a,q,rfl⟩
 have e7:x.labels.length=q.length:=by rw [ha] at e6;simp at e6;omega
 have has:=sT ha;have BW:q.length≤aM Ex.size q:=xS fun k _=>k.size_pos;have ex:x=di 13 ⟨#[]⟩ [t] x.labels (a :: q):=by unfold di;conv=>lhs;rw [← x.sS,e1,en,e2,e3,ht,ha,hk]
 have hp:x.pc=L5 [109,97,116,99,104] [t]++[.sp 32]++a.pc++[.sp 32,fX [123]]++HP x.labels (q.map Ex.pc)++[fX [125]]:=by rw [Ex.jF];unfold BD;simp [hk,ha,ht]
 have ha2:=aca (f:=f) (close:=[125]) (n:=n) (rest:=rest) (by decide) (by decide) e7 (by omega) Kr (fun l hl=>⟨l1 l hl,l2 l hl⟩) fun u hu=>(iO u (by rw [ha];exact bj _ hu)).2.1;have h:=Tb fT f n (lt:=bF [91] :: (dq t.pc++[bF [93]])) (by simp only [cP,al];exact S8 fT (Cw t (by simp [ht]) (bF [93] :: (dq a.pc++bF [123] :: (dq (HP x.labels (q.map Ex.pc))++bF [125] :: rest))) (by simp [wY,bF]))) ((iO a (by simp [ha])).2.1 _ (gY (by decide))) ha2;rw [← ex] at h;rw [hp];simp only [cP,L5,ri,cA,dq,bF,fw,al] at h ⊢;exact h
def Mk:List Lb→List Ex→List (Lb×Ex)
 | [],_=>[]
 | l :: r,ks=>if l.opt=true then (l,ks.headD zEx) :: Mk r ks.tail else (l,zEx) :: Mk r ks
theorem Ml:∀ (ls:List Lb) (ks:List Ex),(Mk ls ks).map Prod.fst=ls
 | [],_=>rfl
 | l :: r,ks=>by unfold Mk;split <;> simp [Ml r]
theorem Fb:∀ (ls:List Lb) (ks:List Ex),ks.length=gF ls→wP ls ((Mk ls ks).map Prod.snd)=ks
 | [],ks,h=>by
  have:ks=[]:=jk (by simpa [gF] using h)
  rw [this];rfl
 | l :: r,ks,h=>by
  unfold Mk
  by_cases ho:l.opt=true
  ·rw [if_pos ho]
   cases ks with
   | nil=>simp [gF,ho] at h
   | cons k q =>
    have:=Fb r q (by simpa [gF,ho] using h)
    simp only [wP] at this ⊢
    simp [ho,this]
  rw [if_neg ho]
  have:=Fb r ks (by simpa [gF,ho] using h)
  simp only [wP] at this ⊢
  simp [ho,this]
theorem Fc:∀ {ls:List Lb} {ks:List Ex},ks.length=gF ls→∀ h∈Mk ls ks,h.1∈ls∧(h.1.opt=true→h.2∈ks)∧(h.1.opt=false→h.2=zEx)
 | [],_,_,_,hm=>by simp [Mk] at hm
 | l :: r,ks,hl,h,hm=>by
  unfold Mk at hm
  by_cases ho:l.opt=true
  ·rw [if_pos ho] at hm
   cases ks with
   | nil=>simp [gF,ho] at hl
   | cons k q =>
    rcases b8.1 hm with rfl|hm
    ·exact⟨by simp,fun _=>by simp,fun h=>by rw [ho] at h;cases h⟩
    obtain⟨h1,h2,h3⟩:=Fc (ls:=r) (ks:=q) (by simpa [gF,ho] using hl) h hm
    exact⟨bj _ h1,fun h=>bj _ (h2 h),h3⟩
  rw [if_neg ho] at hm
  rcases b8.1 hm with rfl|hm
  ·exact⟨by simp,fun h=>absurd h ho,fun _=>rfl⟩
  obtain⟨h1,h2,h3⟩:=Fc (ls:=r) (ks:=ks) (by simpa [gF,ho] using hl) h hm
  exact⟨bj _ h1,h2,h3⟩
def Ws (h:Lb×Ex):List Pc:=[B8 h.1.name]++Ub++h.1.ty.pc++if h.1.opt=true then [.sp 32,fX [61],.sp 32]++h.2.pc else []
theorem Fe:∀ (ls:List Lb) (ks:List Ex) (Q:List (List Pc)),ks.length=gF ls→Uc ls (ks.map Ex.pc++Q)=(Mk ls ks).map Ws
 | [],_,_,_=>rfl
 | l :: r,ks,Q,h=>by
  unfold Mk Uc
  by_cases ho:l.opt=true
  ·rw [if_pos ho,if_pos ho]
   cases ks with
   | nil=>simp [gF,ho] at h
   | cons k q =>
    have:=Fe r q Q (by simpa [gF,ho] using h)
    simp [this,Ws,ho]
  rw [if_neg ho,if_neg ho]
  have:=Fe r ks Q (by simpa [gF,ho] using h)
  simp [this,Ws,ho]
theorem Mm (h:Lb×Ex):dq (Ws h)=(1,bt h.1.name) :: fmT h:=by unfold Ws fmT;split <;> simp [cA,dq,bF]
theorem ag3 (c:KX fT f n x f0) (hk:x.kind=8) {rest:List eL} (hr:Cx rest):qI fT f n (dq x.pc++rest)=some (x,rest):=by
 have hf:=c.ok.form;have g:=c.g;have F:=c.F;have iO:=c.kd;have Cw:=c.ty;have iw:=c.sz;have Kr:=Mi c.s.en;rw [hk] at hf;cases hf;have e1:=g.m kr;have en:=g.n kr;have e2:=g.t kr;have e3:=g.u kr;have l1:=g.lv kr;have e4:x.types=[]:=jk (by have:=F.h7 (by decide);simpa using this);have sr:x.own=x.labels.map Lb.ty:=by unfold Ex.own;rw [if_pos hk,e4,aC]
 have hlen:x.labels.length+1≤x.size:=by have h1:=x.size_eq;have h2:x.own.length≤aM Ty.size x.own:=xS fun t _=>t.size_pos;rw [sr,ax] at h2;rw [sr] at h1;omega
 have e6:x.kids.length=gF x.labels+1:=by have:=F.h9 (by unfold ec;simp [hk];try omega);unfold ec at this;simp [hk] at this;omega
 obtain⟨ks,b,ha⟩:∃ ks b,x.kids=ks++[b]:=⟨x.kids.dropLast,x.kids.getLast (by intro h;rw [h] at e6;simp at e6),(List.dropLast_concat_getLast _).symm⟩;have e7:ks.length=gF x.labels:=by rw [ha] at e6;simp at e6;omega
 have ex:x=di 8 ⟨#[]⟩ [] x.labels (ks++[b]):=by unfold di;conv=>lhs;rw [← x.sS,e1,en,e2,e3,e4,ha,hk]
 have hp:x.pc=[xO [102,110],fX [40]]++jp uX ((Mk x.labels ks).map Ws)++[fX [41],.sp 32,fX [61,62],.sp 32]++b.pc:=by rw [Ex.jF,ha,fF];(have hb:(ks.map Ex.pc++[b].map Ex.pc)[(x.labels.filter Lb.opt).length]?.getD []=b.pc:=by (have:(x.labels.filter Lb.opt).length=(ks.map Ex.pc).length:=by rw [ax,e7];rfl);rw [this];simp);unfold BD;simp only [hk,iL,or_self,if_false,if_true];rw [hb,Fe _ _ _ e7]
 have tZ:f (dq b.pc++rest)=some (b,rest):=(iO b (by simp [ha])).2.1 rest hr;have hpm:=Fc e7;have Ou:=Ml x.labels ks;have Tj:=Fb x.labels ks e7;have hfm:SU fT f n (dq (jp uX ((Mk x.labels ks).map Ws))++bF [41] :: (bF [61,62] :: (dq b.pc++rest)))=some ((x.labels,ks),bF [61,62] :: (dq b.pc++rest)):=by cases hq:Mk x.labels ks with|nil =>rw [hq] at Ou Tj;rw [← Ou] at Tj ⊢;have:ks=[]:=Tj.symm;subst this;unfold SU;exact if_pos rfl|cons h0 q =>rw [hq] at Ou Tj hpm;(have hl:(h0 :: q).length=x.labels.length:=by rw [← Ou,ax]);(have hqq:∀ q:List (Lb×Ex),(q.map Ws).flatMap (fun y=>dq uX++dq y)=q.flatMap fun h=>bF [44] :: (1,bt h.1.name) :: fmT h:=by intro q;rw [atP];congr 1;funext h;show dq uX++dq (Ws h)=_;rw [Mm];rfl);have key:=agI (fT:=fT) (f:=f) q h0 [] [] n (bF [61,62] :: (dq b.pc++rest)) rfl (by simp at hl;omega) (by rw [aC,Ou];exact Kr) (fun h hh=>by obtain⟨m1,m2,m3⟩:=hpm h hh;exact⟨l1 _ m1,Cw _ (by rw [sr];exact cQ.2 ⟨h.1,m1,rfl⟩),fun ho=>(iO h.2 (by rw [ha];exact dD _ (m2 ho))).2.1,m3⟩);unfold SU;rw [bm,BK,hqq,Mm];rw [if_neg (by simp [bF])];simp only [cP,al] at key ⊢;refine (c8 key).trans ?_;rw [Ou];show some ((x.labels,wP x.labels ((h0 :: q).map Prod.snd)),_)=_;rw [Tj]
 have h:=agJ fT f n (p:=(x.labels,ks)) hfm tZ;rw [← ex] at h;rw [hp];simp only [cP,cA,dq,bF,fw,al] at h ⊢;exact h
theorem Wt (s:ByteArray):1≤(rm s).1:=by unfold rm;(repeat' split) <;> decide
theorem KX.rx (c:KX fT f n x f0) (h1:1≤x.lvl):RX fT f n (dq x.pc) x x.lvl x.size:=by
 have hn:¬ (x.kind=10∨x.kind=12∨x.kind=13∨x.kind=15∨x.kind=8):=fun h=>by unfold Ex.lvl at h1;rw [if_pos h] at h1;omega
 have hr:=xL c.ok.form;have h:x.kind=0∨x.kind=1∨x.kind=2∨x.kind=3∨x.kind=4∨x.kind=5∨x.kind=6∨x.kind=7∨x.kind=9∨x.kind=11∨x.kind=14∨x.kind=16:=by omega
 rcases h with h|h|h|h|h|h|h|h|h|h|h|h
 ·exact agO c h
 ·exact agP c h
 ·exact agQ c h
 ·exact agS c h
 ·exact agT c h
 ·exact agU c h
 ·exact agW c h
 ·exact agV c h
 ·exact agX c h
 ·exact ach c h
 ·exact aci c h
 exact acm c h
theorem Ym {x:Ex} (h:¬ 1≤x.lvl):x.kind=10∨x.kind=12∨x.kind=13∨x.kind=15∨x.kind=8:=by
 by_cases hk:x.kind=10∨x.kind=12∨x.kind=13∨x.kind=15∨x.kind=8;·exact hk
 exfalso;apply h;unfold Ex.lvl;rw [if_neg hk];have:=Wt x.name;(repeat' split) <;> omega
theorem amC {x:Ex} (h:x.kind=10∨x.kind=12∨x.kind=13∨x.kind=15∨x.kind=8):∃ t r,dq x.pc=t :: r∧t≠bF [93]:=by rw [Ex.jF];unfold BD;rcases h with h|h|h|h|h <;> (simp only [cP,h,iL,or_self,if_false,if_true,L5,al,dq];exact⟨_,_,rfl,by simp [bF]⟩)
theorem KX.ex (c:KX fT f n x f0) {rest:List eL} (hr:Cx rest):qI fT f n (dq x.pc++rest)=some (x,rest):=by
 by_cases h:1≤x.lvl;·exact acn (c.rx h) c.sz h hr
 rcases Ym h with h|h|h|h|h
 ·exact aco c h hr
 ·exact acp c h hr
 ·exact acr c h hr
 ·exact acq c h hr
 exact ag3 c h hr
theorem KX.hd (c:KX fT f n x f0):∃ t r,dq x.pc=t :: r∧t≠bF [93]:=by
 by_cases h:1≤x.lvl;·obtain⟨t,r,h1,h2,-⟩:=(c.rx h).hd;exact⟨t,r,h1,fun e=>h2 (by rw [e];decide)⟩
 exact amC (Ym h)
end
theorem Wu {x:Ex} {t:Ty} (h:t∈x.own):t.size+1≤x.size:=by obtain⟨i,hi⟩:=bB.1 h;have h1:=bU Ty.size hi;have h2:=x.size_eq;omega
theorem Ex.rt:∀ (n:Nat) (x:Ex),x.size<n→(∀ u∈x.nodes,SrM u)→∀ rest,Cx rest→pEx n (dq x.pc++rest)=some (x,rest):=by intro n;induction n with|zero=>intro x h;omega|succ n ih =>(have inner:∀ (N:Nat) (x:Ex),x.size≤N→x.size≤n→(∀ u∈x.nodes,SrM u)→∃ f0,KX (o0 n) (pEx n) n x f0:=by intro N;induction N with|zero=>intro x h;have:=x.size_pos;omega|succ N ihN =>intro x hN hn hS;have h0:=hS x (by rw [x.dU];exact cV ..);obtain⟨f0,ok⟩:=tv h0.en;refine⟨f0,ok,h0,hn,fun k hk=>?_,fun t ht rest hr=>?_⟩;(·(have K9:k.size<x.size:=by obtain⟨i,hi⟩:=bB.1 hk;have q1:=bU Ex.size hi;have q2:=x.jt;omega);have hSk:∀ u∈k.nodes,SrM u:=fun u hu=>hS u (by rw [x.dU];exact bj _ (e9.2 ⟨k,hk,hu⟩));obtain⟨f1,c1⟩:=ihN k (by omega) (by omega) hSk;exact⟨fun h=>c1.rx h,fun rest hr=>ih k (by omega) hSk rest hr,c1.hd⟩);have:=Wu ht;exact Ty.rt n t (by omega) (fun v hv=>⟨(h0.own t ht v hv).1,(h0.own t ht v hv).2,h0.k9 t ht v hv⟩) rest hr);intro x hx hS rest hr;obtain⟨f0,c⟩:=inner x.size x (ay _) (by omega) hS;exact c.ex hr
end
theorem Mn {p q:List Pc} (hp:lW p []) (hq:lW q []) (h:flat p=flat q):dq p=dq q:=by have h1:=wN p hp (flat p).length (ay _);have h2:=wN q hq (flat p).length (by rw [h];exact ay _);rw [h] at h1 h2;exact gD (h1.symm.trans h2)
theorem Ty.Ks {t u:Ty} (ht:∀ v∈t.nodes,tj v=0∧ek v.mod=false∧v.kind≠9) (hu:∀ v∈u.nodes,tj v=0∧ek v.mod=false∧v.kind≠9) (h:t.pr=u.pr):t=u:=by have o1:=Ty.Ds _ t (ay _) (fun v hv=>⟨(ht v hv).1,(ht v hv).2.1⟩) [] wO;have o2:=Ty.Ds _ u (ay _) (fun v hv=>⟨(hu v hv).1,(hu v hv).2.1⟩) [] wO;have e:=Mn o1 o2 (by rw [Ty.oF _ t (ay _),Ty.oF _ u (ay _),h]);have r1:=Ty.rt (t.size+u.size) t (by omega) ht [] (by simp [wY]);have r2:=Ty.rt (t.size+u.size) u (by omega) hu [] (by simp [wY]);rw [e,r2] at r1;exact (Prod.mk.inj (gD r1)).1.symm
theorem Ex.Ks {x y:Ex} (hx:∀ v∈x.nodes,SrM v) (hy:∀ v∈y.nodes,SrM v) (h:x.pr=y.pr):x=y:=by
 have o1:=Ex.Ds _ x (ay _) (fun v hv=>(hx v hv).toSrN) [] wO;have o2:=Ex.Ds _ y (ay _) (fun v hv=>(hy v hv).toSrN) [] wO;have e:=Mn o1 o2 (by rw [Ex.oF _ x (ay _),Ex.oF _ y (ay _),h]);have fl:Cx []:=fun t ht=>by simp at ht
 have r1:=Ex.rt (x.size+y.size+1) x (by omega) hx [] fl;have r2:=Ex.rt (x.size+y.size+1) y (by omega) hy [] fl;rw [e,r2] at r1;exact (Prod.mk.inj (gD r1)).1.symm
theorem tyH {t:Ty} (h1:mI t=0) (h2:lJ t=true):∀ v∈t.nodes,tj v=0∧ek v.mod=false∧v.kind≠9:=fun v hv =>
 ⟨(Sk h1).2 v hv,(EY h2 v hv).2,(EY h2 v hv).1⟩
theorem exH {x:Ex} (h1:wz x=0) (h2:tr x=true) (hr:N7 x):∀ v∈x.nodes,SrM v:=fun v hv=>by
 obtain⟨f,ok⟩:=tv ((N6 h1).2 v hv);have hp:=J7 h2 v hv;have sr:∀ t∈v.own,∀ w∈t.nodes,tj w=0∧ek w.mod=false∧w.kind≠9:=fun t ht=>by have hc:=(kS mI v.own).1 ok.own t ht;refine tyH hc ?_;refine hp.2 t ?_;unfold Ex.own at ht;(rcases eA.1 ht with h|h);(·exact dD _ h);split at h;(·exact eP _ h);simp at h
 refine⟨⟨(N6 h1).2 v hv,(hr v hv).1,(hr v hv).2,Yc h1 h2 v hv,fun t ht w hw=>⟨(sr t ht w hw).1,(sr t ht w hw).2.1⟩⟩,fun t ht w hw=>(sr t ht w hw).2.2,fun h4 hm e=>?_⟩;have:=hp.1;simp [plN,h4,hm,e] at this
theorem Tl {a b:List UInt8} (h:bs a=bs b):a=b:=by have:=congrArg (fun s:ByteArray=>s.data.toList) h;simpa [bs] using this
theorem Wv {t u:Ty} (h1:(j8 (mI t) (lJ t) t.pr).2=0) (h2:(j8 (mI u) (lJ u) u.pr).2=0):decide ((j8 (mI t) (lJ t) t.pr).1=(j8 (mI u) (lJ u) u.pr).1)=nW t u:=by
 have key:∀ {t:Ty},(j8 (mI t) (lJ t) t.pr).2=0→mI t=0∧lJ t=true∧(j8 (mI t) (lJ t) t.pr).1=bs t.pr:=fun {t} h=>by unfold j8 at h ⊢;by_cases a:mI t=0;(·rw [if_neg (by simpa using a)] at h ⊢;cases b:lJ t with|false=>simp [b] at h|true =>simp only [b,auN,if_false] at h ⊢;split at h;(·simp at h);rename_i q;rw [if_neg q];exact⟨a,trivial,rfl⟩);rw [if_pos a] at h;exact absurd h a
 obtain⟨a1,a2,a3⟩:=key h1;obtain⟨b1,b2,b3⟩:=key h2;rw [a3,b3];by_cases e:t=u;·subst e;rw [de rfl];simp
 rw [bL e];exact decide_eq_false fun h=>e (Ty.Ks (tyH a1 a2) (tyH b1 b2) (Tl h))
theorem lL {t u:Ex} (hrt:N7 t) (hru:N7 u) (h1:(j8 (wz t) (tr t) t.pr).2=0) (h2:(j8 (wz u) (tr u) u.pr).2=0):decide ((j8 (wz t) (tr t) t.pr).1=(j8 (wz u) (tr u) u.pr).1)=nW t u:=by
 have key:∀ {t:Ex},(j8 (wz t) (tr t) t.pr).2=0→wz t=0∧tr t=true∧(j8 (wz t) (tr t) t.pr).1=bs t.pr:=fun {t} h=>by unfold j8 at h ⊢;by_cases a:wz t=0;(·rw [if_neg (by simpa using a)] at h ⊢;cases b:tr t with|false=>simp [b] at h|true =>simp only [b,auN,if_false] at h ⊢;split at h;(·simp at h);rename_i q;rw [if_neg q];exact⟨a,trivial,rfl⟩);rw [if_pos a] at h;exact absurd h a
 obtain⟨a1,a2,a3⟩:=key h1;obtain⟨b1,b2,b3⟩:=key h2;rw [a3,b3];by_cases e:t=u;·subst e;rw [de rfl];simp
 rw [bL e];exact decide_eq_false fun h=>e (Ex.Ks (exH a1 a2 hrt) (exH b1 b2 hru) (Tl h))
section
attribute [local irreducible] runM fq oS cY
theorem Lb.ext' {t u:Lb} (h0:t.name=u.name) (h1:t.var=u.var) (h2:t.opt=u.opt) (h3:t.ty=u.ty):t=u:=by cases t;cases u;simp_all
theorem Ex.ext' {t u:Ex} (h0:t.kind=u.kind) (h1:t.mod=u.mod) (h2:t.name=u.name) (h3:t.text=u.text) (h4:t.num=u.num) (h5:t.types=u.types) (h6:t.kids=u.kids) (h7:t.labels=u.labels):t=u:=by cases t;cases u;simp_all [Ex.kind,Ex.mod,Ex.name,Ex.text,Ex.num,Ex.types,Ex.kids,Ex.labels]
theorem Ov (t u:Ex) (hl:t.labels.length≤1048576) (hk:t.kids.length≤1048576) (BV:bJ aj 62 [.slice (cM t.types),.slice (cM u.types)] (bl (nW t.types u.types)))
  (Cw:∀ (i:Nat) (a b:Lb),t.labels[i]?=some a→u.labels[i]?=some b→bJ aj 18 [bk a.ty,bk b.ty] (bl (nW a.ty b.ty)))
  (jj:∀ (i:Nat) (a b:Ex),t.kids[i]?=some a→u.kids[i]?=some b→bJ aj 20 [br a,br b] (bl (nW a b))) :
  bJ aj 20 [br t,br u] (bl (nW t u)):=by
 refine iN tt_ok (fn:=Tryz.f20) Tryz.func20 rfl Tryz.call20 ?_;simp only [cP,cK,Tryz.ntmps20,af,ai,zA,zF,aG,aH];have hT:aj.underlying 4=some .bool:=kr;have pb:=fun x y=>KU (P:=aj) (T:=4) x y hT;have mY:=fun x y=>zb (P:=aj) (T:=4) x y hT;simp only [bn,aP];refine ak tt_ok fun K hK=>?_;simp only [go_sem];refine hK _ ?_;refine bc ?_;have e1:=iD t.mod u.mod;have e2:=iD t.name u.name;have e3:=iD t.text u.text;have e7:=BV;try simp only [aT,bn] at e7
 try simp only [aD,aP] at e7
 refine iy tt_ok 131 (rp 9 0 (rp 58 1 [2])) [(5,14),(12,21),(19,28),(26,35),(33,42),(42,51),(51,60)] rfl rfl fun K hK=>?_;by_cases h0:t.kind=u.kind;·have e0:decide (t.kind=u.kind)=true:=decide_eq_true h0;refine cp 6 fun K1 eZ=>?_;simp only [e0,pb,mY,ax,aW,go_sem];refine eZ _ ?_;by_cases h1:t.mod=u.mod;(·rw [de h1] at e1;refine cp 7 fun K1 eZ=>?_;simp only [e1,pb,mY,ax,aW,go_sem];refine eZ _ ?_;by_cases h2:t.name=u.name;(·rw [de h2] at e2;refine cp 7 fun K1 eZ=>?_;simp only [e2,pb,mY,ax,aW,go_sem];refine eZ _ ?_;by_cases h3:t.text=u.text;(·rw [de h3] at e3;refine cp 7 fun K1 eZ=>?_;simp only [e3,pb,mY,ax,aW,go_sem];refine eZ _ ?_;by_cases h4:t.num=u.num;(·have e4:decide (t.num=u.num)=true:=decide_eq_true h4;refine cp 7 fun K1 eZ=>?_;simp only [e4,pb,mY,ax,aW,go_sem];refine eZ _ ?_;by_cases h5:t.labels.length=u.labels.length;(·have e5:decide ((t.labels.length:Int)=(u.labels.length:Int))=true:=decide_eq_true (by omega);refine cp 9 fun K1 eZ=>?_;simp only [e5,pb,mY,ax,aW,go_sem];refine eZ _ ?_;by_cases h6:t.kids.length=u.kids.length;(·have e6:decide ((t.kids.length:Int)=(u.kids.length:Int))=true:=decide_eq_true (by omega);refine cp 9 fun K1 eZ=>?_;simp only [e6,pb,mY,ax,aW,go_sem];refine eZ _ ?_;by_cases h7:t.types=u.types;(·rw [de h7] at e7;simp only [pb,mY,ax,aW,go_sem];refine .inl ⟨_,_,by simp only [go_sem,az],e7,?_⟩;(try simp only [go_sem]);refine hK _ _ rfl ?_;simp only [zq,zA,zE];refine aO rfl (bZ ?_);show dS _ _ _ _ _ _;refine bc ?_;refine ak tt_ok fun K hK=>?_;simp only [go_sem];refine hK _ ?_;refine bC (cR (fun N st=>∃ (i:Nat),N=t.labels.length-i∧i≤t.labels.length∧t.labels.take i=u.labels.take i ∧ st = { fr:=[.undef,.undef,.ptr 0 0,.ptr 1 0,.undef,num i]++List.replicate 125 .undef,mem:=[.box (aP t),.box (aP u)] }) t.labels.length ?_ ?_);(·exact⟨2,[false,false,true,true,false,true],by omega,by simp only [bg,aI,aV,aL,zB,gG],by simp only [aP,bg,aI,aV,aL,zB,gG],0,by omega,by omega,by simp,rfl⟩);rintro N' st ⟨i,rfl,hi,uf,rfl⟩;simp only [cP,aG,aH,aP];refine bc ?_;by_cases bQ:i<t.labels.length;(·have hd:=gx bQ;refine ak tt_ok fun K hK=>?_;simp only [ax,hd,go_sem];refine hK _ ?_;refine aO rfl (bZ ?_);refine bc (bC ?_);obtain⟨f,hf⟩:∃ f,t.labels[i]?=some f:=⟨_,au bQ⟩;obtain⟨g,hg⟩:∃ g,u.labels[i]?=some g:=⟨_,au (by omega)⟩;have no:¬ f=g→¬ t=u:=fun h e=>h (by rw [e,hg] at hf;exact (gD hf).symm);refine kx tt_ok cB [pN,⟨.r,0,[0,1],[],[]⟩,pN,⟨.r,0,[0,1],[],[]⟩,⟨.r,0,[0,1],[],[]⟩,pN,⟨.r,0,[0,1],[],[]⟩,pN,⟨.r,0,[0,1],[],[]⟩,⟨.r,0,[0,1],[],[]⟩,⟨.a,0,[],[],[]⟩,⟨.a,1,[],[],[]⟩,⟨.s,0,[],[],[]⟩,⟨.s,1,[],[],[]⟩] 2 kr fun K hK=>?_;simp only [aq,hf,hg,cq,aD,go_sem,List.replicate];refine hK _ ?_;have e80:=iD f.name g.name;have e81:=iD f.var g.var;have e83:=Cw i f g hf hg;(try simp only [aT,bn] at e83);(try simp only [aD,aP] at e83);refine iy tt_ok 131 (rp 85 0 (rp 26 1 [2])) [(5,90),(12,97),(19,104)] rfl rfl fun K hK=>?_;by_cases h80:f.name=g.name;(·rw [de h80] at e80;refine cp 6 fun K1 eZ=>?_;simp only [e80,pb,mY,go_sem];refine eZ _ ?_;by_cases h81:f.var=g.var;(·rw [de h81] at e81;refine cp 7 fun K1 eZ=>?_;simp only [e81,pb,mY,go_sem];refine eZ _ ?_;by_cases h82:f.opt=g.opt;(·(have e82:(f.opt==g.opt)=true:=by simpa using h82);refine cp 7 fun K1 eZ=>?_;simp only [e82,pb,mY,go_sem];refine eZ _ ?_;by_cases h83:f.ty=g.ty;(·rw [de h83] at e83;simp only [pb,mY,go_sem];refine .inl ⟨_,_,by simp only [go_sem,az],e83,?_⟩;(try simp only [go_sem]);refine hK _ _ rfl ?_;simp only [zq,zA,zE];refine aO rfl (bZ ?_);show dS _ _ _ _ _ _;refine aR tt_ok fun K hK=>?_;simp only [go_sem];refine hK _ ?_;rw [bN i (by omega)];exact⟨t.labels.length-(i+1),by omega,2,[false,false,true,true,false,true],by omega,by simp only [bg,aI,aV,aL,zB,gG],by simp only [aP,bg,aI,aV,aL,zB,gG],i+1,rfl,bQ,by rw [bH,bH,uf,hf,hg,Lb.ext' h80 h81 h82 h83],rfl⟩);rw [bL h83] at e83;simp only [pb,mY,go_sem];refine .inl ⟨_,_,by simp only [go_sem,az],e83,?_⟩;(try simp only [go_sem]);refine hK _ _ rfl ?_;simp only [zq,zA,zE];refine aO rfl ?_;refine ak tt_ok fun K hK=>?_;simp only [go_sem];refine hK _ ?_;refine bE ⟨.inl rfl,?_⟩;rw [bL (no fun e=>h83 (by rw [e]))];rfl);(have e82:(f.opt==g.opt)=false:=by simpa using h82);simp only [e82,pb,mY,go_sem];refine hK _ _ rfl ?_;simp only [zq,zA,zE];refine aO rfl ?_;refine ak tt_ok fun K hK=>?_;simp only [go_sem];refine hK _ ?_;refine bE ⟨.inl rfl,?_⟩;rw [bL (no fun e=>h82 (by rw [e]))];rfl);rw [bL h81] at e81;refine cp 14 fun K1 eZ=>?_;simp only [e81,pb,mY,go_sem];refine eZ _ ?_;simp only [e81,pb,mY,go_sem];refine hK _ _ rfl ?_;simp only [zq,zA,zE];refine aO rfl ?_;refine ak tt_ok fun K hK=>?_;simp only [go_sem];refine hK _ ?_;refine bE ⟨.inl rfl,?_⟩;rw [bL (no fun e=>h81 (by rw [e]))];rfl);rw [bL h80] at e80;refine cp 14 fun K1 eZ=>?_;simp only [e80,pb,mY,go_sem];refine eZ _ ?_;simp only [e80,pb,mY,go_sem];refine hK _ _ rfl ?_;simp only [zq,zA,zE];refine aO rfl ?_;refine ak tt_ok fun K hK=>?_;simp only [go_sem];refine hK _ ?_;refine bE ⟨.inl rfl,?_⟩;rw [bL (no fun e=>h80 (by rw [e]))];rfl);have hd:=gy bQ;refine ak tt_ok fun K hK=>?_;simp only [ax,hd,go_sem];refine hK _ ?_;refine aO rfl (dK ?_);(have kz:i=t.labels.length:=by omega);subst kz;show dS _ _ _ _ _ _;refine bc ?_;refine ak tt_ok fun K hK=>?_;simp only [go_sem];refine hK _ ?_;(have amF:t.labels=u.labels:=by rw [az] at uf;rw [uf,h5,az]);refine bC (cR (fun N st=>∃ (i:Nat),N=t.kids.length-i∧i≤t.kids.length∧t.kids.take i=u.kids.take i ∧ st = { fr:=[.undef,.undef,.ptr 0 0,.ptr 1 0,.undef,.undef,.undef,.undef,num i]++List.replicate 122 .undef,mem:=[.box (aP t),.box (aP u)] }) t.kids.length ?_ ?_);(·exact⟨2,[false,false,true,true,false,false,false,false,true],by omega,by simp only [bg,aI,aV,aL,zB,gG],by simp only [aP,bg,aI,aV,aL,zB,gG],0,by omega,by omega,by simp,rfl⟩);rintro N' st ⟨i,rfl,hi,uf,rfl⟩;simp only [cP,aG,aH,aP];refine bc ?_;by_cases bQ:i<t.kids.length;(·have hd:=gx bQ;refine ak tt_ok fun K hK=>?_;simp only [aW,hd,go_sem];refine hK _ ?_;refine aO rfl (bZ ?_);refine bc (bC ?_);obtain⟨f,hf⟩:∃ f,t.kids[i]?=some f:=⟨_,au bQ⟩;obtain⟨g,hg⟩:∃ g,u.kids[i]?=some g:=⟨_,au (by omega)⟩;have hr:=jj i f g hf hg;simp only [bn,aP] at hr;refine kx tt_ok cB [pN,pR,pN,pR,pR,pN,pR,pN,pR,pR,pN,pN] 0 kr fun K hK=>?_;simp only [jP,hf,hg,bn,aP,go_sem,List.replicate];refine⟨_,_,by simp only [go_sem,az],.inl (hr),?_⟩;(try simp only [go_sem,List.replicate]);refine hK _ ?_;by_cases h9:f=g;(·rw [de h9];refine aO rfl (bZ ?_);show dS _ _ _ _ _ _;refine aR tt_ok fun K hK=>?_;simp only [go_sem];refine hK _ ?_;rw [bN i (by omega)];exact⟨t.kids.length-(i+1),by omega,2,[false,false,true,true,false,false,false,false,true],by omega,by simp only [bg,aI,aV,aL,zB,gG],by simp only [aP,bg,aI,aV,aL,zB,gG],i+1,rfl,bQ,by rw [bH,bH,uf,hf,hg,h9],rfl⟩);rw [bL h9];refine aO rfl ?_;refine ak tt_ok fun K hK=>?_;simp only [go_sem];refine hK _ ?_;refine bE ⟨.inl rfl,?_⟩;rw [bL fun e=>h9 (by rw [e,hg] at hf;exact (gD hf).symm)];rfl);have hd:=gy bQ;refine ak tt_ok fun K hK=>?_;simp only [aW,hd,go_sem];refine hK _ ?_;refine aO rfl (dK ?_);(have kz:i=t.kids.length:=by omega);subst kz;show dS _ _ _ _ _ _;refine ak tt_ok fun K hK=>?_;simp only [go_sem];refine hK _ ?_;refine bE ⟨.inl rfl,?_⟩;(have ag7:t.kids=u.kids:=by rw [az] at uf;rw [uf,h6,az]);rw [de (Ex.ext' h0 h1 h2 h3 h4 h7 ag7 amF)];rfl);rw [bL h7] at e7;simp only [pb,mY,ax,aW,go_sem];refine .inl ⟨_,_,by simp only [go_sem,az],e7,?_⟩;(try simp only [go_sem]);refine hK _ _ rfl ?_;simp only [zq,zA,zE];refine aO rfl ?_;refine ak tt_ok fun K hK=>?_;simp only [go_sem];refine hK _ ?_;refine bE ⟨.inl rfl,?_⟩;rw [bL fun e=>h7 (by rw [e])];rfl);have e6:decide ((t.kids.length:Int)=(u.kids.length:Int))=false:=decide_eq_false (by omega);refine cp 14 fun K1 eZ=>?_;simp only [e6,pb,mY,ax,aW,go_sem];refine eZ _ ?_;simp only [e6,pb,mY,ax,aW,go_sem];refine hK _ _ rfl ?_;simp only [zq,zA,zE];refine aO rfl ?_;refine ak tt_ok fun K hK=>?_;simp only [go_sem];refine hK _ ?_;refine bE ⟨.inl rfl,?_⟩;rw [bL fun e=>h6 (by rw [e])];rfl);have e5:decide ((t.labels.length:Int)=(u.labels.length:Int))=false:=decide_eq_false (by omega);refine cp 14 fun K1 eZ=>?_;simp only [e5,pb,mY,ax,aW,go_sem];refine eZ _ ?_;simp only [e5,pb,mY,ax,aW,go_sem];refine hK _ _ rfl ?_;simp only [zq,zA,zE];refine aO rfl ?_;refine ak tt_ok fun K hK=>?_;simp only [go_sem];refine hK _ ?_;refine bE ⟨.inl rfl,?_⟩;rw [bL fun e=>h5 (by rw [e])];rfl);have e4:decide (t.num=u.num)=false:=decide_eq_false h4;refine cp 14 fun K1 eZ=>?_;simp only [e4,pb,mY,ax,aW,go_sem];refine eZ _ ?_;refine cp 14 fun K1 eZ=>?_;simp only [e4,pb,mY,ax,aW,go_sem];refine eZ _ ?_;simp only [e4,pb,mY,ax,aW,go_sem];refine hK _ _ rfl ?_;simp only [zq,zA,zE];refine aO rfl ?_;refine ak tt_ok fun K hK=>?_;simp only [go_sem];refine hK _ ?_;refine bE ⟨.inl rfl,?_⟩;rw [bL fun e=>h4 (by rw [e])];rfl);rw [bL h3] at e3;refine cp 14 fun K1 eZ=>?_;simp only [e3,pb,mY,ax,aW,go_sem];refine eZ _ ?_;refine cp 14 fun K1 eZ=>?_;simp only [e3,pb,mY,ax,aW,go_sem];refine eZ _ ?_;simp only [e3,pb,mY,ax,aW,go_sem];refine hK _ _ rfl ?_;simp only [zq,zA,zE];refine aO rfl ?_;refine ak tt_ok fun K hK=>?_;simp only [go_sem];refine hK _ ?_;refine bE ⟨.inl rfl,?_⟩;rw [bL fun e=>h3 (by rw [e])];rfl);rw [bL h2] at e2;refine cp 14 fun K1 eZ=>?_;simp only [e2,pb,mY,ax,aW,go_sem];refine eZ _ ?_;refine cp 14 fun K1 eZ=>?_;simp only [e2,pb,mY,ax,aW,go_sem];refine eZ _ ?_;refine cp 14 fun K1 eZ=>?_;simp only [e2,pb,mY,ax,aW,go_sem];refine eZ _ ?_;simp only [e2,pb,mY,ax,aW,go_sem];refine hK _ _ rfl ?_;simp only [zq,zA,zE];refine aO rfl ?_;refine ak tt_ok fun K hK=>?_;simp only [go_sem];refine hK _ ?_;refine bE ⟨.inl rfl,?_⟩;rw [bL fun e=>h2 (by rw [e])];rfl);rw [bL h1] at e1;refine cp 14 fun K1 eZ=>?_;simp only [e1,pb,mY,ax,aW,go_sem];refine eZ _ ?_;refine cp 14 fun K1 eZ=>?_;simp only [e1,pb,mY,ax,aW,go_sem];refine eZ _ ?_;refine cp 14 fun K1 eZ=>?_;simp only [e1,pb,mY,ax,aW,go_sem];refine eZ _ ?_;simp only [e1,pb,mY,ax,aW,go_sem];refine hK _ _ rfl ?_;simp only [zq,zA,zE];refine aO rfl ?_;refine ak tt_ok fun K hK=>?_;simp only [go_sem];refine hK _ ?_;refine bE ⟨.inl rfl,?_⟩;rw [bL fun e=>h1 (by rw [e])];rfl
 have e0:decide (t.kind=u.kind)=false:=decide_eq_false h0;refine cp 14 fun K1 eZ=>?_;simp only [e0,pb,mY,ax,aW,go_sem];refine eZ _ ?_;refine cp 14 fun K1 eZ=>?_;simp only [e0,pb,mY,ax,aW,go_sem];refine eZ _ ?_;refine cp 14 fun K1 eZ=>?_;simp only [e0,pb,mY,ax,aW,go_sem];refine eZ _ ?_;refine cp 14 fun K1 eZ=>?_;simp only [e0,pb,mY,ax,aW,go_sem];refine eZ _ ?_;simp only [e0,pb,mY,ax,aW,go_sem];refine hK _ _ rfl ?_;simp only [zq,zA,zE];refine aO rfl ?_;refine ak tt_ok fun K hK=>?_;simp only [go_sem];refine hK _ ?_;refine bE ⟨.inl rfl,?_⟩;rw [bL fun e=>h0 (by rw [e])];rfl
theorem Ex.Tm {t a:Ex} {i:Nat} (h:t.kids[i]?=some a):a.dd<t.dd:=by have:=bU Ex.dd h;have:=t.pO;omega
theorem Ex.Ow {t:Ex} {a:Ty} {i:Nat} (h:t.types[i]?=some a):a.size<t.dd:=by have:=bU Ty.size h;have:=t.oC;omega
theorem Ex.Kt {t:Ex} {a:Lb} {i:Nat} (h:t.labels[i]?=some a):a.ty.size<t.dd:=by have h1:=bU Lb.dd h;have h2:=t.oC;have h3:a.dd=1+a.ty.size:=rfl;omega
theorem Tn:∀ (N:Nat) (t u:Ex),t.dd≤N→N≤1048576→bJ aj 20 [br t,br u] (bl (nW t u)):=by
 intro N
 induction N with
 | zero=>intro t u h;have:=t.gz;omega
 | succ N ih =>
  intro t u hN hb
  have h1:=t.wo
  have h2:=t.mE
  exact Ov t u (by omega) (by omega) (Dg t.types u.types (by omega) fun i a b ha _=>sF a.size a b (ay _) (by have:=Ex.Ow ha;omega))
   (fun i a b ha _=>sF a.ty.size a.ty b.ty (ay _) (by have:=Ex.Kt ha;omega)) fun i a b ha _=>ih a b (by have:=Ex.Tm ha;omega) (by omega)
end
section
theorem mU {a b:Bool} (h:a=b):(a==b)=true:=by rw [h];simp
section
attribute [local go_sem] dZ agy
theorem lawApart_ok (hG:ba.g=some 0) (hP:ba.u4 1=some jc) (haw:bJ aj 9 [] (bl true)) (a b:Ty) (x y:Ex) (hwa:a.wt≤1048576) (hwb:b.wt≤1048576) (hwx:x.wt≤1048576) (hwy:y.wt≤1048576) (KZ:N7 x) (CV:N7 y):Cn 6 [bk a,bk b,br x,br y] (bl true):=by
 refine jq tt_ok [] 83 [.tmp 8] (fn:=Tryz.f6) Tryz.func6 rfl Tryz.call6 ⟨rfl,rfl,by simp⟩ fun K hK=>?_;have hFa:=Yd a x hwa hwx;have hFb:=Yd b y hwb hwy;have hPa:=wL hG a hwa EZ;have hPb:=wL hG b hwb EZ;have hPx:=BA hG x hwx (Ka hP hwx KZ);have hPy:=BA hG y hwy (Ka hP hwy CV);have hET:=sF a.size a b (ay _) (fU a.gA hwa);have hEX:=Tn x.dd x y (ay _) (fU x.hH hwx);simp only [aT,aD,aQ,bD,bn,aP,aQ,bK] at hFa hFb hPa hPb hPx hPy hET hEX ⊢;simp only [go_sem];refine ep (abM haw) ?_;simp only [go_sem];refine ep (hFa) ?_;simp only [go_sem];refine cC (fun ag8=>?_) (fun ag8=>?_) <;> simp only [go_sem];·first|exact hK _ rfl|exact hK _ (congrArg bl (mU (lL KZ CV (by simpa using ki) (by simpa using kj))))|(exact hK _ (congrArg bl (by simp_all)))
 refine ep (hFb) ?_;simp only [go_sem];refine cC (fun xG=>?_) (fun xG=>?_) <;> simp only [go_sem];·first|exact hK _ rfl|exact hK _ (congrArg bl (mU (lL KZ CV (by simpa using ki) (by simpa using kj))))|(exact hK _ (congrArg bl (by simp_all)))
 refine ep (hPa) ?_;simp only [go_sem];refine ep (hPb) ?_;simp only [go_sem];refine ep (hPx) ?_;simp only [go_sem];refine ep (hPy) ?_;simp only [go_sem];refine cC (fun Yn=>?_) (fun Yn=>?_) <;> simp only [go_sem];·refine cC (fun ki=>?_) (fun ki=>?_) <;> simp only [go_sem];(·first|exact hK _ rfl|exact hK _ (congrArg bl (mU (lL KZ CV (by simpa using ki) (by simpa using kj))))|(exact hK _ (congrArg bl (by simp_all))));refine cC (fun kj=>?_) (fun kj=>?_) <;> simp only [go_sem];(·first|exact hK _ rfl|exact hK _ (congrArg bl (mU (lL KZ CV (by simpa using ki) (by simpa using kj))))|(exact hK _ (congrArg bl (by simp_all))));refine ep ((⟨_,rfl,hEX⟩:∃ r_,(fun w=>w=bl (nW x y)) r_∧_)) ?_;simp only [go_sem];first|exact hK _ rfl|exact hK _ (congrArg bl (mU (lL KZ CV (by simpa using ki) (by simpa using kj))))|(exact hK _ (congrArg bl (by simp_all)))
 refine cC (fun Yo=>?_) (fun Yo=>?_) <;> simp only [go_sem];·refine cC (fun ki=>?_) (fun ki=>?_) <;> simp only [go_sem];(·first|exact hK _ rfl|exact hK _ (congrArg bl (mU (lL KZ CV (by simpa using ki) (by simpa using kj))))|(exact hK _ (congrArg bl (by simp_all))));refine cC (fun kj=>?_) (fun kj=>?_) <;> simp only [go_sem];(·first|exact hK _ rfl|exact hK _ (congrArg bl (mU (lL KZ CV (by simpa using ki) (by simpa using kj))))|(exact hK _ (congrArg bl (by simp_all))));refine ep ((⟨_,rfl,hEX⟩:∃ r_,(fun w=>w=bl (nW x y)) r_∧_)) ?_;simp only [go_sem];first|exact hK _ rfl|exact hK _ (congrArg bl (mU (lL KZ CV (by simpa using ki) (by simpa using kj))))|(exact hK _ (congrArg bl (by simp_all)))
 refine ep ((⟨_,rfl,hET⟩:∃ r_,(fun w=>w=bl (nW a b)) r_∧_)) ?_;simp only [go_sem];refine cC (fun Ku=>?_) (fun Ku=>?_);·simp only [go_sem];refine cC (fun ki=>?_) (fun ki=>?_) <;> simp only [go_sem];(·first|exact hK _ rfl|exact hK _ (congrArg bl (mU (lL KZ CV (by simpa using ki) (by simpa using kj))))|(exact hK _ (congrArg bl (by simp_all))));refine cC (fun kj=>?_) (fun kj=>?_) <;> simp only [go_sem];(·first|exact hK _ rfl|exact hK _ (congrArg bl (mU (lL KZ CV (by simpa using ki) (by simpa using kj))))|(exact hK _ (congrArg bl (by simp_all))));refine ep ((⟨_,rfl,hEX⟩:∃ r_,(fun w=>w=bl (nW x y)) r_∧_)) ?_;simp only [go_sem];first|exact hK _ rfl|exact hK _ (congrArg bl (mU (lL KZ CV (by simpa using ki) (by simpa using kj))))|(exact hK _ (congrArg bl (by simp_all)))
 first|(exact absurd (Ku.symm.trans (mU (Wv (by simpa using Yn) (by simpa using Yo)))) (by decide))|(exact absurd Ku (by simp))
end
end
section
section
attribute [local go_sem] ax List.length_range
theorem Mo (s:ByteArray) (hs:s.size≤65536) (n:Nat) (P ln:Nat→Nat) (kd:Nat→Int) (tx:Nat→ByteArray) (h0:bJ aj 73 [str s,num 0] (num (P 0))) (uf:∀ k<n,P k<s.size∧P k+ln k≤1048576∧bJ aj 74 [str (s.extract (P k) s.size)] (.dR [.agg [num (kd k),str (tx k),num 0],num (ln k),num 0])) (hsk:∀ k<n,∃ d:Nat,P (k+1)=P k+ln k+d∧d≤65536∧bJ aj 73 [str s,num ((P k+ln k:Nat):Int)] (num d)) (hn:n≤65536) (ag9:P n=s.size):Cn 25 [str s] (.dR [.slice ((List.range n).map (fun k=>.agg [num (kd k),str (tx k),num (P k)])++[.agg [num 0,str ⟨#[]⟩,num s.size]]),num 0,num 0]):=by
 refine jq tt_ok [] 52 [.tmp 2,.tmp 3,.tmp 4] (fn:=Tryz.f25) Tryz.func25 rfl Tryz.call25 ⟨rfl,rfl,by simp⟩ fun K hK=>?_;have tH:aj.underlying 9=some .string:=kr;have sl:∀ (a:ByteArray) (ty:TypeId),ko aj (Builtin.len_ #[9] ty) [.sc (.string a)]=some (num a.size):=fun a ty=>kD (P:=aj) (tt:=tt) (T:=9) a tH ty;obtain⟨tk,aha⟩:∃ tk:Nat→V,tk=fun k=>.agg [num (kd k),str (tx k),num (P k)]:=⟨_,rfl⟩;simp only [sl,go_sem];refine cC (fun ahb=>?_) (fun ahb=>?_);·exact absurd (of_decide_eq_true ahb) (by omega)
 simp only [sl,go_sem];refine ep (⟨_,rfl,h0⟩) ?_;simp only [sl,go_sem];refine nM tt_ok [] (fun i:Nat=>[(0,str s),(2,.sc (.slice none 0 0)),(3,num 0),(4,num 0),(5,.ms 0 i 0 i),(6,num (P i))]) (fun i:Nat=>[.rows i 3 ((List.range i).map tk)]) (fun i=>n-i) (fun i=>i≤n) (0) 1 (eU (by omega) (by simp only [sl,List.range_zero,iK,dY,go_sem] <;> rfl)) (ck _) ?_;intro i hi;intro Z1 fh;simp only [sl,go_sem];refine cC (fun mR=>?_) (fun mR=>?_);·(have bQ:i<n:=auY fun h_=>by (have h2_:i=n:=by omega);subst h2_;simp [ag9] at mR);obtain⟨ht1,ht2,ht3⟩:=uf i bQ;obtain⟨d,YZ,OQ,hd3⟩:=hsk i bQ;have hcf:dE aj (fun a l=>Instr.sliceAt 9 a (some l) none none) (.sc (.string s)) (.sc (.int .i64 ((P i:Int))))=some (.sc (.string (s.extract ((P i:Int):Int).toNat s.size))):=IE (P:=aj) (tt:=tt) (mem:=[]) (T:=9) s tH .i64 ((P i:Int)) (by omega) (by omega);have lQ:=oy (P i) (ln i) (by omega);have nr:=oy (P i+ln i) d (by omega);(have To:i≤34359738367:=by omega);simp only [hcf,ru,lQ,nr,To,sl,go_sem];refine ep (⟨_,rfl,ht3⟩) ?_;simp only [hcf,ru,lQ,nr,To,sl,go_sem];refine ep (⟨_,rfl,hd3⟩) ?_;simp only [hcf,ru,lQ,nr,To,sl,go_sem];refine fh _ ⟨i+1,?_,?_,eU (by omega) (by (simp only [List.range_succ,fF,bm,iK,aha,YZ,ae,af,ai,dL,go_sem]))⟩;(·exact bQ);omega
 have kz:i=n:=auY fun h_=>by have h2_:=(uf i (by omega)).1;have h3_:=of_decide_eq_false mR;omega
 rw [kz,ag9];have To:n≤34359738367:=by omega
 subst aha;simp only [To,ae,af,ai,dL,az,sl,go_sem];exact hK _ (by rw [dX (by simp)])
end
end
def dt:ByteArray:=⟨#[40,40,97,41,32,45,32,40,98,41,41,32,45,32,40,99,32,45,32,49,41]⟩
def cZ (k:Nat):Nat:=([0,1,2,3,5,7,8,9,10,12,14,15,17,19,20,21]:List Nat).getD k 0
def eE (k:Nat):Nat:=([1,1,1,1,1,1,1,1,1,1,1,1,1,1,1]:List Nat).getD k 0
def sU (k:Nat):Int:=([6,6,1,6,6,6,1,6,6,6,6,1,6,3,6]:List Int).getD k 0
def sW (k:Nat):ByteArray:=([⟨#[40]⟩,⟨#[40]⟩,⟨#[97]⟩,⟨#[41]⟩,⟨#[45]⟩,⟨#[40]⟩,⟨#[98]⟩,⟨#[41]⟩,⟨#[41]⟩,⟨#[45]⟩,⟨#[40]⟩,⟨#[99]⟩,⟨#[45]⟩,⟨#[49]⟩,⟨#[41]⟩]:List ByteArray).getD k ⟨#[]⟩
theorem amK (hG:ba.g=some 0):bJ aj 73 [str dt,num 0] (num 0):=(cx bz (cj hG) 2000 kr:bJ aj 73 [str ⟨#[40,40,97,41,32,45,32,40,98,41,41,32,45,32,40,99,32,45,32,49,41]⟩,num 0] (num 0))
theorem ahc (hG:ba.g=some 0):bJ aj 74 [str ⟨#[40,40,97,41,32,45,32,40,98,41,41,32,45,32,40,99,32,45,32,49,41]⟩] (.dR [.agg [num 6,str ⟨#[40]⟩,num 0],num 1,num 0]):=cx bz (cj hG) 2000 kr
theorem ahd (hG:ba.g=some 0):bJ aj 73 [str ⟨#[40,40,97,41,32,45,32,40,98,41,41,32,45,32,40,99,32,45,32,49,41]⟩,num 1] (num 0):=cx bz (cj hG) 2000 kr
theorem ahe (hG:ba.g=some 0):cZ 0<dt.size∧cZ 0+eE 0≤1048576∧bJ aj 74 [str (dt.extract (cZ 0) dt.size)] (.dR [.agg [num (sU 0),str (sW 0),num 0],num (eE 0),num 0]):=⟨of_decide_eq_true kr,of_decide_eq_true kr,by rw [show dt.extract (cZ 0) dt.size=⟨#[40,40,97,41,32,45,32,40,98,41,41,32,45,32,40,99,32,45,32,49,41]⟩ from kr];exact ahc hG⟩
theorem ahf (hG:ba.g=some 0):∃ d:Nat,cZ (0+1)=cZ 0+eE 0+d∧d≤65536∧bJ aj 73 [str dt,num ((cZ 0+eE 0:Nat):Int)] (num d):=⟨0,kr,by decide,ahd hG⟩
theorem ahg (hG:ba.g=some 0):bJ aj 74 [str ⟨#[40,97,41,32,45,32,40,98,41,41,32,45,32,40,99,32,45,32,49,41]⟩] (.dR [.agg [num 6,str ⟨#[40]⟩,num 0],num 1,num 0]):=cx bz (cj hG) 2000 kr
theorem ahh (hG:ba.g=some 0):bJ aj 73 [str ⟨#[40,40,97,41,32,45,32,40,98,41,41,32,45,32,40,99,32,45,32,49,41]⟩,num 2] (num 0):=cx bz (cj hG) 2000 kr
theorem ahi (hG:ba.g=some 0):cZ 1<dt.size∧cZ 1+eE 1≤1048576∧bJ aj 74 [str (dt.extract (cZ 1) dt.size)] (.dR [.agg [num (sU 1),str (sW 1),num 0],num (eE 1),num 0]):=⟨of_decide_eq_true kr,of_decide_eq_true kr,by rw [show dt.extract (cZ 1) dt.size=⟨#[40,97,41,32,45,32,40,98,41,41,32,45,32,40,99,32,45,32,49,41]⟩ from kr];exact ahg hG⟩
theorem ahj (hG:ba.g=some 0):∃ d:Nat,cZ (1+1)=cZ 1+eE 1+d∧d≤65536∧bJ aj 73 [str dt,num ((cZ 1+eE 1:Nat):Int)] (num d):=⟨0,kr,by decide,ahh hG⟩
theorem ahk (hG:ba.g=some 0):bJ aj 74 [str ⟨#[97,41,32,45,32,40,98,41,41,32,45,32,40,99,32,45,32,49,41]⟩] (.dR [.agg [num 1,str ⟨#[97]⟩,num 0],num 1,num 0]):=cx bz (cj hG) 2000 kr
theorem ahl (hG:ba.g=some 0):bJ aj 73 [str ⟨#[40,40,97,41,32,45,32,40,98,41,41,32,45,32,40,99,32,45,32,49,41]⟩,num 3] (num 0):=cx bz (cj hG) 2000 kr
theorem ahm (hG:ba.g=some 0):cZ 2<dt.size∧cZ 2+eE 2≤1048576∧bJ aj 74 [str (dt.extract (cZ 2) dt.size)] (.dR [.agg [num (sU 2),str (sW 2),num 0],num (eE 2),num 0]):=⟨of_decide_eq_true kr,of_decide_eq_true kr,by rw [show dt.extract (cZ 2) dt.size=⟨#[97,41,32,45,32,40,98,41,41,32,45,32,40,99,32,45,32,49,41]⟩ from kr];exact ahk hG⟩
theorem ahn (hG:ba.g=some 0):∃ d:Nat,cZ (2+1)=cZ 2+eE 2+d∧d≤65536∧bJ aj 73 [str dt,num ((cZ 2+eE 2:Nat):Int)] (num d):=⟨0,kr,by decide,ahl hG⟩
theorem aho (hG:ba.g=some 0):bJ aj 74 [str ⟨#[41,32,45,32,40,98,41,41,32,45,32,40,99,32,45,32,49,41]⟩] (.dR [.agg [num 6,str ⟨#[41]⟩,num 0],num 1,num 0]):=cx bz (cj hG) 2000 kr
theorem ahp (hG:ba.g=some 0):bJ aj 73 [str ⟨#[40,40,97,41,32,45,32,40,98,41,41,32,45,32,40,99,32,45,32,49,41]⟩,num 4] (num 1):=cx bz (cj hG) 2000 kr
theorem ahq (hG:ba.g=some 0):cZ 3<dt.size∧cZ 3+eE 3≤1048576∧bJ aj 74 [str (dt.extract (cZ 3) dt.size)] (.dR [.agg [num (sU 3),str (sW 3),num 0],num (eE 3),num 0]):=⟨of_decide_eq_true kr,of_decide_eq_true kr,by rw [show dt.extract (cZ 3) dt.size=⟨#[41,32,45,32,40,98,41,41,32,45,32,40,99,32,45,32,49,41]⟩ from kr];exact aho hG⟩
theorem ahr (hG:ba.g=some 0):∃ d:Nat,cZ (3+1)=cZ 3+eE 3+d∧d≤65536∧bJ aj 73 [str dt,num ((cZ 3+eE 3:Nat):Int)] (num d):=⟨1,kr,by decide,ahp hG⟩
theorem ahs (hG:ba.g=some 0):bJ aj 74 [str ⟨#[45,32,40,98,41,41,32,45,32,40,99,32,45,32,49,41]⟩] (.dR [.agg [num 6,str ⟨#[45]⟩,num 0],num 1,num 0]):=cx bz (cj hG) 2000 kr
theorem aht (hG:ba.g=some 0):bJ aj 73 [str ⟨#[40,40,97,41,32,45,32,40,98,41,41,32,45,32,40,99,32,45,32,49,41]⟩,num 6] (num 1):=cx bz (cj hG) 2000 kr
theorem ahu (hG:ba.g=some 0):cZ 4<dt.size∧cZ 4+eE 4≤1048576∧bJ aj 74 [str (dt.extract (cZ 4) dt.size)] (.dR [.agg [num (sU 4),str (sW 4),num 0],num (eE 4),num 0]):=⟨of_decide_eq_true kr,of_decide_eq_true kr,by rw [show dt.extract (cZ 4) dt.size=⟨#[45,32,40,98,41,41,32,45,32,40,99,32,45,32,49,41]⟩ from kr];exact ahs hG⟩
theorem ahv (hG:ba.g=some 0):∃ d:Nat,cZ (4+1)=cZ 4+eE 4+d∧d≤65536∧bJ aj 73 [str dt,num ((cZ 4+eE 4:Nat):Int)] (num d):=⟨1,kr,by decide,aht hG⟩
theorem ahw (hG:ba.g=some 0):bJ aj 74 [str ⟨#[40,98,41,41,32,45,32,40,99,32,45,32,49,41]⟩] (.dR [.agg [num 6,str ⟨#[40]⟩,num 0],num 1,num 0]):=cx bz (cj hG) 2000 kr
theorem ahx (hG:ba.g=some 0):bJ aj 73 [str ⟨#[40,40,97,41,32,45,32,40,98,41,41,32,45,32,40,99,32,45,32,49,41]⟩,num 8] (num 0):=cx bz (cj hG) 2000 kr
theorem ahy (hG:ba.g=some 0):cZ 5<dt.size∧cZ 5+eE 5≤1048576∧bJ aj 74 [str (dt.extract (cZ 5) dt.size)] (.dR [.agg [num (sU 5),str (sW 5),num 0],num (eE 5),num 0]):=⟨of_decide_eq_true kr,of_decide_eq_true kr,by rw [show dt.extract (cZ 5) dt.size=⟨#[40,98,41,41,32,45,32,40,99,32,45,32,49,41]⟩ from kr];exact ahw hG⟩
theorem ahz (hG:ba.g=some 0):∃ d:Nat,cZ (5+1)=cZ 5+eE 5+d∧d≤65536∧bJ aj 73 [str dt,num ((cZ 5+eE 5:Nat):Int)] (num d):=⟨0,kr,by decide,ahx hG⟩
theorem ahA (hG:ba.g=some 0):bJ aj 74 [str ⟨#[98,41,41,32,45,32,40,99,32,45,32,49,41]⟩] (.dR [.agg [num 1,str ⟨#[98]⟩,num 0],num 1,num 0]):=cx bz (cj hG) 2000 kr
theorem ahB (hG:ba.g=some 0):bJ aj 73 [str ⟨#[40,40,97,41,32,45,32,40,98,41,41,32,45,32,40,99,32,45,32,49,41]⟩,num 9] (num 0):=cx bz (cj hG) 2000 kr
theorem ahC (hG:ba.g=some 0):cZ 6<dt.size∧cZ 6+eE 6≤1048576∧bJ aj 74 [str (dt.extract (cZ 6) dt.size)] (.dR [.agg [num (sU 6),str (sW 6),num 0],num (eE 6),num 0]):=⟨of_decide_eq_true kr,of_decide_eq_true kr,by rw [show dt.extract (cZ 6) dt.size=⟨#[98,41,41,32,45,32,40,99,32,45,32,49,41]⟩ from kr];exact ahA hG⟩
theorem ahD (hG:ba.g=some 0):∃ d:Nat,cZ (6+1)=cZ 6+eE 6+d∧d≤65536∧bJ aj 73 [str dt,num ((cZ 6+eE 6:Nat):Int)] (num d):=⟨0,kr,by decide,ahB hG⟩
theorem ahE (hG:ba.g=some 0):bJ aj 74 [str ⟨#[41,41,32,45,32,40,99,32,45,32,49,41]⟩] (.dR [.agg [num 6,str ⟨#[41]⟩,num 0],num 1,num 0]):=cx bz (cj hG) 2000 kr
theorem ahF (hG:ba.g=some 0):bJ aj 73 [str ⟨#[40,40,97,41,32,45,32,40,98,41,41,32,45,32,40,99,32,45,32,49,41]⟩,num 10] (num 0):=cx bz (cj hG) 2000 kr
theorem ahG (hG:ba.g=some 0):cZ 7<dt.size∧cZ 7+eE 7≤1048576∧bJ aj 74 [str (dt.extract (cZ 7) dt.size)] (.dR [.agg [num (sU 7),str (sW 7),num 0],num (eE 7),num 0]):=⟨of_decide_eq_true kr,of_decide_eq_true kr,by rw [show dt.extract (cZ 7) dt.size=⟨#[41,41,32,45,32,40,99,32,45,32,49,41]⟩ from kr];exact ahE hG⟩
theorem ahH (hG:ba.g=some 0):∃ d:Nat,cZ (7+1)=cZ 7+eE 7+d∧d≤65536∧bJ aj 73 [str dt,num ((cZ 7+eE 7:Nat):Int)] (num d):=⟨0,kr,by decide,ahF hG⟩
theorem ahI (hG:ba.g=some 0):bJ aj 74 [str ⟨#[41,32,45,32,40,99,32,45,32,49,41]⟩] (.dR [.agg [num 6,str ⟨#[41]⟩,num 0],num 1,num 0]):=cx bz (cj hG) 2000 kr
theorem ahJ (hG:ba.g=some 0):bJ aj 73 [str ⟨#[40,40,97,41,32,45,32,40,98,41,41,32,45,32,40,99,32,45,32,49,41]⟩,num 11] (num 1):=cx bz (cj hG) 2000 kr
theorem ahK (hG:ba.g=some 0):cZ 8<dt.size∧cZ 8+eE 8≤1048576∧bJ aj 74 [str (dt.extract (cZ 8) dt.size)] (.dR [.agg [num (sU 8),str (sW 8),num 0],num (eE 8),num 0]):=⟨of_decide_eq_true kr,of_decide_eq_true kr,by rw [show dt.extract (cZ 8) dt.size=⟨#[41,32,45,32,40,99,32,45,32,49,41]⟩ from kr];exact ahI hG⟩
theorem ahL (hG:ba.g=some 0):∃ d:Nat,cZ (8+1)=cZ 8+eE 8+d∧d≤65536∧bJ aj 73 [str dt,num ((cZ 8+eE 8:Nat):Int)] (num d):=⟨1,kr,by decide,ahJ hG⟩
theorem ahM (hG:ba.g=some 0):bJ aj 74 [str ⟨#[45,32,40,99,32,45,32,49,41]⟩] (.dR [.agg [num 6,str ⟨#[45]⟩,num 0],num 1,num 0]):=cx bz (cj hG) 2000 kr
theorem ahN (hG:ba.g=some 0):bJ aj 73 [str ⟨#[40,40,97,41,32,45,32,40,98,41,41,32,45,32,40,99,32,45,32,49,41]⟩,num 13] (num 1):=cx bz (cj hG) 2000 kr
theorem ahO (hG:ba.g=some 0):cZ 9<dt.size∧cZ 9+eE 9≤1048576∧bJ aj 74 [str (dt.extract (cZ 9) dt.size)] (.dR [.agg [num (sU 9),str (sW 9),num 0],num (eE 9),num 0]):=⟨of_decide_eq_true kr,of_decide_eq_true kr,by rw [show dt.extract (cZ 9) dt.size=⟨#[45,32,40,99,32,45,32,49,41]⟩ from kr];exact ahM hG⟩
theorem ahP (hG:ba.g=some 0):∃ d:Nat,cZ (9+1)=cZ 9+eE 9+d∧d≤65536∧bJ aj 73 [str dt,num ((cZ 9+eE 9:Nat):Int)] (num d):=⟨1,kr,by decide,ahN hG⟩
theorem acs (hG:ba.g=some 0):bJ aj 74 [str ⟨#[40,99,32,45,32,49,41]⟩] (.dR [.agg [num 6,str ⟨#[40]⟩,num 0],num 1,num 0]):=cx bz (cj hG) 2000 kr
theorem acu (hG:ba.g=some 0):bJ aj 73 [str ⟨#[40,40,97,41,32,45,32,40,98,41,41,32,45,32,40,99,32,45,32,49,41]⟩,num 15] (num 0):=cx bz (cj hG) 2000 kr
theorem acv (hG:ba.g=some 0):cZ 10<dt.size∧cZ 10+eE 10≤1048576∧bJ aj 74 [str (dt.extract (cZ 10) dt.size)] (.dR [.agg [num (sU 10),str (sW 10),num 0],num (eE 10),num 0]):=⟨of_decide_eq_true kr,of_decide_eq_true kr,by rw [show dt.extract (cZ 10) dt.size=⟨#[40,99,32,45,32,49,41]⟩ from kr];exact acs hG⟩
theorem acw (hG:ba.g=some 0):∃ d:Nat,cZ (10+1)=cZ 10+eE 10+d∧d≤65536∧bJ aj 73 [str dt,num ((cZ 10+eE 10:Nat):Int)] (num d):=⟨0,kr,by decide,acu hG⟩
theorem acx (hG:ba.g=some 0):bJ aj 74 [str ⟨#[99,32,45,32,49,41]⟩] (.dR [.agg [num 1,str ⟨#[99]⟩,num 0],num 1,num 0]):=cx bz (cj hG) 2000 kr
theorem acy (hG:ba.g=some 0):bJ aj 73 [str ⟨#[40,40,97,41,32,45,32,40,98,41,41,32,45,32,40,99,32,45,32,49,41]⟩,num 16] (num 1):=cx bz (cj hG) 2000 kr
theorem acz (hG:ba.g=some 0):cZ 11<dt.size∧cZ 11+eE 11≤1048576∧bJ aj 74 [str (dt.extract (cZ 11) dt.size)] (.dR [.agg [num (sU 11),str (sW 11),num 0],num (eE 11),num 0]):=⟨of_decide_eq_true kr,of_decide_eq_true kr,by rw [show dt.extract (cZ 11) dt.size=⟨#[99,32,45,32,49,41]⟩ from kr];exact acx hG⟩
theorem acA (hG:ba.g=some 0):∃ d:Nat,cZ (11+1)=cZ 11+eE 11+d∧d≤65536∧bJ aj 73 [str dt,num ((cZ 11+eE 11:Nat):Int)] (num d):=⟨1,kr,by decide,acy hG⟩
theorem acB (hG:ba.g=some 0):bJ aj 74 [str ⟨#[45,32,49,41]⟩] (.dR [.agg [num 6,str ⟨#[45]⟩,num 0],num 1,num 0]):=cx bz (cj hG) 2000 kr
theorem acC (hG:ba.g=some 0):bJ aj 73 [str ⟨#[40,40,97,41,32,45,32,40,98,41,41,32,45,32,40,99,32,45,32,49,41]⟩,num 18] (num 1):=cx bz (cj hG) 2000 kr
theorem acD (hG:ba.g=some 0):cZ 12<dt.size∧cZ 12+eE 12≤1048576∧bJ aj 74 [str (dt.extract (cZ 12) dt.size)] (.dR [.agg [num (sU 12),str (sW 12),num 0],num (eE 12),num 0]):=⟨of_decide_eq_true kr,of_decide_eq_true kr,by rw [show dt.extract (cZ 12) dt.size=⟨#[45,32,49,41]⟩ from kr];exact acB hG⟩
theorem acE (hG:ba.g=some 0):∃ d:Nat,cZ (12+1)=cZ 12+eE 12+d∧d≤65536∧bJ aj 73 [str dt,num ((cZ 12+eE 12:Nat):Int)] (num d):=⟨1,kr,by decide,acC hG⟩
theorem acF (hG:ba.g=some 0):bJ aj 74 [str ⟨#[49,41]⟩] (.dR [.agg [num 3,str ⟨#[49]⟩,num 0],num 1,num 0]):=cx bz (cj hG) 2000 kr
theorem acG (hG:ba.g=some 0):bJ aj 73 [str ⟨#[40,40,97,41,32,45,32,40,98,41,41,32,45,32,40,99,32,45,32,49,41]⟩,num 20] (num 0):=cx bz (cj hG) 2000 kr
theorem acH (hG:ba.g=some 0):cZ 13<dt.size∧cZ 13+eE 13≤1048576∧bJ aj 74 [str (dt.extract (cZ 13) dt.size)] (.dR [.agg [num (sU 13),str (sW 13),num 0],num (eE 13),num 0]):=⟨of_decide_eq_true kr,of_decide_eq_true kr,by rw [show dt.extract (cZ 13) dt.size=⟨#[49,41]⟩ from kr];exact acF hG⟩
theorem acI (hG:ba.g=some 0):∃ d:Nat,cZ (13+1)=cZ 13+eE 13+d∧d≤65536∧bJ aj 73 [str dt,num ((cZ 13+eE 13:Nat):Int)] (num d):=⟨0,kr,by decide,acG hG⟩
theorem acJ (hG:ba.g=some 0):bJ aj 74 [str ⟨#[41]⟩] (.dR [.agg [num 6,str ⟨#[41]⟩,num 0],num 1,num 0]):=cx bz (cj hG) 2000 kr
theorem acK (hG:ba.g=some 0):bJ aj 73 [str ⟨#[40,40,97,41,32,45,32,40,98,41,41,32,45,32,40,99,32,45,32,49,41]⟩,num 21] (num 0):=cx bz (cj hG) 2000 kr
theorem acL (hG:ba.g=some 0):cZ 14<dt.size∧cZ 14+eE 14≤1048576∧bJ aj 74 [str (dt.extract (cZ 14) dt.size)] (.dR [.agg [num (sU 14),str (sW 14),num 0],num (eE 14),num 0]):=⟨of_decide_eq_true kr,of_decide_eq_true kr,by rw [show dt.extract (cZ 14) dt.size=⟨#[41]⟩ from kr];exact acJ hG⟩
theorem acM (hG:ba.g=some 0):∃ d:Nat,cZ (14+1)=cZ 14+eE 14+d∧d≤65536∧bJ aj 73 [str dt,num ((cZ 14+eE 14:Nat):Int)] (num d):=⟨0,kr,by decide,acK hG⟩
theorem Tp (hG:ba.g=some 0):∀ k<15,(cZ k<dt.size∧cZ k+eE k≤1048576∧bJ aj 74 [str (dt.extract (cZ k) dt.size)] (.dR [.agg [num (sU k),str (sW k),num 0],num (eE k),num 0]))∧∃ d:Nat,cZ (k+1)=cZ k+eE k+d∧d≤65536∧bJ aj 73 [str dt,num ((cZ k+eE k:Nat):Int)] (num d)
 | 0,_=>⟨ahe hG,ahf hG⟩
 | 1,_=>⟨ahi hG,ahj hG⟩
 | 2,_=>⟨ahm hG,ahn hG⟩
 | 3,_=>⟨ahq hG,ahr hG⟩
 | 4,_=>⟨ahu hG,ahv hG⟩
 | 5,_=>⟨ahy hG,ahz hG⟩
 | 6,_=>⟨ahC hG,ahD hG⟩
 | 7,_=>⟨ahG hG,ahH hG⟩
 | 8,_=>⟨ahK hG,ahL hG⟩
 | 9,_=>⟨ahO hG,ahP hG⟩
 | 10,_=>⟨acv hG,acw hG⟩
 | 11,_=>⟨acz hG,acA hG⟩
 | 12,_=>⟨acD hG,acE hG⟩
 | 13,_=>⟨acH hG,acI hG⟩
 | 14,_=>⟨acL hG,acM hG⟩
 | k+15,h=>absurd h (by omega)
theorem amL (hG:ba.g=some 0):bJ aj 25 [str ⟨#[40,40,97,41,32,45,32,40,98,41,41,32,45,32,40,99,32,45,32,49,41]⟩] (.dR [.slice [.agg [num 6,str ⟨#[40]⟩,num 0],.agg [num 6,str ⟨#[40]⟩,num 1],.agg [num 1,str ⟨#[97]⟩,num 2],.agg [num 6,str ⟨#[41]⟩,num 3],.agg [num 6,str ⟨#[45]⟩,num 5],.agg [num 6,str ⟨#[40]⟩,num 7],.agg [num 1,str ⟨#[98]⟩,num 8],.agg [num 6,str ⟨#[41]⟩,num 9],.agg [num 6,str ⟨#[41]⟩,num 10],.agg [num 6,str ⟨#[45]⟩,num 12],.agg [num 6,str ⟨#[40]⟩,num 14],.agg [num 1,str ⟨#[99]⟩,num 15],.agg [num 6,str ⟨#[45]⟩,num 17],.agg [num 3,str ⟨#[49]⟩,num 19],.agg [num 6,str ⟨#[41]⟩,num 20],.agg [num 0,str ⟨#[]⟩,num 21]],num 0,num 0]):=by obtain⟨_,rfl,h⟩:=Mo dt (by decide) 15 cZ eE sU sW (amK hG) (fun k hk=>(Tp hG k hk).1) (fun k hk=>(Tp hG k hk).2) (by decide) kr;exact h
abbrev cJ:V:=.slice [.agg [num 6,str ⟨#[40]⟩,num 0],.agg [num 6,str ⟨#[40]⟩,num 1],.agg [num 1,str ⟨#[97]⟩,num 2],.agg [num 6,str ⟨#[41]⟩,num 3],.agg [num 6,str ⟨#[45]⟩,num 5],.agg [num 6,str ⟨#[40]⟩,num 7],.agg [num 1,str ⟨#[98]⟩,num 8],.agg [num 6,str ⟨#[41]⟩,num 9],.agg [num 6,str ⟨#[41]⟩,num 10],.agg [num 6,str ⟨#[45]⟩,num 12],.agg [num 6,str ⟨#[40]⟩,num 14],.agg [num 1,str ⟨#[99]⟩,num 15],.agg [num 6,str ⟨#[45]⟩,num 17],.agg [num 3,str ⟨#[49]⟩,num 19],.agg [num 6,str ⟨#[41]⟩,num 20],.agg [num 0,str ⟨#[]⟩,num 21]]
abbrev dc:bf:=.box [num 0,str ⟨#[]⟩,str ⟨#[]⟩,str ⟨#[]⟩,num 0,.sc (.slice none 0 0),.sc (.slice none 0 0),.sc (.slice none 0 0)]
abbrev dm:bf:=.box [.sc (.slice none 0 0),num 0,num 0,num 0]
abbrev Yp:List bf:=[dc,.box [cJ,num 0,num 0,num 0],.box [cJ,num 0,num 0,num 0],dc,dm,.box [cJ,num 0,num 0,num 0],dc,dm,.box [cJ,num 0,num 0,num 0],dc,dm,.box [cJ,num 0,num 0,num 0],dc,dm,.box [cJ,num 0,num 0,num 0],dc,dm,.box [cJ,num 0,num 0,num 0],dc,dm,.box [cJ,num 0,num 0,num 0],dc,dm,.box [cJ,num 0,num 0,num 0],dc,dm,.box [cJ,num 0,num 0,num 0],dc,dm,.box [cJ,num 0,num 0,num 0],dc,dm,.box [cJ,num 0,num 0,num 0],dc,dm,.box [cJ,num 1,num 0,num 0],dc,dm,.box [cJ,num 1,num 0,num 0],dc,dm,.box [cJ,num 1,num 0,num 0],dc,dm,.box [cJ,num 1,num 0,num 0],dc,dm,.box [cJ,num 1,num 0,num 0],dc,dm,.box [cJ,num 1,num 0,num 0],dc,dm,.box [cJ,num 1,num 0,num 0],dc,dm,.box [cJ,num 1,num 0,num 0],dc,dm,.box [cJ,num 1,num 0,num 0],dc,dm,.box [cJ,num 1,num 0,num 0],dc,dm,.box [cJ,num 1,num 0,num 0],dc,dm]
abbrev Yq:bf:=.rows 0 1 [str ⟨#[43]⟩,str ⟨#[45]⟩,str ⟨#[43,43]⟩]
abbrev Yr:List bf:=[dc,.box [cJ,num 0,num 0,num 0],.box [cJ,num 0,num 0,num 0],dc,dm,.box [cJ,num 0,num 0,num 0],dc,dm,.box [cJ,num 0,num 0,num 0],dc,dm,.box [cJ,num 0,num 0,num 0],dc,dm,.box [cJ,num 0,num 0,num 0],dc,dm,.box [cJ,num 0,num 0,num 0],dc,dm,.box [cJ,num 0,num 0,num 0],dc,dm,.box [cJ,num 0,num 0,num 0],dc,dm,.box [cJ,num 0,num 0,num 0],dc,dm,.box [cJ,num 0,num 0,num 0],dc,dm,.box [cJ,num 0,num 0,num 0],dc,dm,.box [cJ,num 1,num 0,num 0],dc,dm,.box [cJ,num 1,num 0,num 0],dc,dm,.box [cJ,num 1,num 0,num 0],dc,dm,.box [cJ,num 1,num 0,num 0],dc,dm,.box [cJ,num 1,num 0,num 0],dc,dm,.box [cJ,num 4,num 0,num 0],dc,dm,.box [num 3,str ⟨#[]⟩,str ⟨#[97]⟩,str ⟨#[]⟩,num 0,.sc (.slice none 0 0),.sc (.slice none 0 0),.sc (.slice none 0 0)],Yq,.box [cJ,num 5,num 0,num 0],dc,dm,.box [cJ,num 5,num 0,num 0],dc,dm,.box [cJ,num 5,num 0,num 0],dc,dm,.box [cJ,num 5,num 0,num 0],dc,dm,.box [cJ,num 5,num 0,num 0],dc,dm]
abbrev Ys:List bf:=[dc,.box [cJ,num 0,num 0,num 0],.box [cJ,num 0,num 0,num 0],dc,dm,.box [cJ,num 0,num 0,num 0],dc,dm,.box [cJ,num 0,num 0,num 0],dc,dm,.box [cJ,num 0,num 0,num 0],dc,dm,.box [cJ,num 0,num 0,num 0],dc,dm,.box [cJ,num 0,num 0,num 0],dc,dm,.box [cJ,num 0,num 0,num 0],dc,dm,.box [cJ,num 0,num 0,num 0],dc,dm,.box [cJ,num 0,num 0,num 0],dc,dm,.box [cJ,num 0,num 0,num 0],dc,dm,.box [cJ,num 0,num 0,num 0],dc,dm]
abbrev Tq:V:=.slice [.agg [num 3,str ⟨#[]⟩,str ⟨#[97]⟩,str ⟨#[]⟩,num 0,.slice [],.slice [],.slice []],.agg [num 3,str ⟨#[]⟩,str ⟨#[98]⟩,str ⟨#[]⟩,num 0,.slice [],.slice [],.slice []]]
abbrev Yt:List bf:=[dc,.box [cJ,num 0,num 0,num 0],.box [cJ,num 0,num 0,num 0],dc,dm,.box [cJ,num 0,num 0,num 0],dc,dm,.box [cJ,num 0,num 0,num 0],dc,dm,.box [cJ,num 0,num 0,num 0],dc,dm,.box [cJ,num 0,num 0,num 0],dc,dm,.box [cJ,num 9,num 0,num 0],dc,dm,.box [num 16,str ⟨#[]⟩,str ⟨#[45]⟩,str ⟨#[]⟩,num 0,.sc (.slice none 0 0),.sc (.slice none 0 0),Tq],Yq,.box [cJ,num 10,num 0,num 0],dc,dm,.box [cJ,num 10,num 0,num 0],dc,dm,.box [cJ,num 10,num 0,num 0],dc,dm,.box [cJ,num 10,num 0,num 0],dc,dm,.box [cJ,num 10,num 0,num 0],dc,dm]
abbrev Yu:V:=.slice [.agg [num 3,str ⟨#[]⟩,str ⟨#[99]⟩,str ⟨#[]⟩,num 0,.slice [],.slice [],.slice []],.agg [num 0,str ⟨#[]⟩,str ⟨#[]⟩,str ⟨#[]⟩,num 1,.slice [],.slice [],.slice []]]
abbrev Tr:List bf:=[dc,.box [cJ,num 0,num 0,num 0]]
abbrev Ts:V:=.slice [.agg [num 16,str ⟨#[]⟩,str ⟨#[45]⟩,str ⟨#[]⟩,num 0,.slice [],.slice [],Tq],.agg [num 16,str ⟨#[]⟩,str ⟨#[45]⟩,str ⟨#[]⟩,num 0,.slice [],.slice [],Yu]]
abbrev Tt:V:=.agg [num 16,str ⟨#[]⟩,str ⟨#[45]⟩,str ⟨#[]⟩,num 0,.slice [],.slice [],Ts]
theorem amM (hG:ba.g=some 0):jh aj 63 [.agg [cJ,num 2,num 0,num 0]] Yp (fun r m=>(r,m)∈([(.dR [.agg [num 3,str ⟨#[]⟩,str ⟨#[97]⟩,str ⟨#[]⟩,num 0,.sc (.slice none 0 0),.sc (.slice none 0 0),.sc (.slice none 0 0)],.agg [cJ,num 3,num 0,num 0]],Yp)]:List (V×List bf))):=r8 bz ny (cj hG) 3000 kr
theorem amN (hG:ba.g=some 0):jh aj 63 [.agg [cJ,num 6,num 0,num 0]] Yr (fun r m=>(r,m)∈([(.dR [.agg [num 3,str ⟨#[]⟩,str ⟨#[98]⟩,str ⟨#[]⟩,num 0,.sc (.slice none 0 0),.sc (.slice none 0 0),.sc (.slice none 0 0)],.agg [cJ,num 7,num 0,num 0]],Yr)]:List (V×List bf))):=r8 bz ny (cj hG) 3000 kr
theorem amO (hG:ba.g=some 0):jh aj 63 [.agg [cJ,num 1,num 0,num 0]] Ys (fun r m=>(r,m)∈([(.dR [.agg [num 16,str ⟨#[]⟩,str ⟨#[45]⟩,str ⟨#[]⟩,num 0,.sc (.slice none 0 0),.sc (.slice none 0 0),Tq],.agg [cJ,num 8,num 0,num 0]],Ys)]:List (V×List bf))):=r8 bz (nN (amM hG) (nN (amN hG) ny)) (cj hG) 3000 kr
theorem amP (hG:ba.g=some 0):jh aj 63 [.agg [cJ,num 11,num 0,num 0]] Yt (fun r m=>(r,m)∈([(.dR [.agg [num 16,str ⟨#[]⟩,str ⟨#[45]⟩,str ⟨#[]⟩,num 0,.sc (.slice none 0 0),.sc (.slice none 0 0),Yu],.agg [cJ,num 14,num 0,num 0]],Yt)]:List (V×List bf))):=r8 bz ny (cj hG) 3000 kr
theorem amQ (hG:ba.g=some 0):jh aj 63 [.agg [cJ,num 0,num 0,num 0]] Tr (fun r m=>(r,m)∈([(.dR [.agg [num 16,str ⟨#[]⟩,str ⟨#[45]⟩,str ⟨#[]⟩,num 0,.sc (.slice none 0 0),.sc (.slice none 0 0),Ts],.agg [cJ,num 15,num 0,num 0]],Tr)]:List (V×List bf))):=r8 bz (nN (amO hG) (nN (amP hG) ny)) (cj hG) 3000 kr
theorem amR (hG:ba.g=some 0):bJ aj 29 [Tt] (num 0):=cx bz (cj hG) 3000 kr
theorem amS (hG:ba.g=some 0):bJ aj 19 [str ⟨#[40,40,97,41,32,45,32,40,98,41,41,32,45,32,40,99,32,45,32,49,41]⟩] (.dR [Tt,num 0,num 0]):=Qi (iU (amL hG) (iU (amR hG) bz)) (nN (amQ hG) ny) (cj hG) 3000 kr
def eB:ByteArray:=⟨#[109,111,100,117,108,101,32,109,47,118,49,32,116,121,112,101,32,78,32,60,58,32,97,110,121,32,61,32,105,110,116]⟩
def dV (k:Nat):Nat:=([0,7,8,9,12,17,19,22,26,28,31]:List Nat).getD k 0
def gL (k:Nat):Nat:=([6,1,1,2,4,1,2,3,1,3]:List Nat).getD k 0
def y1 (k:Nat):Int:=([5,1,6,1,5,2,6,5,6,5]:List Int).getD k 0
def y2 (k:Nat):ByteArray:=([⟨#[109,111,100,117,108,101]⟩,⟨#[109]⟩,⟨#[47]⟩,⟨#[118,49]⟩,⟨#[116,121,112,101]⟩,⟨#[78]⟩,⟨#[60,58]⟩,⟨#[97,110,121]⟩,⟨#[61]⟩,⟨#[105,110,116]⟩]:List ByteArray).getD k ⟨#[]⟩
theorem amT (hG:ba.g=some 0):bJ aj 73 [str eB,num 0] (num 0):=(cx bz (cj hG) 2000 kr:bJ aj 73 [str ⟨#[109,111,100,117,108,101,32,109,47,118,49,32,116,121,112,101,32,78,32,60,58,32,97,110,121,32,61,32,105,110,116]⟩,num 0] (num 0))
theorem ahQ (hG:ba.g=some 0):bJ aj 74 [str ⟨#[109,111,100,117,108,101,32,109,47,118,49,32,116,121,112,101,32,78,32,60,58,32,97,110,121,32,61,32,105,110,116]⟩] (.dR [.agg [num 5,str ⟨#[109,111,100,117,108,101]⟩,num 0],num 6,num 0]):=cx bz (cj hG) 2000 kr
theorem ahR (hG:ba.g=some 0):bJ aj 73 [str ⟨#[109,111,100,117,108,101,32,109,47,118,49,32,116,121,112,101,32,78,32,60,58,32,97,110,121,32,61,32,105,110,116]⟩,num 6] (num 1):=cx bz (cj hG) 2000 kr
theorem ahS (hG:ba.g=some 0):dV 0<eB.size∧dV 0+gL 0≤1048576∧bJ aj 74 [str (eB.extract (dV 0) eB.size)] (.dR [.agg [num (y1 0),str (y2 0),num 0],num (gL 0),num 0]):=⟨of_decide_eq_true kr,of_decide_eq_true kr,by rw [show eB.extract (dV 0) eB.size=⟨#[109,111,100,117,108,101,32,109,47,118,49,32,116,121,112,101,32,78,32,60,58,32,97,110,121,32,61,32,105,110,116]⟩ from kr];exact ahQ hG⟩
theorem ahT (hG:ba.g=some 0):∃ d:Nat,dV (0+1)=dV 0+gL 0+d∧d≤65536∧bJ aj 73 [str eB,num ((dV 0+gL 0:Nat):Int)] (num d):=⟨1,kr,by decide,ahR hG⟩
theorem ahU (hG:ba.g=some 0):bJ aj 74 [str ⟨#[109,47,118,49,32,116,121,112,101,32,78,32,60,58,32,97,110,121,32,61,32,105,110,116]⟩] (.dR [.agg [num 1,str ⟨#[109]⟩,num 0],num 1,num 0]):=cx bz (cj hG) 2000 kr
theorem ahV (hG:ba.g=some 0):bJ aj 73 [str ⟨#[109,111,100,117,108,101,32,109,47,118,49,32,116,121,112,101,32,78,32,60,58,32,97,110,121,32,61,32,105,110,116]⟩,num 8] (num 0):=cx bz (cj hG) 2000 kr
theorem ahW (hG:ba.g=some 0):dV 1<eB.size∧dV 1+gL 1≤1048576∧bJ aj 74 [str (eB.extract (dV 1) eB.size)] (.dR [.agg [num (y1 1),str (y2 1),num 0],num (gL 1),num 0]):=⟨of_decide_eq_true kr,of_decide_eq_true kr,by rw [show eB.extract (dV 1) eB.size=⟨#[109,47,118,49,32,116,121,112,101,32,78,32,60,58,32,97,110,121,32,61,32,105,110,116]⟩ from kr];exact ahU hG⟩
theorem ahX (hG:ba.g=some 0):∃ d:Nat,dV (1+1)=dV 1+gL 1+d∧d≤65536∧bJ aj 73 [str eB,num ((dV 1+gL 1:Nat):Int)] (num d):=⟨0,kr,by decide,ahV hG⟩
theorem ahY (hG:ba.g=some 0):bJ aj 74 [str ⟨#[47,118,49,32,116,121,112,101,32,78,32,60,58,32,97,110,121,32,61,32,105,110,116]⟩] (.dR [.agg [num 6,str ⟨#[47]⟩,num 0],num 1,num 0]):=cx bz (cj hG) 2000 kr
theorem ahZ (hG:ba.g=some 0):bJ aj 73 [str ⟨#[109,111,100,117,108,101,32,109,47,118,49,32,116,121,112,101,32,78,32,60,58,32,97,110,121,32,61,32,105,110,116]⟩,num 9] (num 0):=cx bz (cj hG) 2000 kr
theorem ah0 (hG:ba.g=some 0):dV 2<eB.size∧dV 2+gL 2≤1048576∧bJ aj 74 [str (eB.extract (dV 2) eB.size)] (.dR [.agg [num (y1 2),str (y2 2),num 0],num (gL 2),num 0]):=⟨of_decide_eq_true kr,of_decide_eq_true kr,by rw [show eB.extract (dV 2) eB.size=⟨#[47,118,49,32,116,121,112,101,32,78,32,60,58,32,97,110,121,32,61,32,105,110,116]⟩ from kr];exact ahY hG⟩
theorem ah1 (hG:ba.g=some 0):∃ d:Nat,dV (2+1)=dV 2+gL 2+d∧d≤65536∧bJ aj 73 [str eB,num ((dV 2+gL 2:Nat):Int)] (num d):=⟨0,kr,by decide,ahZ hG⟩
theorem ah2 (hG:ba.g=some 0):bJ aj 74 [str ⟨#[118,49,32,116,121,112,101,32,78,32,60,58,32,97,110,121,32,61,32,105,110,116]⟩] (.dR [.agg [num 1,str ⟨#[118,49]⟩,num 0],num 2,num 0]):=cx bz (cj hG) 2000 kr
theorem ah3 (hG:ba.g=some 0):bJ aj 73 [str ⟨#[109,111,100,117,108,101,32,109,47,118,49,32,116,121,112,101,32,78,32,60,58,32,97,110,121,32,61,32,105,110,116]⟩,num 11] (num 1):=cx bz (cj hG) 2000 kr
theorem ah4 (hG:ba.g=some 0):dV 3<eB.size∧dV 3+gL 3≤1048576∧bJ aj 74 [str (eB.extract (dV 3) eB.size)] (.dR [.agg [num (y1 3),str (y2 3),num 0],num (gL 3),num 0]):=⟨of_decide_eq_true kr,of_decide_eq_true kr,by rw [show eB.extract (dV 3) eB.size=⟨#[118,49,32,116,121,112,101,32,78,32,60,58,32,97,110,121,32,61,32,105,110,116]⟩ from kr];exact ah2 hG⟩
theorem ah5 (hG:ba.g=some 0):∃ d:Nat,dV (3+1)=dV 3+gL 3+d∧d≤65536∧bJ aj 73 [str eB,num ((dV 3+gL 3:Nat):Int)] (num d):=⟨1,kr,by decide,ah3 hG⟩
theorem ah6 (hG:ba.g=some 0):bJ aj 74 [str ⟨#[116,121,112,101,32,78,32,60,58,32,97,110,121,32,61,32,105,110,116]⟩] (.dR [.agg [num 5,str ⟨#[116,121,112,101]⟩,num 0],num 4,num 0]):=cx bz (cj hG) 2000 kr
theorem ah7 (hG:ba.g=some 0):bJ aj 73 [str ⟨#[109,111,100,117,108,101,32,109,47,118,49,32,116,121,112,101,32,78,32,60,58,32,97,110,121,32,61,32,105,110,116]⟩,num 16] (num 1):=cx bz (cj hG) 2000 kr
theorem ah8 (hG:ba.g=some 0):dV 4<eB.size∧dV 4+gL 4≤1048576∧bJ aj 74 [str (eB.extract (dV 4) eB.size)] (.dR [.agg [num (y1 4),str (y2 4),num 0],num (gL 4),num 0]):=⟨of_decide_eq_true kr,of_decide_eq_true kr,by rw [show eB.extract (dV 4) eB.size=⟨#[116,121,112,101,32,78,32,60,58,32,97,110,121,32,61,32,105,110,116]⟩ from kr];exact ah6 hG⟩
theorem ah9 (hG:ba.g=some 0):∃ d:Nat,dV (4+1)=dV 4+gL 4+d∧d≤65536∧bJ aj 73 [str eB,num ((dV 4+gL 4:Nat):Int)] (num d):=⟨1,kr,by decide,ah7 hG⟩
theorem aia (hG:ba.g=some 0):bJ aj 74 [str ⟨#[78,32,60,58,32,97,110,121,32,61,32,105,110,116]⟩] (.dR [.agg [num 2,str ⟨#[78]⟩,num 0],num 1,num 0]):=cx bz (cj hG) 2000 kr
theorem aib (hG:ba.g=some 0):bJ aj 73 [str ⟨#[109,111,100,117,108,101,32,109,47,118,49,32,116,121,112,101,32,78,32,60,58,32,97,110,121,32,61,32,105,110,116]⟩,num 18] (num 1):=cx bz (cj hG) 2000 kr
theorem aic (hG:ba.g=some 0):dV 5<eB.size∧dV 5+gL 5≤1048576∧bJ aj 74 [str (eB.extract (dV 5) eB.size)] (.dR [.agg [num (y1 5),str (y2 5),num 0],num (gL 5),num 0]):=⟨of_decide_eq_true kr,of_decide_eq_true kr,by rw [show eB.extract (dV 5) eB.size=⟨#[78,32,60,58,32,97,110,121,32,61,32,105,110,116]⟩ from kr];exact aia hG⟩
theorem aid (hG:ba.g=some 0):∃ d:Nat,dV (5+1)=dV 5+gL 5+d∧d≤65536∧bJ aj 73 [str eB,num ((dV 5+gL 5:Nat):Int)] (num d):=⟨1,kr,by decide,aib hG⟩
theorem aie (hG:ba.g=some 0):bJ aj 74 [str ⟨#[60,58,32,97,110,121,32,61,32,105,110,116]⟩] (.dR [.agg [num 6,str ⟨#[60,58]⟩,num 0],num 2,num 0]):=cx bz (cj hG) 2000 kr
theorem aif (hG:ba.g=some 0):bJ aj 73 [str ⟨#[109,111,100,117,108,101,32,109,47,118,49,32,116,121,112,101,32,78,32,60,58,32,97,110,121,32,61,32,105,110,116]⟩,num 21] (num 1):=cx bz (cj hG) 2000 kr
theorem aih (hG:ba.g=some 0):dV 6<eB.size∧dV 6+gL 6≤1048576∧bJ aj 74 [str (eB.extract (dV 6) eB.size)] (.dR [.agg [num (y1 6),str (y2 6),num 0],num (gL 6),num 0]):=⟨of_decide_eq_true kr,of_decide_eq_true kr,by rw [show eB.extract (dV 6) eB.size=⟨#[60,58,32,97,110,121,32,61,32,105,110,116]⟩ from kr];exact aie hG⟩
theorem aii (hG:ba.g=some 0):∃ d:Nat,dV (6+1)=dV 6+gL 6+d∧d≤65536∧bJ aj 73 [str eB,num ((dV 6+gL 6:Nat):Int)] (num d):=⟨1,kr,by decide,aif hG⟩
theorem aij (hG:ba.g=some 0):bJ aj 74 [str ⟨#[97,110,121,32,61,32,105,110,116]⟩] (.dR [.agg [num 5,str ⟨#[97,110,121]⟩,num 0],num 3,num 0]):=cx bz (cj hG) 2000 kr
theorem aik (hG:ba.g=some 0):bJ aj 73 [str ⟨#[109,111,100,117,108,101,32,109,47,118,49,32,116,121,112,101,32,78,32,60,58,32,97,110,121,32,61,32,105,110,116]⟩,num 25] (num 1):=cx bz (cj hG) 2000 kr
theorem ail (hG:ba.g=some 0):dV 7<eB.size∧dV 7+gL 7≤1048576∧bJ aj 74 [str (eB.extract (dV 7) eB.size)] (.dR [.agg [num (y1 7),str (y2 7),num 0],num (gL 7),num 0]):=⟨of_decide_eq_true kr,of_decide_eq_true kr,by rw [show eB.extract (dV 7) eB.size=⟨#[97,110,121,32,61,32,105,110,116]⟩ from kr];exact aij hG⟩
theorem aim (hG:ba.g=some 0):∃ d:Nat,dV (7+1)=dV 7+gL 7+d∧d≤65536∧bJ aj 73 [str eB,num ((dV 7+gL 7:Nat):Int)] (num d):=⟨1,kr,by decide,aik hG⟩
theorem ain (hG:ba.g=some 0):bJ aj 74 [str ⟨#[61,32,105,110,116]⟩] (.dR [.agg [num 6,str ⟨#[61]⟩,num 0],num 1,num 0]):=cx bz (cj hG) 2000 kr
theorem aio (hG:ba.g=some 0):bJ aj 73 [str ⟨#[109,111,100,117,108,101,32,109,47,118,49,32,116,121,112,101,32,78,32,60,58,32,97,110,121,32,61,32,105,110,116]⟩,num 27] (num 1):=cx bz (cj hG) 2000 kr
theorem aip (hG:ba.g=some 0):dV 8<eB.size∧dV 8+gL 8≤1048576∧bJ aj 74 [str (eB.extract (dV 8) eB.size)] (.dR [.agg [num (y1 8),str (y2 8),num 0],num (gL 8),num 0]):=⟨of_decide_eq_true kr,of_decide_eq_true kr,by rw [show eB.extract (dV 8) eB.size=⟨#[61,32,105,110,116]⟩ from kr];exact ain hG⟩
theorem aiq (hG:ba.g=some 0):∃ d:Nat,dV (8+1)=dV 8+gL 8+d∧d≤65536∧bJ aj 73 [str eB,num ((dV 8+gL 8:Nat):Int)] (num d):=⟨1,kr,by decide,aio hG⟩
theorem air (hG:ba.g=some 0):bJ aj 74 [str ⟨#[105,110,116]⟩] (.dR [.agg [num 5,str ⟨#[105,110,116]⟩,num 0],num 3,num 0]):=cx bz (cj hG) 2000 kr
theorem ais (hG:ba.g=some 0):bJ aj 73 [str ⟨#[109,111,100,117,108,101,32,109,47,118,49,32,116,121,112,101,32,78,32,60,58,32,97,110,121,32,61,32,105,110,116]⟩,num 31] (num 0):=cx bz (cj hG) 2000 kr
theorem ait (hG:ba.g=some 0):dV 9<eB.size∧dV 9+gL 9≤1048576∧bJ aj 74 [str (eB.extract (dV 9) eB.size)] (.dR [.agg [num (y1 9),str (y2 9),num 0],num (gL 9),num 0]):=⟨of_decide_eq_true kr,of_decide_eq_true kr,by rw [show eB.extract (dV 9) eB.size=⟨#[105,110,116]⟩ from kr];exact air hG⟩
theorem aiu (hG:ba.g=some 0):∃ d:Nat,dV (9+1)=dV 9+gL 9+d∧d≤65536∧bJ aj 73 [str eB,num ((dV 9+gL 9:Nat):Int)] (num d):=⟨0,kr,by decide,ais hG⟩
theorem Tu (hG:ba.g=some 0):∀ k<10,(dV k<eB.size∧dV k+gL k≤1048576∧bJ aj 74 [str (eB.extract (dV k) eB.size)] (.dR [.agg [num (y1 k),str (y2 k),num 0],num (gL k),num 0]))∧∃ d:Nat,dV (k+1)=dV k+gL k+d∧d≤65536∧bJ aj 73 [str eB,num ((dV k+gL k:Nat):Int)] (num d)
 | 0,_=>⟨ahS hG,ahT hG⟩
 | 1,_=>⟨ahW hG,ahX hG⟩
 | 2,_=>⟨ah0 hG,ah1 hG⟩
 | 3,_=>⟨ah4 hG,ah5 hG⟩
 | 4,_=>⟨ah8 hG,ah9 hG⟩
 | 5,_=>⟨aic hG,aid hG⟩
 | 6,_=>⟨aih hG,aii hG⟩
 | 7,_=>⟨ail hG,aim hG⟩
 | 8,_=>⟨aip hG,aiq hG⟩
 | 9,_=>⟨ait hG,aiu hG⟩
 | k+10,h=>absurd h (by omega)
theorem aiv (hG:ba.g=some 0):bJ aj 25 [str ⟨#[109,111,100,117,108,101,32,109,47,118,49,32,116,121,112,101,32,78,32,60,58,32,97,110,121,32,61,32,105,110,116]⟩] (.dR [.slice [.agg [num 5,str ⟨#[109,111,100,117,108,101]⟩,num 0],.agg [num 1,str ⟨#[109]⟩,num 7],.agg [num 6,str ⟨#[47]⟩,num 8],.agg [num 1,str ⟨#[118,49]⟩,num 9],.agg [num 5,str ⟨#[116,121,112,101]⟩,num 12],.agg [num 2,str ⟨#[78]⟩,num 17],.agg [num 6,str ⟨#[60,58]⟩,num 19],.agg [num 5,str ⟨#[97,110,121]⟩,num 22],.agg [num 6,str ⟨#[61]⟩,num 26],.agg [num 5,str ⟨#[105,110,116]⟩,num 28],.agg [num 0,str ⟨#[]⟩,num 31]],num 0,num 0]):=by obtain⟨_,rfl,h⟩:=Mo eB (by decide) 10 dV gL y1 y2 (amT hG) (fun k hk=>(Tu hG k hk).1) (fun k hk=>(Tu hG k hk).2) (by decide) kr;exact h
theorem amU (hG:ba.g=some 0):bJ aj 21 [str ⟨#[109,111,100,117,108,101,32,109,47,118,49,32,116,121,112,101,32,78,32,60,58,32,97,110,121,32,61,32,105,110,116]⟩] (.dR [.agg [str ⟨#[109,47,118,49]⟩,.slice [],.slice [.agg [num 0,str ⟨#[78]⟩,bl false,bl false,str ⟨#[]⟩,.slice [],num 1,str ⟨#[]⟩,str ⟨#[]⟩,.slice [],.slice [],num 0,str ⟨#[]⟩,str ⟨#[]⟩,.slice [],.slice [],num 2,str ⟨#[]⟩,str ⟨#[]⟩,.slice [],.slice [],num 0,str ⟨#[]⟩,str ⟨#[]⟩,str ⟨#[]⟩,num 0,.slice [],.slice [],.slice [],str ⟨#[]⟩,str ⟨#[]⟩]]],num 0,num 0]):=cx (iU (aiv hG) bz) (cj hG) 2000 kr
section
def Ue (v:Int):ByteArray:=if v=0 then ⟨#[43]⟩ else if v=1 then ⟨#[45]⟩ else ⟨#[61]⟩
theorem acN (v:Int):bt (Ue v)=vrS v:=by unfold Ue vrS;(repeat' split) <;> rfl
theorem Ww (v:Int):0<(Ue v).size:=by unfold Ue;(repeat' split) <;> decide
def arV:V:=.agg [str ⟨#[43]⟩,str ⟨#[45]⟩,str ⟨#[61]⟩]
theorem bV:xb aj 219 [(0,.string ⟨#[43]⟩),(1,.string ⟨#[45]⟩),(2,.string ⟨#[61]⟩)]=some arV:=kr
theorem iV (k:Int) (h0:0≤k) (h4:k≤2):dE aj (Instr.index 219) arV (num k)=some (str (Ue k)):=by
 have:k=0∨k=1∨k=2:=by omega
 have e0:dE aj (Instr.index 219) arV (num 0)=some (str (Ue 0)):=kr;have e1:dE aj (Instr.index 219) arV (num 1)=some (str (Ue 1)):=kr;have e2:dE aj (Instr.index 219) arV (num 2)=some (str (Ue 2)):=kr;rcases this with h|h|h <;> rw [h] <;> assumption
structure PmK (kind:Int) (p:Pm):Prop where
 nm:0<p.name.size
 v:kind=0→0≤p.eh∧p.eh≤2
 b:¬ kind=0→¬ p.bound.kind=0→WT p.bound
noncomputable def yH (d:Dc):Bool:=nW d.lower d.upper&&nW d.upper d.type
section
attribute [local go_sem] ax aq bM eu aD aQ bD aw aC
theorem Ox (kind:Int) (l:List Pm) (i:Nat) (x:Pm) (hx:l[i]?=some x) (hl:l.length≤1048576) (hp:PmK kind x) (v:Nat) (O:List UInt8) (hO:O.length+(Nz kind x).length≤34359738368):∃ r_ m_,(WR O (Nz kind x) [.box [.ptr 0 0],.box [.slice (l.map eu)],.box [num kind]]) r_ m_∧bo aj 213 [num i,.ptr 4 0,.ptr 2 0,.ptr 3 0] (bM 129 v O [.box [.ptr 0 0],.box [.slice (l.map eu)],.box [num kind]]) r_ m_:=by
 refine uJ tt_ok [] 47 [] (5) (ay _) (fn:=Tryz.f213) Tryz.func213 rfl Tryz.call213 ⟨rfl,rfl,by simp⟩ fun K hK=>?_;simp only [bM];have bQ:=(aA.1 hx).1;have dO:(i:Int)<(l.length:Int):=by omega
 simp only [hx,dO,go_sem];refine cC (fun VU=>?_) (fun VU=>?_);·(have hk:kind=0:=by simpa using VU);(have oW:Nz kind x=bt (Ue x.eh)++bt x.name:=by unfold Nz;rw [if_pos hk,acN]);have fJ:=hO;rw [oW] at fJ;simp only [ab,ag,ah,aK,ae,af,ai] at fJ;have oz:=iV x.eh (hp.v hk).1 (hp.v hk).2;simp only [bV,oz,hx,dO,go_sem];refine ga tt_ok cB [pR,pN,pR,pN,jC [2,3],ql [2,3,4],jC [2,3,4,5],ql [1,2,3,4,5,6],pR,pN,jC [8,9],ql [8,9,10],jC [8,9,10,11],ql [1,2,3,4,5,6,7,8,9,10,11,12],⟨.z,0,[],[0,1,2,3,4,5,6,7,8,9,10,11,12,13],[]⟩] 0 kr ?_;simp only [bV,oz,hx,dO,go_sem];refine xq (tm (nP [(Ue x.eh),x.name] (by simp) (iE (Ww _) (iE hp.nm lh)) _ _ (by simp only [ab,ag,ah,aK,ae,af,ai];omega)) rfl _) ?_;rintro _ _ ⟨rfl,O1,v1,ke,rfl⟩;have nn:=congrArg List.length ke;simp only [ab,ag,ah,aK,ae,af,ai] at nn;simp only [bV,oz,hx,dO,go_sem];exact hK _ _ ⟨rfl,_,_,by rw [oW];simp only [*,ab,ag,ah,aK,al,aw,aC],rfl⟩
 have hk:¬ kind=0:=by simpa using VU
 have fJ:O.length+(bt x.name).length≤34359738368:=by revert hO;unfold Nz;rw [if_neg hk];intro hO;simp only [ab,ag,ah,aK,ae,af,ai] at hO;omega
 simp only [hx,dO,go_sem];refine ga tt_ok cB [pR,pR,pN,jC [1,2],ql [1,2,3],jC [1,2,3,4],ql [1,2,3,4,5],⟨.z,0,[],[0,1,2,3,4,5,6],[]⟩] 0 kr ?_;simp only [hx,dO,go_sem];refine xq (tm (nP [x.name] (by simp) (iE hp.nm lh) _ _ (by simp only [ab,ag,ah,aK,ae,af,ai];omega)) rfl _) ?_;rintro _ _ ⟨rfl,O2,v2,sH,rfl⟩;have zJ:=congrArg List.length sH;simp only [ab,ag,ah,aK,ae,af,ai] at zJ;simp only [hx,dO,go_sem];refine cC (fun re=>?_) (fun re=>?_);·(have fg:¬ x.bound.kind=0:=by simpa using re);(have oW:Nz kind x=bt x.name++([32,60,58,32]++x.bound.pr):=by unfold Nz;rw [if_neg hk,if_neg fg]);have MG:=hO;rw [oW] at MG;simp only [ab,ag,ah,aK,ae,af,ai] at MG;have hWb:=hp.b hk fg;simp only [hx,dO,go_sem];refine cW (ld (cy [⟨#[32,60,58,32]⟩] (by simp) (iE (by decide) lh) _ _ (by simp only [ab,ag,ah,aK,ae,af,ai];omega)) _ 3 rfl rfl (fun _=>rfl) rfl) ?_;rintro _ _ ⟨rfl,O3,v3,tp,rfl⟩;have B4:=congrArg List.length tp;simp only [ab,ag,ah,aK,ae,af,ai] at B4;simp only [hx,dO,go_sem];refine ga tt_ok cB [pR,pR,pN,jC [1,2],ql [1,2,3],jC [1,2,3,4],⟨.z,0,[],[0,1,2,3,4,5],[]⟩] 0 kr ?_;simp only [hx,dO,go_sem];refine xq (Hv (hWb) (by omega) _) ?_;rintro _ _ ⟨rfl,O4,v4,Ct,rfl⟩;have Fq:=congrArg List.length Ct;simp only [ab,ag,ah,aK,ae,af,ai] at Fq;simp only [hx,dO,go_sem];exact hK _ _ ⟨rfl,_,_,by rw [oW];simp only [*,ab,ag,ah,aK,al,aw,aC],rfl⟩
 have fg:x.bound.kind=0:=by simpa using re
 have oW:Nz kind x=bt x.name:=by unfold Nz;rw [if_neg hk,if_pos fg,ah]
 simp only [hx,dO,go_sem];exact hK _ _ ⟨rfl,_,_,by rw [oW];simp only [*,ab,ag,ah,aK,al,aw,aC],rfl⟩
end
theorem aix {kind:Int} {l:List Pm} (hl:l.length≤1048576) (hp:∀ p∈l,PmK kind p):∀ (i:Nat) (x:List UInt8),(l.map (Nz kind))[i]?=some x→∀ v O,O.length+x.length≤34359738368→∃ r m,WR O x [.box [.ptr 0 0],.box [.slice (l.map eu)],.box [num kind]] r m∧bo aj 213 (num i :: [.ptr 4 0,.ptr 2 0,.ptr 3 0]) (bM 129 v O [.box [.ptr 0 0],.box [.slice (l.map eu)],.box [num kind]]) r m:=by intro i x hx v O hO;rw [aq,aY] at hx;obtain⟨f,hf,rfl⟩:=hx;exact Ox kind l i f hf hl (hp f (aE hf)) v O hO
section
attribute [local go_sem] ax bM
theorem BR (kind:Int) (l:List Pm) (hl:l.length≤1048576) (hp:∀ p∈l,PmK kind p) (v:Nat) (O:List UInt8) (hO:O.length+(Cs kind l).length≤34359738368):∃ r_ m_,(WR O (Cs kind l) []) r_ m_∧bo aj 136 [.ptr 0 0,.slice (l.map eu),num kind] (bM 129 v O []) r_ m_:=by
 refine uJ tt_ok [] 20 [] (2) (ay _) (fn:=Tryz.f136) Tryz.func136 rfl Tryz.call136 ⟨rfl,rfl,by simp⟩ fun K hK=>?_;simp only [bM];simp only [go_sem];refine cC (fun hc8=>?_) (fun hc8=>?_)
 ·have BU:l=[]:=auy (by have h0:=of_decide_eq_true hc8;omega);have oW:Cs kind l=[]:=by unfold Cs;rw [if_pos BU]
  simp only [go_sem]
  first
   | (have h_:=tp;exact hK _ _ ⟨rfl,_,_,by rw [oW,tp,sH,ke];simp only [cP,ab,ag,ah,aK,al],rfl⟩)
   | exact hK _ _ ⟨rfl,O,v,by rw [oW,ah],rfl⟩
 have BU:¬ l=[]:=fun e=>(of_decide_eq_false hc8) (by rw [e];rfl);have oW:Cs kind l=[91]++(jn [44,32] (l.map (Nz kind))++[93]):=by unfold Cs;rw [if_neg BU,al]
 have fJ:=hO;rw [oW] at fJ;simp only [ab,ag,ah,aK,ae,af,ai] at fJ;simp only [go_sem];refine cW (ld (cy [⟨#[91]⟩] (by simp) (iE (by decide) lh) _ _ (by simp only [ab,ag,ah,aK,ae,af,ai];omega)) _ 3 rfl rfl (fun _=>rfl) rfl) ?_;rintro _ _ ⟨rfl,O1,v1,ke,rfl⟩;have nn:=congrArg List.length ke;simp only [ab,ag,ah,aK,ae,af,ai] at nn;simp only [go_sem];refine cW (wf3 (xD 213 [.ptr 4 0,.ptr 2 0,.ptr 3 0] (l.map (Nz kind)) _ (by simp) hl ⟨#[44,32]⟩ (by decide) [.ptr 0 0] [.slice (l.map eu)] (fun _=>[num kind]) rfl rfl rfl (fun _=>rfl) (aix hl hp) _ _ (by rw [aK];omega)) rfl rfl rfl _) ?_;rintro _ _ ⟨rfl,O2,v2,sH,rfl⟩;have zJ:=congrArg List.length sH;simp only [ab,ag,ah,aK,ae,af,ai] at zJ;simp only [go_sem];refine cW (ld (cy [⟨#[93]⟩] (by simp) (iE (by decide) lh) _ _ (by simp only [ab,ag,ah,aK,ae,af,ai];omega)) _ 4 rfl rfl (fun _=>rfl) rfl) ?_;rintro _ _ ⟨rfl,O3,v3,tp,rfl⟩;have B4:=congrArg List.length tp;simp only [ab,ag,ah,aK,ae,af,ai] at B4;simp only [go_sem]
 first
  | (have h_:=tp;exact hK _ _ ⟨rfl,_,_,by rw [oW,tp,sH,ke];simp only [cP,ab,ag,ah,aK,al],rfl⟩)
  | exact hK _ _ ⟨rfl,O,v,by rw [oW,ah],rfl⟩
end
end
section
structure DcK (d:Dc):Prop where
 k:d.kind=0∨d.kind=1∨d.kind=2
 nm:0<d.name.size
 pl:d.params.length≤1048576
 pk:∀ p∈d.params,PmK d.kind p
 wl:d.kind=0→WT d.lower∧WT d.upper
 wt:d.kind=0∨d.kind=1→WT d.type
 wx:d.kind=1→WX d.expr
 md:d.kind=2→0<d.mod.size∧0<d.target.size
 nt:d.note.size≤1048576
 zl:d.lower.size≤1048576
 zu:d.upper.size≤1048576
theorem Yv {t u:Ty} (h:t.size≤1048576):Cn 214 [.agg [num t.kind,str t.mod,str t.name,.slice (t.args.map bk),.slice (t.bA.map dj)],.agg [num u.kind,str u.mod,str u.name,.slice (u.args.map bk),.slice (u.bA.map dj)]] (bl (nW t u)):=by have h:=Bc _ t u (ay _) h;simp only [aT,aD,aQ,bD] at h;exact⟨_,rfl,h⟩
section
attribute [local go_sem] ax bM
theorem Kv (d:Dc) (hz:d.lower.size≤1048576) (hz2:d.upper.size≤1048576) (hL:WT d.lower) (hU:WT d.upper) (v:Nat) (O:List UInt8) (hO:O.length+(bdS (yH d) d).length≤34359738368):∃ r_ m_,(WR O (bdS (yH d) d) []) r_ m_∧bo aj 137 [.ptr 0 0,.agg [num d.kind,str d.name,bl d.exported,bl d.deprecated,str d.note,.slice (d.params.map eu),num d.lower.kind,str d.lower.mod,str d.lower.name,.slice (d.lower.args.map bk),.slice (d.lower.bA.map dj),num d.upper.kind,str d.upper.mod,str d.upper.name,.slice (d.upper.args.map bk),.slice (d.upper.bA.map dj),num d.type.kind,str d.type.mod,str d.type.name,.slice (d.type.args.map bk),.slice (d.type.bA.map dj),num d.expr.kind,str d.expr.mod,str d.expr.name,str d.expr.text,num d.expr.num,.slice (d.expr.types.map bk),.slice (d.expr.labels.map cq),.slice (d.expr.kids.map br),str d.mod,str d.target]] (bM 129 v O []) r_ m_:=by
 refine uJ tt_ok [30000] 44 [] (2) (ay _) (fn:=Tryz.f137) Tryz.func137 rfl Tryz.call137 ⟨rfl,rfl,by simp⟩ fun K hK=>?_;simp only [bM];obtain⟨q1,pZ⟩:∃ q,(if d.lower.kind=1 then ([]:List UInt8) else [32,62,58,32]++d.lower.pr)=q:=⟨_,rfl⟩;obtain⟨q2,mi⟩:∃ q,(if d.upper.kind=0∧¬ d.lower.kind=1 then ([]:List UInt8) else [32,60,58,32]++d.upper.pr)=q:=⟨_,rfl⟩;obtain⟨b1,np⟩:∃ b,nW d.lower d.upper=b:=⟨_,rfl⟩;obtain⟨b2,tZ⟩:∃ b,nW d.upper d.type=b:=⟨_,rfl⟩;have yI:bdS (yH d) d=if (b1&&b2)=true then [] else q1++q2:=by unfold bdS yH;rw [np,tZ,pZ,mi]
 have hE1:=Yv (t:=d.lower) (u:=d.upper) hz;have W3:=Yv (t:=d.upper) (u:=d.type) hz2;rw [np] at hE1;rw [tZ] at W3;simp only [go_sem];refine sq tt_ok [30000] ?_;simp only [go_sem];refine ep (hE1) ?_;simp only [go_sem];refine cC (fun Tv=>?_) (fun Tv=>?_)
 ·simp only [go_sem];refine ep (W3) ?_;simp only [go_sem];refine cC (fun sJ=>?_) (fun sJ=>?_)
  ·have mY:(b1&&b2)=true:=by simp [Tv,sJ]
   rw [if_pos mY] at yI;simp only [go_sem]
   first
    | (have h_:=Cy;exact hK _ _ ⟨rfl,_,_,by rw [yI,Cy,B6,nZ,← mi];simp only [cP,ab,ag,ah,aK,al],rfl⟩)
    | (have h_:=jI;exact hK _ _ ⟨rfl,_,_,by rw [yI,nZ,← mi];simp only [cP,ab,ag,ah,aK,al],rfl⟩)
    | exact hK _ _ ⟨rfl,O,v,by rw [yI,ah],rfl⟩
  have mY:¬ (b1&&b2)=true:=by simp [sJ]
  rw [if_neg mY] at yI;have fJ:=hO;rw [yI] at fJ;simp only [ab,ag,ah,aK,ae,af,ai] at fJ;simp only [go_sem];refine sk (n:=44) tt_ok [30000] (fun a:Nat×List UInt8=>[(0,.ptr 0 0),(3,.ptr 2 0)]) (fun a:Nat×List UInt8=>bM 129 a.1 a.2 [.box [num d.kind,str d.name,bl d.exported,bl d.deprecated,str d.note,.slice (d.params.map eu),num d.lower.kind,str d.lower.mod,str d.lower.name,.slice (d.lower.args.map bk),.slice (d.lower.bA.map dj),num d.upper.kind,str d.upper.mod,str d.upper.name,.slice (d.upper.args.map bk),.slice (d.upper.bA.map dj),num d.type.kind,str d.type.mod,str d.type.name,.slice (d.type.args.map bk),.slice (d.type.bA.map dj),num d.expr.kind,str d.expr.mod,str d.expr.name,str d.expr.text,num d.expr.num,.slice (d.expr.types.map bk),.slice (d.expr.labels.map cq),.slice (d.expr.kids.map br),str d.mod,str d.target]]) 3 (fun a=>a.2=O++(q1)) (fun Z1 fh=>?_) ?_;·simp only [go_sem];refine cC (fun mR=>?_) (fun mR=>?_);(·(have ib:¬ d.lower.kind=1:=by simpa using mR);rw [if_neg ib] at pZ;have Tw:=congrArg List.length pZ;simp only [ab,ag,ah,aK,ae,af,ai] at Tw;simp only [go_sem];refine cW (ld (cy [⟨#[32,62,58,32]⟩] (by simp) (iE (by decide) lh) _ _ (by simp only [ab,ag,ah,aK,ae,af,ai];omega)) _ 1 rfl rfl (fun _=>rfl) rfl) ?_;rintro _ _ ⟨rfl,OA,vA,JU,rfl⟩;have VX:=congrArg List.length JU;simp only [ab,ag,ah,aK,ae,af,ai] at VX;simp only [go_sem];refine cW (Hv hL (by omega) _) ?_;rintro _ _ ⟨rfl,Oy,vy,jb,rfl⟩;simp only [go_sem];refine fh _ ⟨(vy,Oy),?_,eU (by omega) (by simp only [go_sem])⟩;dsimp only;first|(rw [jb,JU,← pZ];simp only [cP,ab,ag,ah,aK,al])|(rw [jb,← pZ];simp only [cP,ab,ag,ah,aK,al]));(have ib:d.lower.kind=1:=by simpa using mR);rw [if_pos ib] at pZ;obtain⟨Oy,jb⟩:∃ y,y=O:=⟨_,rfl⟩;obtain⟨vy,NH⟩:∃ y,y=v:=⟨_,rfl⟩;rw [← jb,← NH];simp only [go_sem];refine fh _ ⟨(vy,Oy),?_,eU (by omega) (by simp only [go_sem])⟩;dsimp only;first|(rw [jb,JU,← pZ];simp only [cP,ab,ag,ah,aK,al])|(rw [jb,← pZ];simp only [cP,ab,ag,ah,aK,al])
  rintro⟨vb,Ob⟩ nZ;dsimp only at nZ;have zK:=congrArg List.length nZ;simp only [ab,ag,ah,aK,ae,af,ai] at zK;dsimp only [bM];simp only [go_sem];refine cC (fun BS=>?_) (fun BS=>?_)
  ·have jI:¬ (d.upper.kind=0∧¬ d.lower.kind=1):=by intro h_;simp [h_.1] at BS
   rw [if_neg jI] at mi;have Cz:=congrArg List.length mi;simp only [ab,ag,ah,aK,ae,af,ai] at Cz;simp only [go_sem];refine cW (ld (cy [⟨#[32,60,58,32]⟩] (by simp) (iE (by decide) lh) _ _ (by simp only [ab,ag,ah,aK,ae,af,ai];omega)) _ 1 rfl rfl (fun _=>rfl) rfl) ?_;rintro _ _ ⟨rfl,OC,vC,B6,rfl⟩;have NQ:=congrArg List.length B6;simp only [ab,ag,ah,aK,ae,af,ai] at NQ;simp only [go_sem];refine cW (Hv hU (by omega) _) ?_;rintro _ _ ⟨rfl,OD,vD,Cy,rfl⟩;simp only [go_sem]
   first
    | (have h_:=Cy;exact hK _ _ ⟨rfl,_,_,by rw [yI,Cy,B6,nZ,← mi];simp only [cP,ab,ag,ah,aK,al],rfl⟩)
    | (have h_:=jI;exact hK _ _ ⟨rfl,_,_,by rw [yI,nZ,← mi];simp only [cP,ab,ag,ah,aK,al],rfl⟩)
    | exact hK _ _ ⟨rfl,O,v,by rw [yI,ah],rfl⟩
  simp only [go_sem];refine cC (fun re=>?_) (fun re=>?_)
  ·have jI:¬ (d.upper.kind=0∧¬ d.lower.kind=1):=by have h1_:d.lower.kind=1:=(by simpa using re);exact fun h_=>h_.2 h1_
   rw [if_neg jI] at mi;have Cz:=congrArg List.length mi;simp only [ab,ag,ah,aK,ae,af,ai] at Cz;simp only [go_sem];refine cW (ld (cy [⟨#[32,60,58,32]⟩] (by simp) (iE (by decide) lh) _ _ (by simp only [ab,ag,ah,aK,ae,af,ai];omega)) _ 1 rfl rfl (fun _=>rfl) rfl) ?_;rintro _ _ ⟨rfl,OC,vC,B6,rfl⟩;have NQ:=congrArg List.length B6;simp only [ab,ag,ah,aK,ae,af,ai] at NQ;simp only [go_sem];refine cW (Hv hU (by omega) _) ?_;rintro _ _ ⟨rfl,OD,vD,Cy,rfl⟩;simp only [go_sem]
   first
    | (have h_:=Cy;exact hK _ _ ⟨rfl,_,_,by rw [yI,Cy,B6,nZ,← mi];simp only [cP,ab,ag,ah,aK,al],rfl⟩)
    | (have h_:=jI;exact hK _ _ ⟨rfl,_,_,by rw [yI,nZ,← mi];simp only [cP,ab,ag,ah,aK,al],rfl⟩)
    | exact hK _ _ ⟨rfl,O,v,by rw [yI,ah],rfl⟩
  have jI:d.upper.kind=0∧¬ d.lower.kind=1:=⟨by simpa using BS,by simpa using re⟩;rw [if_pos jI] at mi;simp only [go_sem]
  first
   | (have h_:=Cy;exact hK _ _ ⟨rfl,_,_,by rw [yI,Cy,B6,nZ,← mi];simp only [cP,ab,ag,ah,aK,al],rfl⟩)
   | (have h_:=jI;exact hK _ _ ⟨rfl,_,_,by rw [yI,nZ,← mi];simp only [cP,ab,ag,ah,aK,al],rfl⟩)
   | exact hK _ _ ⟨rfl,O,v,by rw [yI,ah],rfl⟩
 have mY:¬ (b1&&b2)=true:=by simp [Tv]
 rw [if_neg mY] at yI;have fJ:=hO;rw [yI] at fJ;simp only [ab,ag,ah,aK,ae,af,ai] at fJ;simp only [go_sem];refine sk (n:=44) tt_ok [30000] (fun a:Nat×List UInt8=>[(0,.ptr 0 0),(3,.ptr 2 0)]) (fun a:Nat×List UInt8=>bM 129 a.1 a.2 [.box [num d.kind,str d.name,bl d.exported,bl d.deprecated,str d.note,.slice (d.params.map eu),num d.lower.kind,str d.lower.mod,str d.lower.name,.slice (d.lower.args.map bk),.slice (d.lower.bA.map dj),num d.upper.kind,str d.upper.mod,str d.upper.name,.slice (d.upper.args.map bk),.slice (d.upper.bA.map dj),num d.type.kind,str d.type.mod,str d.type.name,.slice (d.type.args.map bk),.slice (d.type.bA.map dj),num d.expr.kind,str d.expr.mod,str d.expr.name,str d.expr.text,num d.expr.num,.slice (d.expr.types.map bk),.slice (d.expr.labels.map cq),.slice (d.expr.kids.map br),str d.mod,str d.target]]) 3 (fun a=>a.2=O++(q1)) (fun Z2 zv=>?_) ?_;·simp only [go_sem];refine cC (fun mR=>?_) (fun mR=>?_);(·(have ib:¬ d.lower.kind=1:=by simpa using mR);rw [if_neg ib] at pZ;have Tw:=congrArg List.length pZ;simp only [ab,ag,ah,aK,ae,af,ai] at Tw;simp only [go_sem];refine cW (ld (cy [⟨#[32,62,58,32]⟩] (by simp) (iE (by decide) lh) _ _ (by simp only [ab,ag,ah,aK,ae,af,ai];omega)) _ 1 rfl rfl (fun _=>rfl) rfl) ?_;rintro _ _ ⟨rfl,OA,vA,JU,rfl⟩;have VX:=congrArg List.length JU;simp only [ab,ag,ah,aK,ae,af,ai] at VX;simp only [go_sem];refine cW (Hv hL (by omega) _) ?_;rintro _ _ ⟨rfl,Oy,vy,jb,rfl⟩;simp only [go_sem];refine zv _ ⟨(vy,Oy),?_,eU (by omega) (by simp only [go_sem])⟩;dsimp only;first|(rw [jb,JU,← pZ];simp only [cP,ab,ag,ah,aK,al])|(rw [jb,← pZ];simp only [cP,ab,ag,ah,aK,al]));(have ib:d.lower.kind=1:=by simpa using mR);rw [if_pos ib] at pZ;obtain⟨Oy,jb⟩:∃ y,y=O:=⟨_,rfl⟩;obtain⟨vy,NH⟩:∃ y,y=v:=⟨_,rfl⟩;rw [← jb,← NH];simp only [go_sem];refine zv _ ⟨(vy,Oy),?_,eU (by omega) (by simp only [go_sem])⟩;dsimp only;first|(rw [jb,JU,← pZ];simp only [cP,ab,ag,ah,aK,al])|(rw [jb,← pZ];simp only [cP,ab,ag,ah,aK,al])
 rintro⟨vb,Ob⟩ nZ;dsimp only at nZ;have zK:=congrArg List.length nZ;simp only [ab,ag,ah,aK,ae,af,ai] at zK;dsimp only [bM];simp only [go_sem];refine cC (fun BS=>?_) (fun BS=>?_)
 ·have jI:¬ (d.upper.kind=0∧¬ d.lower.kind=1):=by intro h_;simp [h_.1] at BS
  rw [if_neg jI] at mi;have Cz:=congrArg List.length mi;simp only [ab,ag,ah,aK,ae,af,ai] at Cz;simp only [go_sem];refine cW (ld (cy [⟨#[32,60,58,32]⟩] (by simp) (iE (by decide) lh) _ _ (by simp only [ab,ag,ah,aK,ae,af,ai];omega)) _ 1 rfl rfl (fun _=>rfl) rfl) ?_;rintro _ _ ⟨rfl,OC,vC,B6,rfl⟩;have NQ:=congrArg List.length B6;simp only [ab,ag,ah,aK,ae,af,ai] at NQ;simp only [go_sem];refine cW (Hv hU (by omega) _) ?_;rintro _ _ ⟨rfl,OD,vD,Cy,rfl⟩;simp only [go_sem]
  first
   | (have h_:=Cy;exact hK _ _ ⟨rfl,_,_,by rw [yI,Cy,B6,nZ,← mi];simp only [cP,ab,ag,ah,aK,al],rfl⟩)
   | (have h_:=jI;exact hK _ _ ⟨rfl,_,_,by rw [yI,nZ,← mi];simp only [cP,ab,ag,ah,aK,al],rfl⟩)
   | exact hK _ _ ⟨rfl,O,v,by rw [yI,ah],rfl⟩
 simp only [go_sem];refine cC (fun re=>?_) (fun re=>?_)
 ·have jI:¬ (d.upper.kind=0∧¬ d.lower.kind=1):=by have h1_:d.lower.kind=1:=(by simpa using re);exact fun h_=>h_.2 h1_
  rw [if_neg jI] at mi;have Cz:=congrArg List.length mi;simp only [ab,ag,ah,aK,ae,af,ai] at Cz;simp only [go_sem];refine cW (ld (cy [⟨#[32,60,58,32]⟩] (by simp) (iE (by decide) lh) _ _ (by simp only [ab,ag,ah,aK,ae,af,ai];omega)) _ 1 rfl rfl (fun _=>rfl) rfl) ?_;rintro _ _ ⟨rfl,OC,vC,B6,rfl⟩;have NQ:=congrArg List.length B6;simp only [ab,ag,ah,aK,ae,af,ai] at NQ;simp only [go_sem];refine cW (Hv hU (by omega) _) ?_;rintro _ _ ⟨rfl,OD,vD,Cy,rfl⟩;simp only [go_sem]
  first
   | (have h_:=Cy;exact hK _ _ ⟨rfl,_,_,by rw [yI,Cy,B6,nZ,← mi];simp only [cP,ab,ag,ah,aK,al],rfl⟩)
   | (have h_:=jI;exact hK _ _ ⟨rfl,_,_,by rw [yI,nZ,← mi];simp only [cP,ab,ag,ah,aK,al],rfl⟩)
   | exact hK _ _ ⟨rfl,O,v,by rw [yI,ah],rfl⟩
 have jI:d.upper.kind=0∧¬ d.lower.kind=1:=⟨by simpa using BS,by simpa using re⟩;rw [if_pos jI] at mi;simp only [go_sem]
 first
  | (have h_:=Cy;exact hK _ _ ⟨rfl,_,_,by rw [yI,Cy,B6,nZ,← mi];simp only [cP,ab,ag,ah,aK,al],rfl⟩)
  | (have h_:=jI;exact hK _ _ ⟨rfl,_,_,by rw [yI,nZ,← mi];simp only [cP,ab,ag,ah,aK,al],rfl⟩)
  | exact hK _ _ ⟨rfl,O,v,by rw [yI,ah],rfl⟩
theorem Tx (d:Dc) (hd:DcK d) (v:Nat) (O:List UInt8) (hO:O.length+(Rr (yH d) d).length≤34359738368):∃ r_ m_,(WR O (Rr (yH d) d) []) r_ m_∧bo aj 54 [.ptr 0 0,.agg [num d.kind,str d.name,bl d.exported,bl d.deprecated,str d.note,.slice (d.params.map eu),num d.lower.kind,str d.lower.mod,str d.lower.name,.slice (d.lower.args.map bk),.slice (d.lower.bA.map dj),num d.upper.kind,str d.upper.mod,str d.upper.name,.slice (d.upper.args.map bk),.slice (d.upper.bA.map dj),num d.type.kind,str d.type.mod,str d.type.name,.slice (d.type.args.map bk),.slice (d.type.bA.map dj),num d.expr.kind,str d.expr.mod,str d.expr.name,str d.expr.text,num d.expr.num,.slice (d.expr.types.map bk),.slice (d.expr.labels.map cq),.slice (d.expr.kids.map br),str d.mod,str d.target]] (bM 129 v O []) r_ m_:=by
 refine uJ tt_ok [30000] 83 [] (2) (ay _) (fn:=Tryz.f54) Tryz.func54 rfl Tryz.call54 ⟨rfl,rfl,by simp⟩ fun K hK=>?_;simp only [bM];obtain⟨q1,pZ⟩:∃ q,(if d.exported=true then [101,120,112,111,114,116,32] else ([]:List UInt8))=q:=⟨_,rfl⟩;obtain⟨q2,mi⟩:∃ q,(if d.deprecated=true then [100,101,112,114,101,99,97,116,101,100,32]++(LI d.note++[32]) else ([]:List UInt8))=q:=⟨_,rfl⟩;obtain⟨q3,Tz⟩:∃ q,(if d.kind=0 then [116,121,112,101,32]++(bt d.name++(Cs 0 d.params++(bdS (yH d) d++([32,61,32]++d.type.pr)))) else if d.kind=1 then [108,101,116,32]++(bt d.name++(Cs 1 d.params++([58,32]++(d.type.pr++([32,61,32]++d.expr.pr))))) else [117,115,101,32]++(bt d.mod++([58,58]++(bt d.target++([32,97,115,32]++bt d.name)))))=q:=⟨_,rfl⟩;have hds:Rr (yH d) d=q1++(q2++(q3++[10])):=by rw [← pZ,← mi,← Tz];unfold Rr;simp only [cP,al]
 have fJ:=hO;rw [hds] at fJ;simp only [ab,ag,ah,aK,ae,af,ai] at fJ;have hbq:=Hr (LI d.note);simp only [go_sem];refine sk (n:=83) tt_ok [30000] (fun a:Nat×List UInt8=>[(0,.ptr 0 0),(3,.ptr 2 0)]) (fun a:Nat×List UInt8=>bM 129 a.1 a.2 [.box [num d.kind,str d.name,bl d.exported,bl d.deprecated,str d.note,.slice (d.params.map eu),num d.lower.kind,str d.lower.mod,str d.lower.name,.slice (d.lower.args.map bk),.slice (d.lower.bA.map dj),num d.upper.kind,str d.upper.mod,str d.upper.name,.slice (d.upper.args.map bk),.slice (d.upper.bA.map dj),num d.type.kind,str d.type.mod,str d.type.name,.slice (d.type.args.map bk),.slice (d.type.bA.map dj),num d.expr.kind,str d.expr.mod,str d.expr.name,str d.expr.text,num d.expr.num,.slice (d.expr.types.map bk),.slice (d.expr.labels.map cq),.slice (d.expr.kids.map br),str d.mod,str d.target]]) 3 (fun a=>a.2=O++(q1)) (fun Z1 fh=>?_) ?_;·simp only [go_sem];refine cC (fun VQ=>?_) (fun VQ=>?_);(·have he:d.exported=true:=VQ;rw [if_pos he] at pZ;have Tw:=congrArg List.length pZ;simp only [ab,ag,ah,aK,ae,af,ai] at Tw;simp only [go_sem];refine cW (ld (cy [⟨#[101,120,112,111,114,116,32]⟩] (by simp) (iE (by decide) lh) _ _ (by simp only [ab,ag,ah,aK,ae,af,ai];omega)) _ 1 rfl rfl (fun _=>rfl) rfl) ?_;rintro _ _ ⟨rfl,Oy,vy,jb,rfl⟩;have Bj:=congrArg List.length jb;simp only [ab,ag,ah,aK,ae,af,ai] at Bj;simp only [go_sem];refine fh _ ⟨(vy,Oy),?_,eU (by omega) (by simp only [go_sem])⟩;dsimp only;first|(rw [jb,← pZ];simp only [cP,ab,ag,ah,aK,al]));(have he:¬ d.exported=true:=by rw [show d.exported=false from VQ];decide);rw [if_neg he] at pZ;obtain⟨Oy,jb⟩:∃ y,y=O:=⟨_,rfl⟩;obtain⟨vy,NH⟩:∃ y,y=v:=⟨_,rfl⟩;rw [← jb,← NH];simp only [go_sem];refine fh _ ⟨(vy,Oy),?_,eU (by omega) (by simp only [go_sem])⟩;dsimp only;first|(rw [jb,← pZ];simp only [cP,ab,ag,ah,aK,al])
 rintro⟨vb,Ob⟩ nZ;dsimp only at nZ;have zK:=congrArg List.length nZ;simp only [ab,ag,ah,aK,ae,af,ai] at zK;dsimp only [bM];simp only [go_sem];refine sk (n:=83) tt_ok [30000] (fun a:Nat×List UInt8=>[(0,.ptr 0 0),(3,.ptr 2 0)]) (fun a:Nat×List UInt8=>bM 129 a.1 a.2 [.box [num d.kind,str d.name,bl d.exported,bl d.deprecated,str d.note,.slice (d.params.map eu),num d.lower.kind,str d.lower.mod,str d.lower.name,.slice (d.lower.args.map bk),.slice (d.lower.bA.map dj),num d.upper.kind,str d.upper.mod,str d.upper.name,.slice (d.upper.args.map bk),.slice (d.upper.bA.map dj),num d.type.kind,str d.type.mod,str d.type.name,.slice (d.type.args.map bk),.slice (d.type.bA.map dj),num d.expr.kind,str d.expr.mod,str d.expr.name,str d.expr.text,num d.expr.num,.slice (d.expr.types.map bk),.slice (d.expr.labels.map cq),.slice (d.expr.kids.map br),str d.mod,str d.target]]) 3 (fun a=>a.2=O++(q1++q2)) (fun Z2 zv=>?_) ?_;·simp only [go_sem];refine cC (fun lG=>?_) (fun lG=>?_);(·have he:d.deprecated=true:=lG;rw [if_pos he] at mi;have Cz:=congrArg List.length mi;simp only [ab,ag,ah,aK,ae,af,ai] at Cz;rw [← hbq] at Cz mi;simp only [go_sem];refine ep (Hw d.note hd.nt) ?_;simp only [go_sem];refine cW (ld (cy [⟨#[100,101,112,114,101,99,97,116,101,100,32]⟩,(bs (LI d.note)),⟨#[32]⟩] (by simp) (iE (by decide) (iE (RM _) (iE (by decide) lh))) _ _ (by simp only [ab,ag,ah,aK,ae,af,ai];omega)) _ 1 rfl rfl (fun _=>rfl) rfl) ?_;rintro _ _ ⟨rfl,Oy,vy,jb,rfl⟩;have Bj:=congrArg List.length jb;simp only [ab,ag,ah,aK,ae,af,ai] at Bj;simp only [go_sem];refine zv _ ⟨(vy,Oy),?_,eU (by omega) (by simp only [go_sem])⟩;dsimp only;rw [jb,nZ,← mi];simp only [cP,ab,ag,ah,aK,al]);(have he:¬ d.deprecated=true:=by rw [show d.deprecated=false from lG];decide);rw [if_neg he] at mi;obtain⟨Oy,jb⟩:∃ y,y=Ob:=⟨_,rfl⟩;obtain⟨vy,NH⟩:∃ y,y=vb:=⟨_,rfl⟩;rw [← jb,← NH];simp only [go_sem];refine zv _ ⟨(vy,Oy),?_,eU (by omega) (by simp only [go_sem])⟩;dsimp only;rw [jb,nZ,← mi];simp only [cP,ab,ag,ah,aK,al]
 rintro⟨vc,Oc⟩ Yw;dsimp only at Yw;have hlc:=congrArg List.length Yw;simp only [ab,ag,ah,aK,ae,af,ai] at hlc;dsimp only [bM];simp only [go_sem];refine sk (n:=83) tt_ok [30000] (fun a:Nat×List UInt8=>[(0,.ptr 0 0),(3,.ptr 2 0)]) (fun a:Nat×List UInt8=>bM 129 a.1 a.2 [.box [num d.kind,str d.name,bl d.exported,bl d.deprecated,str d.note,.slice (d.params.map eu),num d.lower.kind,str d.lower.mod,str d.lower.name,.slice (d.lower.args.map bk),.slice (d.lower.bA.map dj),num d.upper.kind,str d.upper.mod,str d.upper.name,.slice (d.upper.args.map bk),.slice (d.upper.bA.map dj),num d.type.kind,str d.type.mod,str d.type.name,.slice (d.type.args.map bk),.slice (d.type.bA.map dj),num d.expr.kind,str d.expr.mod,str d.expr.name,str d.expr.text,num d.expr.num,.slice (d.expr.types.map bk),.slice (d.expr.labels.map cq),.slice (d.expr.kids.map br),str d.mod,str d.target]]) 3 (fun a=>a.2=O++(q1++(q2++q3))) (fun Z3 OV=>?_) ?_;·simp only [go_sem];refine cC (fun mR=>?_) (fun mR=>?_);(·(have hk:d.kind=0:=by simpa using mR);rw [if_pos hk] at Tz;have TA:=congrArg List.length Tz;simp only [ab,ag,ah,aK,ae,af,ai] at TA;simp only [go_sem];refine cW (ld (cy [⟨#[116,121,112,101,32]⟩,d.name] (by simp) (iE (by decide) (iE hd.nm lh)) _ _ (by simp only [ab,ag,ah,aK,ae,af,ai];omega)) _ 1 rfl rfl (fun _=>rfl) rfl) ?_;rintro _ _ ⟨rfl,OA,vA,JU,rfl⟩;have VX:=congrArg List.length JU;simp only [ab,ag,ah,aK,ae,af,ai] at VX;simp only [go_sem];refine cW (tm (BR d.kind d.params hd.pl hd.pk _ _ (by rw [hk];omega)) (by simp [aI,aV]) _) ?_;rintro _ _ ⟨rfl,OB,vB,VY,rfl⟩;rw [hk] at VY;have hlB:=congrArg List.length VY;simp only [ab,ag,ah,aK,ae,af,ai] at hlB;simp only [go_sem];refine cW (tm (Kv d hd.zl hd.zu (hd.wl hk).1 (hd.wl hk).2 _ _ (by omega)) (by simp [aI,aV]) _) ?_;rintro _ _ ⟨rfl,OC,vC,B6,rfl⟩;have NQ:=congrArg List.length B6;simp only [ab,ag,ah,aK,ae,af,ai] at NQ;simp only [go_sem];refine cW (ld (cy [⟨#[32,61,32]⟩] (by simp) (iE (by decide) lh) _ _ (by simp only [ab,ag,ah,aK,ae,af,ai];omega)) _ 2 rfl rfl (fun _=>rfl) rfl) ?_;rintro _ _ ⟨rfl,OD,vD,Cy,rfl⟩;have hlD:=congrArg List.length Cy;simp only [ab,ag,ah,aK,ae,af,ai] at hlD;simp only [go_sem];refine cW (Hv (hd.wt (.inl hk)) (by omega) _) ?_;rintro _ _ ⟨rfl,Oy,vy,jb,rfl⟩;simp only [go_sem];refine OV _ ⟨(vy,Oy),?_,eU (by omega) (by simp only [go_sem])⟩;dsimp only;rw [← Tz];simp only [*,ab,ag,ah,aK,al,aw,aC]);(have MH:¬ d.kind=0:=by simpa using mR);rw [if_neg MH] at Tz;simp only [go_sem];refine cC (fun Kw=>?_) (fun Kw=>?_);(·(have hk:d.kind=1:=by simpa using Kw);rw [if_pos hk] at Tz;have TA:=congrArg List.length Tz;simp only [ab,ag,ah,aK,ae,af,ai] at TA;simp only [go_sem];refine cW (ld (cy [⟨#[108,101,116,32]⟩,d.name] (by simp) (iE (by decide) (iE hd.nm lh)) _ _ (by simp only [ab,ag,ah,aK,ae,af,ai];omega)) _ 1 rfl rfl (fun _=>rfl) rfl) ?_;rintro _ _ ⟨rfl,OA,vA,JU,rfl⟩;have VX:=congrArg List.length JU;simp only [ab,ag,ah,aK,ae,af,ai] at VX;simp only [go_sem];refine cW (tm (BR d.kind d.params hd.pl hd.pk _ _ (by rw [hk];omega)) (by simp [aI,aV]) _) ?_;rintro _ _ ⟨rfl,OB,vB,VY,rfl⟩;rw [hk] at VY;have hlB:=congrArg List.length VY;simp only [ab,ag,ah,aK,ae,af,ai] at hlB;simp only [go_sem];refine cW (ld (cy [⟨#[58,32]⟩] (by simp) (iE (by decide) lh) _ _ (by simp only [ab,ag,ah,aK,ae,af,ai];omega)) _ 2 rfl rfl (fun _=>rfl) rfl) ?_;rintro _ _ ⟨rfl,OC,vC,B6,rfl⟩;have NQ:=congrArg List.length B6;simp only [ab,ag,ah,aK,ae,af,ai] at NQ;simp only [go_sem];refine cW (Hv (hd.wt (.inr hk)) (by omega) _) ?_;rintro _ _ ⟨rfl,OD,vD,Cy,rfl⟩;have hlD:=congrArg List.length Cy;simp only [ab,ag,ah,aK,ae,af,ai] at hlD;simp only [go_sem];refine cW (ld (cy [⟨#[32,61,32]⟩] (by simp) (iE (by decide) lh) _ _ (by simp only [ab,ag,ah,aK,ae,af,ai];omega)) _ 3 rfl rfl (fun _=>rfl) rfl) ?_;rintro _ _ ⟨rfl,OE,vE,hOE,rfl⟩;have hlE:=congrArg List.length hOE;simp only [ab,ag,ah,aK,ae,af,ai] at hlE;simp only [go_sem];refine cW (wex (hd.wx hk) (by omega) _) ?_;rintro _ _ ⟨rfl,Oy,vy,jb,rfl⟩;simp only [go_sem];refine OV _ ⟨(vy,Oy),?_,eU (by omega) (by simp only [go_sem])⟩;dsimp only;rw [← Tz];simp only [*,ab,ag,ah,aK,al,aw,aC]);(have ib:¬ d.kind=1:=by simpa using Kw);rw [if_neg ib] at Tz;simp only [go_sem];refine cC (fun acO=>?_) (fun acO=>?_);(·(have hk:d.kind=2:=by simpa using acO);have TA:=congrArg List.length Tz;simp only [ab,ag,ah,aK,ae,af,ai] at TA;simp only [go_sem];refine cW (ld (cy [⟨#[117,115,101,32]⟩,d.mod,⟨#[58,58]⟩,d.target,⟨#[32,97,115,32]⟩,d.name] (by simp) (iE (by decide) (iE (hd.md hk).1 (iE (by decide) (iE (hd.md hk).2 (iE (by decide) (iE hd.nm lh)))))) _ _ (by simp only [ab,ag,ah,aK,ae,af,ai];omega)) _ 1 rfl rfl (fun _=>rfl) rfl) ?_;rintro _ _ ⟨rfl,Oy,vy,jb,rfl⟩;simp only [go_sem];refine OV _ ⟨(vy,Oy),?_,eU (by omega) (by simp only [go_sem])⟩;dsimp only;rw [← Tz];simp only [*,ab,ag,ah,aK,al,aw,aC]);(have jI:¬ d.kind=2:=by simpa using acO);exact absurd hd.k (by omega)
 rintro⟨vd,Od⟩ hOd;dsimp only at hOd;have hld:=congrArg List.length hOd;simp only [ab,ag,ah,aK,ae,af,ai] at hld;dsimp only [bM];simp only [go_sem];refine cW (ld (cy [⟨#[10]⟩] (by simp) (iE (by decide) lh) _ _ (by simp only [ab,ag,ah,aK,ae,af,ai];omega)) _ 1 rfl rfl (fun _=>rfl) rfl) ?_;rintro _ _ ⟨rfl,OZ,vZ,hOZ,rfl⟩;have hlZ:=congrArg List.length hOZ;simp only [ab,ag,ah,aK,ae,af,ai] at hlZ;simp only [go_sem];exact hK _ _ ⟨rfl,_,_,by rw [hds,hOZ,hOd];simp only [cP,ab,ag,ah,aK,al],rfl⟩
end
end
section
def TB (B:bf) (v:Nat) (O:List UInt8) (l:List bf):List bf:=B :: .nk 129 2 v O.length :: .n7 5 v O :: l
def WRL (B:bf) (O X:List UInt8) (l:List bf) (r:V) (m:List bf):Prop:=r = .dR []∧∃ O' v',O'=O++X∧m=TB B v' O' l
theorem amY {f:FuncId} {vs vs':List V} {O X:List UInt8} {v:Nat} (h:∃ r m,WR O X [] r m∧bo aj f vs (bM 129 v O []) r m) (hv:vs.all (aI 2)=true) (MF:∀ N,tG (s1 N) vs=vs') (B:bf) (l:List bf) :
  ∃ r m,WRL B O X l r m∧bo aj f vs' (B :: .nk 129 2 v O.length :: .n7 5 v O :: l) r m:=by
 obtain⟨r,m,⟨rfl,O',v',rfl,rfl⟩,h⟩:=h;refine⟨_,_,⟨rfl,_,v',rfl,rfl⟩,?_⟩;have h2:=h.Jk (TB B v O l) (s1 (TB B v O l).length) 2 rfl hv rfl rfl rfl (ay _) (fun i C hi=>?_) (J1 _) (fun j hj=>by unfold s1;rw [if_neg (by omega),if_neg (by omega)]);·rw [MF] at h2;exact Hu h2 ((ah _).trans rfl)
 match i,hi with|0,hi=>cases hi;rfl|1,hi=>cases hi;rfl|i+2,hi=>cases hi
def s3 (k N j:Nat):Nat:=if j=0 then 1 else if j=1 then 2 else if j=2 then k+3 else N+(j-3)
theorem acP (k N i j:Nat) (hi:i<3) (hj:j<3) (h:s3 k N i=s3 k N j):i=j:=by
 have h1:i=0∨i=1∨i=2:=by omega
 have h2:j=0∨j=1∨j=2:=by omega
 rcases h1 with rfl|rfl|rfl <;> rcases h2 with rfl|rfl|rfl <;> first|rfl|(simp [s3] at h)|(simp [s3] at h;omega)
theorem aiz {f:FuncId} {vs vs' rs:List V} {O X:List UInt8} {v e:Nat} (h:∃ r m,WR O X [.rows 0 e rs] r m∧bo aj f vs (bM 129 v O [.rows 0 e rs]) r m) (B:bf) (l:List bf) (k:Nat) (hk:l[k]?=some (.rows 0 e rs)) (hv:vs.all (aI 3)=true) (MF:∀ N,tG (s3 k N) vs=vs') (wV:aL 3 (.rows 0 e rs)=true) :
  ∃ r m,WRL B O X l r m∧bo aj f vs' (B :: .nk 129 2 v O.length :: .n7 5 v O :: l) r m:=by
 obtain⟨r,m,⟨rfl,O',v',rfl,rfl⟩,h⟩:=h;refine⟨_,_,⟨rfl,_,v',rfl,rfl⟩,?_⟩;have h2:=h.Jk (TB B v O l) (s3 k (TB B v O l).length) 3 rfl hv (by simp only [bM,cI,wV,dM,aU];rfl) rfl (by simp only [bM,cI,wV,dM,aU];rfl) (ay _) (fun i C hi=>?_) (acP k _) (fun j hj=>by unfold s3;rw [if_neg (by omega),if_neg (by omega),if_neg (by omega)]);·rw [MF] at h2;refine Hu h2 ((ah _).trans ?_);show (((TB B v O l).set 1 (.nk 129 2 v' (O++X).length)).set 2 (.n7 5 v' (O++X))).set (k+3) (Co (s3 k (TB B v O l).length) (.rows 0 e rs))=_;show B :: .nk 129 2 v' (O++X).length :: .n7 5 v' (O++X) :: l.set k (.rows 0 e rs)=_;rw [rZ hk];rfl
 match i,hi with|0,hi=>cases hi;rfl|1,hi=>cases hi;rfl|2,hi=>cases hi;exact hk|i+3,hi=>cases hi
structure MdK (m:Md):Prop where
 p:0<m.path.size
 il:m.imports.length≤1048576
 dl:m.decls.length≤1048576
 im:∀ x∈m.imports,0<x.path.size∧0<x.alias.size
 dk:∀ d∈m.decls,DcK d
section
attribute [local go_sem] B7 ax
theorem Wx (m:Md) (hm:MdK m) (v:Nat) (O:List UInt8) (hO:O.length+(NA yH m).length≤34359738368):∃ r_ m_,(WR1 (.dR []) (.box [str m.path,.slice (m.imports.map fc),.slice (m.decls.map dh)]) O (NA yH m)) r_ m_∧bo aj 52 [.ptr 1 0,.ptr 0 0] (B7 (.box [str m.path,.slice (m.imports.map fc),.slice (m.decls.map dh)]) v O) r_ m_:=by
 refine uJ tt_ok [] 38 [] (3) (ay _) (fn:=Tryz.f52) Tryz.func52 rfl Tryz.call52 ⟨rfl,rfl,by simp⟩ fun K hK=>?_;simp only [B7];obtain⟨q1,pZ⟩:∃ q,m.imports.flatMap XQ=q:=⟨_,rfl⟩;obtain⟨q2,mi⟩:∃ q,m.decls.flatMap (fun d=>Rr (yH d) d)=q:=⟨_,rfl⟩;have WK:NA yH m=[109,111,100,117,108,101,32]++(bt m.path++([10]++(q1++q2))):=by rw [← pZ,← mi];unfold NA;simp only [al]
 have fJ:=hO;rw [WK] at fJ;simp only [ab,ag,ah,aK,ae,af,ai] at fJ;have Um:=hm.il;have CI:=hm.dl;simp only [go_sem];refine cW (aiz (cy [⟨#[109,111,100,117,108,101,32]⟩,m.path,⟨#[10]⟩] (by simp) (iE (by decide) (iE hm.p (iE (by decide) lh))) _ _ (by simp only [ab,ag,ah,aK,ae,af,ai];omega)) _ _ 0 rfl rfl (fun _=>rfl) rfl) ?_;rintro _ _ ⟨rfl,O1,v1,ke,rfl⟩;have nn:=congrArg List.length ke;simp only [ab,ag,ah,aK,ae,af,ai] at nn;simp only [go_sem];refine nM tt_ok [] (fun a:Nat×Nat×List UInt8=>[(0,.ptr 1 0),(1,.ptr 0 0),(13,.slice (m.imports.map fc)),(14,num m.imports.length),(15,num a.1)]) (fun a:Nat×Nat×List UInt8=>B7 (.box [str m.path,.slice (m.imports.map fc),.slice (m.decls.map dh)]) a.2.1 a.2.2) (fun a=>m.imports.length-a.1) (fun a=>a.1≤m.imports.length∧a.2.2=O++([109,111,100,117,108,101,32]++(bt m.path++([10]++(m.imports.take a.1).flatMap XQ)))) ((0,v1,O1)) 3 (eU (by omega) (by simp only [TB,dY,go_sem] <;> rfl)) (⟨ck _,by rw [ke];simp only [cP,ab,ag,ah,aK,al]⟩) ?_;clear ke nn;rintro⟨i,va,Oa⟩ ⟨hi,mo⟩;try dsimp only at hi mo
 have uq:=congrArg List.length mo;simp only [ab,ag,ah,aK,ae,af,ai] at uq;try dsimp only [B7]
 intro Z1 fh;simp only [go_sem];refine cC (fun gh=>?_) (fun gh=>?_);·(have bQ:i<m.imports.length:=by simpa using gh);have hw:=bN i (by omega);obtain⟨x,BZ⟩:∃ x,m.imports[i]?=some x:=⟨_,au bQ⟩;have hxm:=aE BZ;(have dO:(i:Int)<(m.imports.length:Int):=by omega);have qT:=pS XQ BZ;have Fi:=wD XQ m.imports (i+1);rw [qT,pZ,ae] at Fi;(have him:(XQ x).length=12+(bt x.path).length+(bt x.alias).length:=by unfold XQ;simp only [ab,ag,ah,aK,ae,af,ai];omega);simp only [hw,aq,BZ,dO,fc,go_sem];refine cW (aiz (cy [⟨#[105,109,112,111,114,116,32]⟩,x.path,⟨#[32,97,115,32]⟩,x.alias,⟨#[10]⟩] (by simp) (iE (by decide) (iE (hm.im x hxm).1 (iE (by decide) (iE (hm.im x hxm).2 (iE (by decide) lh))))) _ _ (by simp only [ab,ag,ah,aK,ae,af,ai];omega)) _ _ 1 rfl rfl (fun _=>rfl) rfl) ?_;rintro _ _ ⟨rfl,Oy,vy,jb,rfl⟩;simp only [hw,aq,BZ,dO,fc,go_sem];refine fh _ ⟨(i+1,vy,Oy),?_,?_,eU (by omega) (by simp only [hw,TB,go_sem])⟩;(·exact⟨bQ,by rw [qT,jb,mo];unfold XQ;simp only [cP,ab,ag,ah,aK,al]⟩);dsimp only;omega
 have jL:¬ i<m.imports.length:=by simpa using gh
 have kz:i=m.imports.length:=by omega
 rw [kz,az,pZ] at mo;simp only [go_sem];refine nM tt_ok [] (fun a:Nat×Nat×List UInt8=>[(0,.ptr 1 0),(1,.ptr 0 0),(28,.slice (m.decls.map dh)),(29,num m.decls.length),(30,num a.1)]) (fun a:Nat×Nat×List UInt8=>B7 (.box [str m.path,.slice (m.imports.map fc),.slice (m.decls.map dh)]) a.2.1 a.2.2) (fun a=>m.decls.length-a.1) (fun a=>a.1≤m.decls.length∧a.2.2=O++([109,111,100,117,108,101,32]++(bt m.path++([10]++(q1++(m.decls.take a.1).flatMap (fun d=>Rr (yH d) d)))))) ((0,va,Oa)) 3 (eU (by omega) (by simp only [TB,dY,go_sem] <;> rfl)) (⟨ck _,by rw [mo];simp only [cP,ab,ag,ah,aK,al]⟩) ?_;rintro⟨j,vc,Oc⟩ ⟨hj,Yw⟩;try dsimp only at hj Yw
 have hlc:=congrArg List.length Yw;simp only [ab,ag,ah,aK,ae,af,ai] at hlc;try dsimp only [B7]
 intro Z2 zv;simp only [go_sem];refine cC (fun acQ=>?_) (fun acQ=>?_);·(have yZ:j<m.decls.length:=by simpa using acQ);have nr:=bN j (by omega);obtain⟨d,hd_⟩:∃ x,m.decls[j]?=some x:=⟨_,au yZ⟩;have hdm:=aE hd_;(have aiA:(j:Int)<(m.decls.length:Int):=by omega);have qT:=pS (fun d=>Rr (yH d) d) hd_;have Fi:=wD (fun d=>Rr (yH d) d) m.decls (j+1);rw [qT,mi,ae] at Fi;simp only [nr,aq,hd_,aiA,dh,aD,aP,aQ,bD,bK,aw,aC,go_sem];refine cW (amY (Tx d (hm.dk d hdm) _ _ (by omega)) (by simp [aI,aV]) (fun _=>rfl) _ _) ?_;rintro _ _ ⟨rfl,Oy,vy,jb,rfl⟩;simp only [nr,aq,hd_,aiA,dh,aD,aP,aQ,bD,bK,aw,aC,go_sem];refine zv _ ⟨(j+1,vy,Oy),?_,?_,eU (by omega) (by simp only [nr,TB,go_sem])⟩;(·exact⟨yZ,by rw [qT,jb,Yw];simp only [cP,ab,ag,ah,aK,al]⟩);dsimp only;omega
 have arZ:¬ j<m.decls.length:=by simpa using acQ
 have Up:j=m.decls.length:=by omega
 rw [Up,az,mi] at Yw;simp only [go_sem];exact hK _ _ ⟨rfl,_,_,by rw [WK,Yw],rfl⟩
end
end
section
theorem am0 (a b c:Nat):decide (((a+b+c:Nat):Int)=0)=(decide (a=0)&&decide (b=0)&&decide (c=0)):=by
 by_cases h:a+b+c=0;·(have:a=0∧b=0∧c=0:=by omega);simp [this]
 rw [decide_eq_false (by omega)];symm;rw [auE];intro hc;simp only [aJ,decide_eq_true_eq] at hc;omega
section
attribute [local go_sem] ax
theorem TC (g:FuncId) (q:Pm→Bool) (l:List Pm) (hg:∀ x∈l,Cn g [eu x] (bl (q x))) (hl:l.length≤1048576):∃ r_,(fun w=>∃ k:Int,w=num k∧decide (0≤k)=l.any q) r_∧bJ aj 211 [.slice (l.map eu),.sc (.func (.func g) #[] #[])] r_:=by
 refine jq tt_ok [] 19 [.tmp 4] (fn:=Tryz.f211) Tryz.func211 rfl Tryz.call211 ⟨rfl,rfl,by simp⟩ fun K hK=>?_;simp only [go_sem];refine iz tt_ok [] [8] 0 [0,1,7] (fun vs=>((l.length:Int)-Go.Eng.intOf (vs.headD .undef)).toNat) (fun vs=>∃ i:Nat,vs=[num i]∧i≤l.length∧∀ j<i,∀ x,l[j]?=some x→q x=false) (by omega) (by simp only [go_sem]) (⟨0,rfl,ck _,fun j hj=>absurd hj (iH j)⟩) fun vs hI Z1 fh=>?_;obtain⟨i,rfl,hi,ff⟩:=hI;simp only [go_sem];refine cC (fun kh=>?_) (fun kh=>?_);·(have bQ:i<l.length:=by simpa using kh);have hw:=bN i (by omega);obtain⟨x,hx⟩:∃ x,l[i]?=some x:=⟨_,au bQ⟩;simp only [hw,aq,hx,eu,aD,aw,aC,go_sem];refine ep (by have h:=hg x (aE hx);simp only [cP,eu,aD] at h;exact h) ?_;simp only [hw,aq,hx,eu,aD,aw,aC,go_sem];refine cC (fun gh=>?_) (fun gh=>?_);(·(have cX:decide (0≤(i:Int))=l.any q:=by rw [qx hx gh];exact decide_eq_true (fP i));simp only [hw,aq,hx,eu,aD,aw,aC,go_sem];exact hK _ ⟨_,rfl,cX⟩);simp only [hw,aq,hx,eu,aD,aw,aC,go_sem];refine fh _ (oU (by omega) (by simp only [hw,aq,hx,eu,aD,aw,aC,go_sem]) ?_ ?_) <;> simp only [lS,lk,reduceIte,zE];(·refine⟨i+1,rfl,bQ,fun j hj=>?_⟩;(rcases bS j i with h|h);(·exact ff j h);(obtain rfl:j=i:=by omega);intro y hy;rw [hx] at hy;cases hy;exact gh);simp only [Go.Eng.intOf,cg];omega
 have jL:¬ i<l.length:=by simpa using kh
 have cX:decide (0≤(-1:Int))=l.any q:=(any_none fun j hj=>ff j (by omega)).symm ▸ rfl;simp only [go_sem];exact hK _ ⟨_,rfl,cX⟩
end
theorem sX (g:FuncId) (q:Pm→Bool) (l:List Pm) (hg:∀ x∈l,Cn g [eu x] (bl (q x))) (hl:l.length≤1048576):Cn 133 [.slice (l.map eu),.sc (.func (.func g) #[] #[])] (bl (l.any q)):=by refine jq tt_ok [] 9 [.tmp 4] (fn:=Tryz.f133) Tryz.func133 rfl Tryz.call133 ⟨rfl,rfl,by simp⟩ fun K hK=>?_;simp only [go_sem];refine cF (TC g q l hg hl) ?_;rintro _ ⟨k,rfl,hk⟩;simp only [go_sem];exact hK _ (congrArg bl hk)
theorem acR (p:Pm):Cn 256 [eu p] (bl (!jD p.bound)):=by refine jq tt_ok [] 7 [.tmp 2] (fn:=Tryz.f256) Tryz.func256 rfl Tryz.call256 ⟨rfl,rfl,by simp⟩ fun K hK=>?_;simp only [cP,eu,aD];simp only [go_sem];refine ep (by have h:=iP p.bound;rw [aT] at h;exact h) ?_;simp only [go_sem];exact hK _ rfl
theorem acS (p:Pm):Cn 257 [eu p] (bl (decide (p.eh<0)||decide (2<p.eh))):=by refine jq tt_ok [] 11 [.tmp 2] (fn:=Tryz.f257) Tryz.func257 rfl Tryz.call257 ⟨rfl,rfl,by simp⟩ fun K hK=>?_;simp only [cP,eu,aD];repeat' (simp only [go_sem];first|refine cC (fun hg=>?_) (fun hg=>?_)|(exact hK _ (congrArg bl (by clear hK;simp_all <;> (intros;omega)))))
theorem acT (p:Pm):Cn 259 [eu p] (bl (!decide (p.eh=0))):=by refine jq tt_ok [] 6 [.tmp 2] (fn:=Tryz.f259) Tryz.func259 rfl Tryz.call259 ⟨rfl,rfl,by simp⟩ fun K hK=>?_;simp only [cP,eu,aD];simp only [go_sem];exact hK _ (congrArg bl (by simp_all))
theorem acU (p:Pm):Cn 260 [eu p] (bl (!jx p.name)):=by refine jq tt_ok [] 7 [.tmp 2] (fn:=Tryz.f260) Tryz.func260 rfl Tryz.call260 ⟨rfl,rfl,by simp⟩ fun K hK=>?_;simp only [cP,eu,aD];simp only [go_sem];refine ep (pL _) ?_;simp only [go_sem];exact hK _ rfl
theorem acV (d x:Dc):∃ r_,(fun w=>w=bl (decide (x.name=d.name))) r_∧bo aj 210 [dh x,.ptr 0 0] ([.box (eO d)]) r_ ([.box (eO d)]):=by refine Na tt_ok [] 9 [.tmp 3] (fn:=Tryz.f210) Tryz.func210 rfl Tryz.call210 ⟨rfl,rfl,by simp⟩ fun K hK=>?_;simp only [cP,eO,dh,aD,aP];simp only [dZ,go_sem];exact hK _ _ ⟨rfl,rfl⟩
theorem acW (b0:bf) (kZ:∀ n,2≤n→aL n b0=true) (y x:Im):∃ r_,(fun w=>w=bl (decide (x.path=y.path)||decide (x.alias=y.alias))) r_∧bo aj 207 [fc x,.ptr 1 0] ([b0,.box [str y.path,str y.alias]]) r_ ([b0,.box [str y.path,str y.alias]]):=by refine Na tt_ok [] 16 [.tmp 3] (fn:=Tryz.f207) Tryz.func207 rfl Tryz.call207 ⟨rfl,rfl,by simp⟩ fun K hK=>?_;have tZ:=kZ 2 (ay _);simp only [fc];repeat' (simp only [↓tZ,dZ,go_sem];first|refine cC (fun hg=>?_) (fun hg=>?_)|(exact hK _ _ ⟨congrArg bl (by simp_all),rfl⟩))
theorem yJ (x:Ex) (h1:x.types.length≤1048576) (h2:x.labels.length≤1048576) (h3:x.kids.length≤1048576):Cn 258 [br x] (bl (Bd x)):=by refine jq tt_ok [] 40 [.tmp 2] (fn:=Tryz.f258) Tryz.func258 rfl Tryz.call258 ⟨rfl,rfl,by simp⟩ fun K hK=>?_;have lQ:IntKind.i64.wrap ((x.types.length:Int)+x.labels.length)=((x.types.length+x.labels.length:Nat):Int):=oy _ _ (by omega);have nr:IntKind.i64.wrap (((x.types.length+x.labels.length:Nat):Int)+x.kids.length)=((x.types.length+x.labels.length+x.kids.length:Nat):Int):=oy _ _ (by omega);simp only [bn,aP];repeat' (simp only [aS,aW,ax,dZ,lQ,nr,go_sem];first|refine cC (fun hg=>?_) (fun hg=>?_)|(exact hK _ (congrArg bl (by clear hK lQ nr h1 h2 h3;unfold Bd jJ;first|(rw [am0];simp_all;done)|(simp_all;done)|(simp_all <;> omega)))))
section
attribute [local go_sem] ax
theorem TD (d:Dc) (g:FuncId) (q:Dc→Bool) (l:List Dc) (hg:∀ x∈l,∃ r,(fun v=>v=bl (q x)) r∧bo aj g [dh x,.ptr 0 0] ([.box (eO d)]) r ([.box (eO d)])) (hl:l.length≤1048576):∃ r_,(fun w=>∃ k:Int,w=num k∧decide (0≤k)=l.any q) r_∧bo aj 132 [.slice (l.map dh),.ia (.func g) [] [.ptr 0 0]] ([.box (eO d)]) r_ ([.box (eO d)]):=by
 refine Na tt_ok [] 19 [.tmp 4] (fn:=Tryz.f132) Tryz.func132 rfl Tryz.call132 ⟨rfl,rfl,by simp⟩ fun K hK=>?_;have lU:∀ n,(eO d).all (aI n)=true:=fun n=>rfl;simp only [lU,go_sem];refine iz tt_ok [] [8] 1 [0,1,7] (fun vs=>((l.length:Int)-Go.Eng.intOf (vs.headD .undef)).toNat) (fun vs=>∃ i:Nat,vs=[num i]∧i≤l.length∧∀ j<i,∀ x,l[j]?=some x→q x=false) (by omega) (by simp only [lU,go_sem]) (⟨0,rfl,ck _,fun j hj=>absurd hj (iH j)⟩) fun vs hI Z1 fh=>?_;obtain⟨i,rfl,hi,ff⟩:=hI;simp only [lU,go_sem];refine cC (fun kh=>?_) (fun kh=>?_);·(have bQ:i<l.length:=by simpa using kh);have hw:=bN i (by omega);obtain⟨x,hx⟩:∃ x,l[i]?=some x:=⟨_,au bQ⟩;simp only [lU,hw,aq,hx,dh,aD,aP,aw,aC,go_sem];refine BX (by have h:=hg x (aE hx);simp only [cP,dh,aD,aP] at h;exact h) ?_;simp only [lU,hw,aq,hx,dh,aD,aP,aw,aC,go_sem];refine cC (fun gh=>?_) (fun gh=>?_);(·(have cX:decide (0≤(i:Int))=l.any q:=by rw [qx hx gh];exact decide_eq_true (fP i));simp only [lU,hw,aq,hx,dh,aD,aP,aw,aC,go_sem];exact hK _ _ ⟨⟨_,rfl,cX⟩,rfl⟩);simp only [lU,hw,aq,hx,dh,aD,aP,aw,aC,go_sem];refine fh _ (oU (by omega) (by simp only [lU,hw,aq,hx,dh,aD,aP,aw,aC,go_sem]) ?_ ?_) <;> simp only [lS,lk,reduceIte,zE];(·refine⟨i+1,rfl,bQ,fun j hj=>?_⟩;(rcases bS j i with h|h);(·exact ff j h);(obtain rfl:j=i:=by omega);intro y hy;rw [hx] at hy;cases hy;exact gh);simp only [Go.Eng.intOf,cg];omega
 have jL:¬ i<l.length:=by simpa using kh
 have cX:decide (0≤(-1:Int))=l.any q:=(any_none fun j hj=>ff j (by omega)).symm ▸ rfl;simp only [lU,go_sem];exact hK _ _ ⟨⟨_,rfl,cX⟩,rfl⟩
end
theorem TF (d:Dc) (g:FuncId) (q:Dc→Bool) (l:List Dc) (hg:∀ x∈l,∃ r,(fun v=>v=bl (q x)) r∧bo aj g [dh x,.ptr 0 0] ([.box (eO d)]) r ([.box (eO d)])) (hl:l.length≤1048576):∃ r_,(fun w=>w=bl (l.any q)) r_∧bo aj 49 [.slice (l.map dh),.ia (.func g) [] [.ptr 0 0]] ([.box (eO d)]) r_ ([.box (eO d)]):=by refine Na tt_ok [] 9 [.tmp 4] (fn:=Tryz.f49) Tryz.func49 rfl Tryz.call49 ⟨rfl,rfl,by simp⟩ fun K hK=>?_;have lU:∀ n,(eO d).all (aI n)=true:=fun n=>rfl;simp only [lU,go_sem];refine cS (TD d g q l hg hl) ?_;rintro _ ⟨k,rfl,hk⟩;simp only [lU,go_sem];exact hK _ _ ⟨congrArg bl hk,rfl⟩
section
attribute [local go_sem] ax
theorem TG (b0:bf) (kZ:∀ n,2≤n→aL n b0=true) (y:Im) (g:FuncId) (q:Im→Bool) (l:List Im) (hg:∀ x∈l,∃ r,(fun v=>v=bl (q x)) r∧bo aj g [fc x,.ptr 1 0] ([b0,.box [str y.path,str y.alias]]) r ([b0,.box [str y.path,str y.alias]])) (hl:l.length≤1048576):∃ r_,(fun w=>∃ k:Int,w=num k∧decide (0≤k)=l.any q) r_∧bo aj 255 [.slice (l.map fc),.ia (.func g) [] [.ptr 1 0]] ([b0,.box [str y.path,str y.alias]]) r_ ([b0,.box [str y.path,str y.alias]]):=by
 refine Na tt_ok [] 19 [.tmp 4] (fn:=Tryz.f255) Tryz.func255 rfl Tryz.call255 ⟨rfl,rfl,by simp⟩ fun K hK=>?_;have tZ:=kZ 2 (ay _);simp only [↓tZ,go_sem];refine iz tt_ok [] [8] 2 [0,1,7] (fun vs=>((l.length:Int)-Go.Eng.intOf (vs.headD .undef)).toNat) (fun vs=>∃ i:Nat,vs=[num i]∧i≤l.length∧∀ j<i,∀ x,l[j]?=some x→q x=false) (by omega) (by simp only [↓tZ,go_sem]) (⟨0,rfl,ck _,fun j hj=>absurd hj (iH j)⟩) fun vs hI Z1 fh=>?_;obtain⟨i,rfl,hi,ff⟩:=hI;simp only [↓tZ,go_sem];refine cC (fun kh=>?_) (fun kh=>?_);·(have bQ:i<l.length:=by simpa using kh);have hw:=bN i (by omega);obtain⟨x,hx⟩:∃ x,l[i]?=some x:=⟨_,au bQ⟩;simp only [↓tZ,hw,aq,hx,fc,go_sem];refine BX (by have h:=hg x (aE hx);simp only [fc] at h;exact h) ?_;simp only [↓tZ,hw,aq,hx,fc,go_sem];refine cC (fun gh=>?_) (fun gh=>?_);(·(have cX:decide (0≤(i:Int))=l.any q:=by rw [qx hx gh];exact decide_eq_true (fP i));simp only [↓tZ,hw,aq,hx,fc,go_sem];exact hK _ _ ⟨⟨_,rfl,cX⟩,rfl⟩);simp only [↓tZ,hw,aq,hx,fc,go_sem];refine fh _ (oU (by omega) (by simp only [↓tZ,hw,aq,hx,fc,go_sem]) ?_ ?_) <;> simp only [lS,lk,reduceIte,zE];(·refine⟨i+1,rfl,bQ,fun j hj=>?_⟩;(rcases bS j i with h|h);(·exact ff j h);(obtain rfl:j=i:=by omega);intro y hy;rw [hx] at hy;cases hy;exact gh);simp only [Go.Eng.intOf,cg];omega
 have jL:¬ i<l.length:=by simpa using kh
 have cX:decide (0≤(-1:Int))=l.any q:=(any_none fun j hj=>ff j (by omega)).symm ▸ rfl;simp only [↓tZ,go_sem];exact hK _ _ ⟨⟨_,rfl,cX⟩,rfl⟩
end
theorem TH (b0:bf) (kZ:∀ n,2≤n→aL n b0=true) (y:Im) (g:FuncId) (q:Im→Bool) (l:List Im) (hg:∀ x∈l,∃ r,(fun v=>v=bl (q x)) r∧bo aj g [fc x,.ptr 1 0] ([b0,.box [str y.path,str y.alias]]) r ([b0,.box [str y.path,str y.alias]])) (hl:l.length≤1048576):∃ r_,(fun w=>w=bl (l.any q)) r_∧bo aj 206 [.slice (l.map fc),.ia (.func g) [] [.ptr 1 0]] ([b0,.box [str y.path,str y.alias]]) r_ ([b0,.box [str y.path,str y.alias]]):=by refine Na tt_ok [] 9 [.tmp 4] (fn:=Tryz.f206) Tryz.func206 rfl Tryz.call206 ⟨rfl,rfl,by simp⟩ fun K hK=>?_;have tZ:=kZ 2 (ay _);simp only [↓tZ,go_sem];refine cS (TG b0 kZ y g q l hg hl) ?_;rintro _ ⟨k,rfl,hk⟩;simp only [↓tZ,go_sem];exact hK _ _ ⟨congrArg bl hk,rfl⟩
end
section
theorem TI (d:Dc):LD d=(!(d.deprecated && !d.exported || !decide (d.note=⟨#[]⟩) && !d.deprecated) &&
  (if d.kind=0 then !(d.params.any (fun p=>!jD p.bound)) && !(d.params.any (fun p=>decide (p.eh<0)||decide (2<p.eh)))&&Bd d.expr&&decide (d.mod=⟨#[]⟩)&&decide (d.target=⟨#[]⟩)
   else if d.kind=1 then !(d.params.any (fun p=>!decide (p.eh=0)))&&jD d.lower&&jD d.upper&&decide (d.mod=⟨#[]⟩)&&decide (d.target=⟨#[]⟩)
   else if d.kind=2 then decide (d.params.length=0)&&jD d.lower&&jD d.upper&&jD d.type&&Bd d.expr else false)):=by rw [Bool.not_or];rfl
section
attribute [local go_sem] aS aW ax dZ
theorem H6 (d:Dc) (hp:d.params.length≤1048576) (h1:d.expr.types.length≤1048576) (h2:d.expr.labels.length≤1048576) (h3:d.expr.kids.length≤1048576)  : Cn 208 [dh d] (bl (LD d)):=by
  refine jq tt_ok [1] 107 [.tmp 2] (fn:=Tryz.f208) Tryz.func208 rfl Tryz.call208 ⟨rfl,rfl,by simp⟩ fun K hK=>?_;have Fs:=TI d;have Fh:=sX 256 (fun p=>!jD p.bound) d.params (fun p _=>acR p) hp;have FJ:=sX 257 (fun p=>decide (p.eh<0)||decide (2<p.eh)) d.params (fun p _=>acS p) hp;have Yx:=sX 259 (fun p=>!decide (p.eh=0)) d.params (fun p _=>acT p) hp;obtain⟨p1,KM⟩:∃ b,d.params.any (fun p=>!jD p.bound)=b:=⟨_,rfl⟩;obtain⟨p2,CL⟩:∃ b,d.params.any (fun p=>decide (p.eh<0)||decide (2<p.eh))=b:=⟨_,rfl⟩;obtain⟨p3,OW⟩:∃ b,d.params.any (fun p=>!decide (p.eh=0))=b:=⟨_,rfl⟩;rw [KM] at Fh Fs;rw [CL] at FJ Fs;rw [OW] at Yx Fs;clear KM CL OW;obtain⟨zl,CG⟩:∃ b,jD d.lower=b:=⟨_,rfl⟩;obtain⟨zu,hzu⟩:∃ b,jD d.upper=b:=⟨_,rfl⟩;obtain⟨zt,hzt⟩:∃ b,jD d.type=b:=⟨_,rfl⟩;obtain⟨zx,W1⟩:∃ b,Bd d.expr=b:=⟨_,rfl⟩;obtain⟨zm,rn⟩:∃ b,decide (d.mod=⟨#[]⟩)=b:=⟨_,rfl⟩;obtain⟨zg,Dt⟩:∃ b,decide (d.target=⟨#[]⟩)=b:=⟨_,rfl⟩;obtain⟨zn,yX⟩:∃ b,decide (d.note=⟨#[]⟩)=b:=⟨_,rfl⟩;rw [CG,hzu,hzt,W1,rn,Dt,yX] at Fs;simp only [cP,dh,aD,aP];simp only [rn,Dt,yX,go_sem];refine mC tt_ok [1] [22] 1 [1,2] (fun vs=>vs=[bl (d.deprecated && !d.exported || !zn && !d.deprecated)]) (fun Z1 fh=>?_) ?_;·simp only [rn,Dt,yX,go_sem];refine yP tt_ok ?_;repeat' (simp only [rn,Dt,yX,go_sem];first|refine cC (fun hg=>?_) (fun hg=>?_)|(refine fh _ (mN (by omega) (by simp only [rn,Dt,yX,go_sem]) ?_);simp only [lS,lk,reduceIte,zE];exact congrArg (fun b=>[bl b]) (by clear hK fh;first|(simp only [*,bG,a8,a6,aU,bw,bx,cf,ca,bX,bT,cE];done)|simp_all)))
  ·intro vs hJ;obtain rfl:=hJ;simp only [rn,Dt,yX,go_sem];refine cC (fun JL=>?_) (fun JL=>?_);(·simp only [rn,Dt,yX,go_sem];exact hK _ (congrArg bl (by clear hK Fh FJ Yx;rw [Fs];clear Fs;first|(simp only [*,bG,a8,a6,aU,bw,bx,cf,ca,bX,bT,cE,if_false,if_true,reduceIte,iL];done)|(simp_all;done))));·simp only [rn,Dt,yX,go_sem];refine ep (Fh) ?_;simp only [rn,Dt,yX,go_sem];refine cC (fun Kx=>?_) (fun Kx=>?_);(·have MH:d.kind=0:=of_decide_eq_true Kx;simp only [rn,Dt,yX,go_sem];refine ep (FJ) ?_;repeat' (simp only [rn,Dt,yX,go_sem];first|refine cC (fun hg=>?_) (fun hg=>?_)|refine ep (by have h:=yJ d.expr (by omega) (by omega) (by omega);rw [W1,bn] at h;simp only [aP] at h;exact h) ?_|(exact hK _ (congrArg bl (by clear hK Fh FJ Yx;rw [Fs];clear Fs;first|(simp only [*,bG,a8,a6,aU,bw,bx,cf,ca,bX,bT,cE,if_false,if_true,reduceIte,iL];done)|(simp_all;done))))));·have MH:¬ d.kind=0:=of_decide_eq_false Kx;simp only [rn,Dt,yX,go_sem];refine cC (fun Ky=>?_) (fun Ky=>?_);(·have ib:d.kind=1:=of_decide_eq_true Ky;simp only [rn,Dt,yX,go_sem];refine ep (Yx) ?_;repeat' (simp only [rn,Dt,yX,go_sem];first|refine cC (fun hg=>?_) (fun hg=>?_)|refine ep (by have h:=iP d.lower;rw [CG,aT] at h;exact h) ?_|refine ep (by have h:=iP d.upper;rw [hzu,aT] at h;exact h) ?_|(exact hK _ (congrArg bl (by clear hK Fh FJ Yx;rw [Fs];clear Fs;first|(simp only [*,bG,a8,a6,aU,bw,bx,cf,ca,bX,bT,cE,if_false,if_true,reduceIte,iL];done)|(simp_all;done))))));·have ib:¬ d.kind=1:=of_decide_eq_false Ky;simp only [rn,Dt,yX,go_sem];refine cC (fun JT=>?_) (fun JT=>?_);(·have jI:d.kind=2:=of_decide_eq_true JT;simp only [rn,Dt,yX,go_sem];refine cC (fun Kz=>?_) (fun Kz=>?_);(·(have am2:decide (d.params.length=0)=true:=by simpa only [ci0] using Kz);simp only [rn,Dt,yX,go_sem];refine ep (by have h:=iP d.lower;rw [CG,aT] at h;exact h) ?_;repeat' (simp only [rn,Dt,yX,go_sem];first|refine cC (fun hg=>?_) (fun hg=>?_)|refine ep (by have h:=iP d.upper;rw [hzu,aT] at h;exact h) ?_|refine ep (by have h:=iP d.type;rw [hzt,aT] at h;exact h) ?_|refine ep (by have h:=yJ d.expr (by omega) (by omega) (by omega);rw [W1,bn] at h;simp only [aP] at h;exact h) ?_|(exact hK _ (congrArg bl (by clear hK Fh FJ Yx;rw [Fs];clear Fs;first|(simp only [*,bG,a8,a6,aU,bw,bx,cf,ca,bX,bT,cE,if_false,if_true,reduceIte,iL];done)|(simp_all;done))))));·(have am2:decide (d.params.length=0)=false:=by simpa only [ci0] using Kz);simp only [rn,Dt,yX,go_sem];exact hK _ (congrArg bl (by clear hK Fh FJ Yx;rw [Fs];clear Fs;first|(simp only [*,bG,a8,a6,aU,bw,bx,cf,ca,bX,bT,cE,if_false,if_true,reduceIte,iL];done)|(simp_all;done))));·have jI:¬ d.kind=2:=of_decide_eq_false JT;simp only [rn,Dt,yX,go_sem];exact hK _ (congrArg bl (by clear hK Fh FJ Yx;rw [Fs];clear Fs;first|(simp only [*,bG,a8,a6,aU,bw,bx,cf,ca,bX,bT,cE,if_false,if_true,reduceIte,iL];done)|(simp_all;done)))
end
end
section
theorem Wy (d:Dc):Vy d=(!(d.params.any (fun p=>!jx p.name))&&(if d.kind=0 then jx d.name else if d.kind=1 then dz d.name else (dz d.name&&dz d.target||jx d.name&&jx d.target) && !decide (d.mod=⟨#[]⟩)&&rf d.mod)):=rfl
section
attribute [local go_sem] ax dZ
theorem Oz (hG:ba.g=some 0) (d:Dc) (hp:d.params.length≤1048576) (hm:d.mod.size≤1048576):Cn 209 [dh d] (bl (Vy d)):=by
 refine jq tt_ok [8] 48 [.tmp 2] (fn:=Tryz.f209) Tryz.func209 rfl Tryz.call209 ⟨rfl,rfl,by simp⟩ fun K hK=>?_;have Uf:=Wy d;have hA4:=sX 260 (fun p=>!jx p.name) d.params (fun p _=>acU p) hp;obtain⟨p4,V5⟩:∃ b,d.params.any (fun p=>!jx p.name)=b:=⟨_,rfl⟩;rw [V5] at hA4 Uf;clear V5;obtain⟨zm,rn⟩:∃ b,decide (d.mod=⟨#[]⟩)=b:=⟨_,rfl⟩;rw [rn] at Uf;simp only [cP,dh,aD,aP];simp only [rn,go_sem];refine ep (hA4) ?_;simp only [rn,go_sem];refine cC (fun VU=>?_) (fun VU=>?_) <;> simp only [rn,go_sem];·exact hK _ (congrArg bl (by clear hK hA4;rw [Uf];clear Uf;first|(simp only [*,bG,a8,a6,aU,bw,bx,if_false,if_true,reduceIte];done)|(simp_all;done)))
 refine cC (fun kh=>?_) (fun kh=>?_);·have MH:d.kind=0:=of_decide_eq_true kh;simp only [rn,go_sem];refine ep (pL _) ?_;simp only [rn,go_sem];exact hK _ (congrArg bl (by clear hK hA4;rw [Uf];clear Uf;first|(simp only [*,bG,a8,a6,aU,bw,bx,if_false,if_true,reduceIte];done)|(simp_all;done)))
 have MH:¬ d.kind=0:=of_decide_eq_false kh;simp only [rn,go_sem];refine cC (fun oY=>?_) (fun oY=>?_);·have ib:d.kind=1:=of_decide_eq_true oY;simp only [rn,go_sem];refine ep (iA hG _) ?_;simp only [rn,go_sem];exact hK _ (congrArg bl (by clear hK hA4;rw [Uf];clear Uf;first|(simp only [*,bG,a8,a6,aU,bw,bx,if_false,if_true,reduceIte];done)|(simp_all;done)))
 have ib:¬ d.kind=1:=of_decide_eq_false oY;simp only [rn,go_sem];refine mC tt_ok [8] [3] 1 [1,2,6,9,14] (fun vs=>vs=[bl (dz d.name&&dz d.target||jx d.name&&jx d.target)]) (fun Z1 fh=>?_) ?_;·simp only [rn,go_sem];refine yP tt_ok ?_;simp only [rn,go_sem];refine ep (iA hG _) ?_;repeat' (simp only [rn,go_sem];first|refine cC (fun hg=>?_) (fun hg=>?_)|refine ep (iA hG _) ?_|refine ep (pL _) ?_|(refine fh _ (mN (by omega) (by simp only [rn,go_sem]) ?_);simp only [lS,lk,reduceIte,zE];exact congrArg (fun b=>[bl b]) (by simp_all)))
 intro vs hJ;obtain rfl:=hJ;repeat' (simp only [rn,go_sem];first|refine cC (fun hg=>?_) (fun hg=>?_)|refine ep (xu hG _ hm) ?_|(exact hK _ (congrArg bl (by clear hK hA4;rw [Uf];clear Uf;first|(simp only [*,bG,a8,a6,aU,bw,bx,if_false,if_true,reduceIte];done)|(simp_all;done)))))
end
end
abbrev tC (t:Ty):List V:=[num t.kind,str t.mod,str t.name,.slice (cM t.args),.slice (iB t.bA)]
abbrev xC (x:Ex):List V:=[num x.kind,str x.mod,str x.name,str x.text,num x.num,.slice (cM x.types),.slice (x.labels.map cq),.slice (nO x.kids)]
abbrev dC_ (d:Dc) (ps:V) (md:ByteArray):List V:=[num d.kind,str d.name,bl d.exported,bl d.deprecated,str d.note,ps,num d.lower.kind,str d.lower.mod,str d.lower.name,.slice (cM d.lower.args),.slice (iB d.lower.bA),num d.upper.kind,str d.upper.mod,str d.upper.name,.slice (cM d.upper.args),.slice (iB d.upper.bA),num d.type.kind,str d.type.mod,str d.type.name,.slice (cM d.type.args),.slice (iB d.type.bA),num d.expr.kind,str d.expr.mod,str d.expr.name,str d.expr.text,num d.expr.num,.slice (cM d.expr.types),.slice (d.expr.labels.map cq),.slice (nO d.expr.kids),str md,str d.target]
abbrev zT_:List V:=[num 0,str ⟨#[]⟩,str ⟨#[]⟩,.sc (.slice none 0 0),.sc (.slice none 0 0)]
abbrev zX_:List V:=[num 0,str ⟨#[]⟩,str ⟨#[]⟩,str ⟨#[]⟩,num 0,.sc (.slice none 0 0),.sc (.slice none 0 0),.sc (.slice none 0 0)]
abbrev zD_:List V:=[num 0,str ⟨#[]⟩,bl false,bl false,str ⟨#[]⟩,.sc (.slice none 0 0),num 0,str ⟨#[]⟩,str ⟨#[]⟩,.sc (.slice none 0 0),.sc (.slice none 0 0),num 0,str ⟨#[]⟩,str ⟨#[]⟩,.sc (.slice none 0 0),.sc (.slice none 0 0),num 0,str ⟨#[]⟩,str ⟨#[]⟩,.sc (.slice none 0 0),.sc (.slice none 0 0),num 0,str ⟨#[]⟩,str ⟨#[]⟩,str ⟨#[]⟩,num 0,.sc (.slice none 0 0),.sc (.slice none 0 0),.sc (.slice none 0 0),str ⟨#[]⟩,str ⟨#[]⟩]
attribute [go_sem] tC xC dC_ zT_ zX_ zD_
section
theorem Dc.OG (d:Dc):d.expr.types.length<d.wt∧d.expr.labels.length<d.wt∧d.expr.kids.length<d.wt:=by have h1:=d.expr.wo;have h2:=d.expr.mE;have h3:=d.expr.hH;have h4:d.wt=1+d.name.size+d.note.size+aM Pm.wt d.params+d.lower.wt+d.upper.wt+d.type.wt+d.expr.wt+d.mod.size+d.target.size:=rfl;omega
theorem Dc.OH {d:Dc} (sK:d.wt=1+d.name.size+d.note.size+aM Pm.wt d.params+d.lower.wt+d.upper.wt+d.type.wt+d.expr.wt+d.mod.size+d.target.size) (hw:d.wt≤1048576) {u:Ty} (hu:u∈[d.lower,d.upper,d.type]++d.params.map Pm.bound):u.wt≤1048576:=by
 rcases eA.1 hu with hu|hu
 ·simp only [b8,ef,or_false] at hu;rcases hu with rfl|rfl|rfl <;> omega
 obtain⟨p,hp,rfl⟩:=cQ.1 hu;obtain⟨i,hi⟩:=bB.1 hp;have h1:=bU Pm.wt hi;have h2:p.wt=1+p.name.size+p.bound.wt:=rfl;omega
def y3 (d:Dc) (j:Nat):List Ty:=[d.lower,d.upper,d.type]++(d.params.take j).map Pm.bound
theorem OI {d:Dc} {j:Nat} {p:Pm} (h:d.params[j]?=some p):y3 d (j+1)=y3 d j++[p.bound]:=by unfold y3;rw [bH,h];simp
theorem TJ (d:Dc):y3 d d.params.length=[d.lower,d.upper,d.type]++d.params.map Pm.bound:=by unfold y3;rw [az]
theorem TK (d:Dc) {j:Nat} (h:j≤d.params.length):(y3 d j).length=j+3:=by unfold y3;simp;omega
section
attribute [local go_sem] aS aW ax
theorem Wz (hG:ba.g=some 0) (d:Dc) (bs:List Dc) (hw:d.wt≤1048576) (fJ:bs.length≤1048576):Cn 131 [dh d,.slice (bs.map dh)] (num (Dh bs d)):=by
 refine jq tt_ok [] 90 [.tmp 4] (fn:=Tryz.f131) Tryz.func131 rfl Tryz.call131 ⟨rfl,rfl,by simp⟩ fun K hK=>?_;have sK:d.wt=1+d.name.size+d.note.size+aM Pm.wt d.params+d.lower.wt+d.upper.wt+d.type.wt+d.expr.wt+d.mod.size+d.target.size:=rfl;obtain⟨h1,h2,h3⟩:=d.OG;have hp:d.params.length≤1048576:=by have:=ct Pm.wt (fun l=>by unfold Pm.wt;omega) d.params;omega
 obtain⟨acc,mO⟩:∃ x,x=([d.lower,d.upper,d.type]++d.params.map Pm.bound):=⟨_,rfl⟩;have aiB:acc.length=d.params.length+3:=by rw [mO];simp <;> omega
 have lU:Dh bs d=(if LD d=false then 1 else if 8<d.params.length∨65536<d.note.size then 7 else if Vy d=false then 4 else if (bs.any fun x=>decide (x.name=d.name))=true then 5 else if yR (d.params.map Pm.name)=true then 5 else if er mI ([d.lower,d.upper,d.type]++d.params.map Pm.bound)≠0 then er mI ([d.lower,d.upper,d.type]++d.params.map Pm.bound) else wz d.expr):=rfl;have ff:∀ u∈acc,u.wt≤1048576:=by rw [mO];exact fun u hu=>Dc.OH sK hw hu
 simp only [cP,dh,aD,aP];have tH:aj.underlying 9=some .string:=kr;have sl:∀ (a:ByteArray) (ty:TypeId),ko aj (Builtin.len_ #[9] ty) [.sc (.string a)]=some (num a.size):=fun a ty=>kD (P:=aj) (tt:=tt) (T:=9) a tH ty;simp only [sl,go_sem];refine ep (by have h:=H6 d hp (by omega) (by omega) (by omega);simp only [cP,dh,aD,aP] at h;exact h) ?_;simp only [sl,go_sem];refine cC (fun oY=>?_) (fun oY=>?_);·(have cX:1=Dh bs d:=by rw [lU,if_pos (by simpa using oY)]);simp only [sl,go_sem];first|exact hK _ (congrArg num cX)|exact hK _ (congrArg num lU.symm)
 rw [if_neg (by simpa using oY)] at lU;simp only [sl,go_sem];refine cC (fun ug=>?_) (fun ug=>?_);·(have cX:7=Dh bs d:=by rw [lU,if_pos (.inl (by have:=of_decide_eq_true ug;omega))]);simp only [sl,go_sem];first|exact hK _ (congrArg num cX)|exact hK _ (congrArg num lU.symm)
 simp only [sl,go_sem];refine cC (fun JZ=>?_) (fun JZ=>?_);·(have cX:7=Dh bs d:=by rw [lU,if_pos (by first|exact .inl (by have:=of_decide_eq_true ug;omega)|exact .inr (by have:=of_decide_eq_true JZ;omega))]);simp only [sl,go_sem];first|exact hK _ (congrArg num cX)|exact hK _ (congrArg num lU.symm)
 rw [if_neg (by have h1_:=of_decide_eq_false ug;have h2_:=of_decide_eq_false JZ;omega)] at lU;simp only [sl,go_sem];refine ep (by have h:=Oz hG d hp (by omega);simp only [cP,dh,aD,aP] at h;exact h) ?_;simp only [sl,go_sem];refine cC (fun Rz=>?_) (fun Rz=>?_);·(have cX:4=Dh bs d:=by rw [lU,if_pos (by simpa using Rz)]);simp only [sl,go_sem];first|exact hK _ (congrArg num cX)|exact hK _ (congrArg num lU.symm)
 rw [if_neg (by simpa using Rz)] at lU;simp only [sl,go_sem];refine BX (by have h:=TF d 210 (fun x=>decide (x.name=d.name)) bs (fun x _=>acV d x) fJ;simp only [cP,eO,dh,aD,aP] at h;exact h) ?_;simp only [sl,go_sem];refine cC (fun JI=>?_) (fun JI=>?_);·(have cX:5=Dh bs d:=by rw [lU,if_pos JI]);simp only [sl,go_sem];first|exact hK _ (congrArg num cX)|exact hK _ (congrArg num lU.symm)
 rw [if_neg (by rw [JI];simp)] at lU;simp only [sl,go_sem];refine nM tt_ok [] (fun a:Nat=>[(2,.ptr 0 0),(4,num 0),(5,.mp 1),(39,.slice (d.params.map eu)),(40,num d.params.length),(41,num a)]) (fun a:Nat=>[.box (dC_ d (.slice (d.params.map eu)) d.mod),.map (uN strVal 0 (ei [] ((d.params.take a).map Pm.name))) (ei [] ((d.params.take a).map Pm.name)).length]) (fun a=>d.params.length-a) (fun a=>a≤d.params.length) (0) 2 (eU (by omega) (by simp only [sl,xV,ei,atH,uN,dM,ai,dY,go_sem] <;> rfl)) (ck _) ?_;intro i hi;try dsimp only at hi
 try dsimp only
 have rl:=fun n=>((NG.ei (l:=(d.params.take i).map Pm.name) NG.nil).1).below n;intro Z1 fh;simp only [rl,sl,go_sem];refine cC (fun Kw=>?_) (fun Kw=>?_);·(have bQ:i<d.params.length:=by simpa using Kw);obtain⟨p,hx⟩:∃ p,d.params[i]?=some p:=⟨_,au bQ⟩;have Lt:=Hb Pm.name [] hx;have am4:=fun B0 B2=>Vv (ei [] ((d.params.take i).map Pm.name)) p.name (mem:=[B0,.map (uN strVal 0 (ei [] ((d.params.take i).map Pm.name))) (ei [] ((d.params.take i).map Pm.name)).length,B2]) (b:=1) rfl;have lQ:=bN i (by omega);have am5:=fun n=>((NG.ei (l:=(d.params.take (i+1)).map Pm.name) NG.nil).1).below n;simp only [rl,aq,hx,eu,aD,am4,lQ,sl,go_sem];refine fh _ ⟨i+1,?_,?_,eU (by omega) (by (simp only [← Lt,lQ,am5,rl,go_sem]))⟩;(·exact bQ);omega
 have jL:i=d.params.length:=by have:=of_decide_eq_false Kw;omega
 subst jL;try rw [az]
 obtain⟨G,hGr⟩:∃ x,x=ei [] (d.params.map Pm.name):=⟨_,rfl⟩;have CI:=Jz (d.params.map Pm.name);rw [← hGr,ax] at CI;rw [← hGr];have hlen:=fun B0=>Vw (mem:=[B0,.map (uN strVal 0 G) G.length]) (b:=1) G G.length rfl;have u3:=fun n=>(hGr ▸ (NG.ei (l:=d.params.map Pm.name) NG.nil).1:NG G).below n;simp only [rl,hlen,u3,sl,go_sem];refine cC (fun Ky=>?_) (fun Ky=>?_);·(have Ic:yR (d.params.map Pm.name)=true:=by rw [← CI.2];simpa using Ky);(have cX:5=Dh bs d:=by rw [lU,if_pos Ic]);simp only [rl,hlen,u3,sl,go_sem];first|exact hK _ (congrArg num cX)|exact hK _ (congrArg num lU.symm)
 have Ic:yR (d.params.map Pm.name)=false:=by rw [← CI.2];simpa using Ky
 rw [if_neg (by rw [Ic];simp)] at lU;simp only [rl,hlen,u3,sl,go_sem];refine nM tt_ok [] (fun a:Nat×Nat=>[(2,.ptr 0 0),(4,num 0),(8,.ms 2 a.2 0 (a.1+3)),(63,.slice (d.params.map eu)),(64,num d.params.length),(65,num a.1)]) (fun a:Nat×Nat=>[.box (dC_ d (.slice (d.params.map eu)) d.mod),.map (uN strVal 0 G) G.length,.rows a.2 5 (cM (y3 d a.1))]) (fun a=>d.params.length-a.1) (fun a=>a.1≤d.params.length) ((0,0)) 3 (eU (by omega) (by simp only [rl,hlen,u3,sl,y3,xV,iK,ah,cM,aT,aD,u3,dY,go_sem] <;> rfl)) (ck _) ?_;rintro⟨j,dI⟩ hj;try dsimp only at hj
 try dsimp only
 intro Z2 zv;simp only [rl,hlen,u3,u3,sl,go_sem];refine cC (fun acX=>?_) (fun acX=>?_);·(have bQ:j<d.params.length:=by simpa using acX);obtain⟨p,hx⟩:∃ p,d.params[j]?=some p:=⟨_,au bQ⟩;have lQ:=bN j (by omega);(have Ls:j+3≤34359738367:=by omega);(have am7:j≤34359738364:=by omega);have PV:y3 d (j+1)=y3 d j++[p.bound]:=OI hx;have OS:=TK d (j:=j) (by omega);have qT:jZ [V.agg (tC p.bound)] 0 5=true:=rfl;simp only [rl,hlen,u3,u3,aq,hx,eu,aD,lQ,Ls,am7,OS,qT,aw,aC,sl,go_sem];refine zv _ ⟨(j+1,dI+1),?_,?_,eU (by omega) (by (simp [PV,OS,aQ,aT,aD,M4,lk,GF,Lm,aI,aL,u3]))⟩;(·exact bQ);dsimp only;omega
 have jL:j=d.params.length:=by have:=of_decide_eq_false acX;omega
 subst jL;have am8:y3 d d.params.length=acc:=by rw [mO];exact TJ d
 rw [am8,← aiB];simp only [rl,hlen,u3,u3,sl,go_sem];refine iz tt_ok [] [77] 3 [2,14,18,29,33,42,54,66,75,76] (fun vs=>((acc.length:Int)-Go.Eng.intOf (vs.headD .undef)).toNat) (fun vs=>∃ i:Nat,vs=[num i]∧i≤acc.length∧er mI acc=er mI (acc.drop i)) (by omega) (by simp only [rl,hlen,u3,u3,sl,go_sem]) (⟨0,rfl,ck _,rfl⟩) fun vs hI Z3 OV=>?_;obtain⟨i,rfl,hi,hinv⟩:=hI;simp only [rl,hlen,u3,u3,sl,go_sem];refine cC (fun acY=>?_) (fun acY=>?_);·(have bQ:i<acc.length:=by simpa using acY);obtain⟨u,hu⟩:∃ u,acc[i]?=some u:=⟨_,au bQ⟩;(have Um:((i:Nat):Int)<((acc.length:Nat):Int):=by omega);have lQ:=bN i (by omega);have uo:=Dm mI hu;simp only [rl,hlen,u3,u3,Um,dF,hu,aT,aD,lQ,sl,go_sem];refine ep (by have h:=qE hG u (by have:=u.gA;have:=ff u (aE hu);omega) (Ty.afw (by have:=ff u (aE hu);omega));rw [aT] at h;simp only [aD] at h;exact⟨_,rfl,h⟩) ?_;simp only [rl,hlen,u3,u3,Um,dF,hu,aT,aD,lQ,sl,go_sem];refine cC (fun acZ=>?_) (fun acZ=>?_);(·(have dy:mI u≠0:=by simpa using acZ);(have hz:er mI ([d.lower,d.upper,d.type]++d.params.map Pm.bound)=mI u:=by rw [← mO,hinv,uo,if_neg dy]);(have cX:mI u=Dh bs d:=by rw [lU,if_pos (by rw [hz];exact dy),hz]);simp only [rl,hlen,u3,u3,Um,dF,hu,aT,aD,lQ,sl,go_sem];first|exact hK _ (congrArg num cX)|exact hK _ (congrArg num lU.symm));(have hz:mI u=0:=by simpa using acZ);simp only [rl,hlen,u3,u3,Um,dF,hu,aT,aD,lQ,sl,go_sem];refine OV _ (oU (by omega) (by simp only [rl,hlen,u3,u3,Um,dF,hu,aT,aD,lQ,sl,go_sem]) ?_ ?_) <;> simp only [lS,lk,reduceIte,zE];(·exact⟨i+1,rfl,bQ,by rw [hinv,uo,if_pos hz]⟩);simp only [Go.Eng.intOf,cg];omega
 have jL:¬ i<acc.length:=by simpa using acY
 have hz:er mI ([d.lower,d.upper,d.type]++d.params.map Pm.bound)=0:=by rw [← mO,hinv,eH (by omega)];rfl
 rw [if_neg fun h_=>h_ hz] at lU;simp only [rl,hlen,u3,u3,sl,go_sem];refine ep (by have h:=wJ hG d.expr (by omega);rw [bn] at h;simp only [aP] at h;exact⟨_,rfl,h⟩) ?_;simp only [rl,hlen,u3,u3,sl,go_sem];first|exact hK _ (congrArg num cX)|exact hK _ (congrArg num lU.symm)
end
end
section
theorem CZ {α:Type} (l:List α) (f:α→V) (size:Nat) (hs:∀ a,(f a).cells.length=size) (i:Nat) (hi:i≤l.length) (mem:List bf):cutAt mem size 0 (some (i:Int)) (.slice (l.map f))=some (.slice ((l.take i).map f)):=by
 unfold cutAt;have h1:jZ (l.map f) (0:Int).toNat size=true:=by unfold jZ;split;(·rename_i h;simp at h;obtain⟨t,-,rfl⟩:=h;simp [hs]);rfl
 simp only [atZ];rw [if_pos ⟨bY _,by omega,by simpa using hi,h1⟩];simp [List.map_take]
def mV (i:Nat) (r:Nat×Int):Nat×Int:=if r.2=0 then (0,0) else (r.1+i,r.2)
theorem OJ {α:Type} (f:List α→α→Int):∀ (l b:List α),(kH f b l).2=0→kH f b l=(0,0)
 | [],_,_=>rfl
 | x :: r,b,h=>by
  unfold kH at h ⊢
  split at h
  ·rename_i h1
   rw [if_pos h1]
   split at h
   ·rename_i h2;rw [if_pos h2]
   rename_i h2;exact absurd h h2
  rename_i h1;exact absurd h h1
theorem yK {α:Type} {f:List α→α→Int} {b l:List α}:mV 0 (kH f b l)=kH f b l:=by
 unfold mV;split;·rename_i h;rw [OJ f _ _ h]
 rfl
theorem KA {α:Type} (f:List α→α→Int) {l:List α} {i:Nat} {x:α} (h:l[i]?=some x):kH f (l.take i) (l.drop i)=if f (l.take i) x=0 then mV 1 (kH f (l.take (i+1)) (l.drop (i+1))) else (0,f (l.take i) x):=by have h1:=aA.1 h;rw [dW h1.1,h1.2,bH,h];rfl
theorem H7 {α:Type} (f:List α→α→Int) {l:List α} {i:Nat} {x:α} (h:l[i]?=some x) (hz:f (l.take i) x=0):mV i (kH f (l.take i) (l.drop i))=mV (i+1) (kH f (l.take (i+1)) (l.drop (i+1))):=by
 rw [KA f h,if_pos hz];unfold mV;by_cases h2:(kH f (l.take (i+1)) (l.drop (i+1))).2=0;·simp [h2]
 simp [h2];omega
theorem wU {α:Type} (f:List α→α→Int) {l:List α} {i:Nat} {x:α} {e:Int} (h:l[i]?=some x) (he:f (l.take i) x=e) (dy:e≠0):(mV i (kH f (l.take i) (l.drop i))).2=e:=by rw [KA f h,he,if_neg dy];unfold mV;rw [if_neg dy]
theorem OK {α:Type} (f:List α→α→Int) {l:List α} {i:Nat} {x:α} {e:Int} (h:l[i]?=some x) (he:f (l.take i) x=e) (dy:e≠0):mV i (kH f (l.take i) (l.drop i))=(i,e):=by rw [KA f h,he,if_neg dy];unfold mV;rw [if_neg dy];simp
section
attribute [local go_sem] ax dZ
theorem WA (hG:ba.g=some 0) (m:Md) (hw:m.wt≤1048576):Cn 130 [sx m] (num (EH m)):=by
 refine jq tt_ok [] 59 [.tmp 2] (fn:=Tryz.f130) Tryz.func130 rfl Tryz.call130 ⟨rfl,rfl,by simp⟩ fun K hK=>?_;have hmw:m.wt=1+m.path.size+aM Im.wt m.imports+aM Dc.wt m.decls:=rfl;have hmb:=m.hH;have Um:m.imports.length≤1048576:=by have:=ct Im.wt (fun l=>by unfold Im.wt;omega) m.imports;omega
 have lU:EH m=(if ek m.path=false then 4 else if 16<m.imports.length∨64<m.decls.length∨4096<m.size then 7 else (kH (Di m.path) [] m.imports).2):=rfl;simp only [pP,qB];simp only [go_sem];refine ep (nz hG m.path (by omega)) ?_;simp only [go_sem];refine cC (fun VQ=>?_) (fun VQ=>?_);·(have cX:4=EH m:=by rw [lU,if_pos (by simpa using VQ)]);simp only [go_sem];exact hK _ (congrArg num cX)
 rw [if_neg (by simpa using VQ)] at lU;simp only [go_sem];refine cC (fun ug=>?_) (fun ug=>?_);·(have cX:7=EH m:=by rw [lU,if_pos (.inl (by have:=of_decide_eq_true ug;omega))]);simp only [go_sem];exact hK _ (congrArg num cX)
 simp only [go_sem];refine cC (fun KB=>?_) (fun KB=>?_);·(have cX:7=EH m:=by rw [lU,if_pos (.inr (.inl (by have:=of_decide_eq_true KB;omega)))]);simp only [go_sem];exact hK _ (congrArg num cX)
 simp only [go_sem];refine ep (by have h:=N2 m (by omega);rw [pP] at h;simp only [qB] at h;exact⟨_,rfl,h⟩) ?_;simp only [go_sem];refine cC (fun lG=>?_) (fun lG=>?_);·(have cX:7=EH m:=by rw [lU,if_pos (.inr (.inr (by have:=of_decide_eq_true lG;omega)))]);simp only [go_sem];exact hK _ (congrArg num cX)
 rw [if_neg (by have h1_:=of_decide_eq_false ug;have h2_:=of_decide_eq_false KB;have h3_:=of_decide_eq_false lG;omega)] at lU;simp only [go_sem];refine iz tt_ok [] [29] 1 [1,5,10,27,28] (fun vs=>((m.imports.length:Int)-Go.Eng.intOf (vs.headD .undef)).toNat) (fun vs=>∃ i:Nat,vs=[num i]∧i≤m.imports.length∧kH (Di m.path) [] m.imports=mV i (kH (Di m.path) (m.imports.take i) (m.imports.drop i))) (by omega) (by simp only [go_sem]) (⟨0,rfl,ck _,yK.symm⟩) fun vs hI Z1 fh=>?_;obtain⟨i,rfl,hi,hinv⟩:=hI;simp only [go_sem];refine cC (fun xG=>?_) (fun xG=>?_);·(have bQ:i<m.imports.length:=by simpa using xG);obtain⟨y,hx⟩:∃ y,m.imports[i]?=some y:=⟨_,au bQ⟩;have lQ:=bN i (by omega);have hyw:=bU Im.wt hx;have hyd:y.wt=1+y.path.size+y.alias.size:=rfl;have hcut:=CZ m.imports fc 2 (fun _=>rfl) i (by omega);simp only [aq,hx,fc,hcut,lQ,go_sem];refine ep (nz hG y.path (by omega)) ?_;simp only [aq,hx,fc,hcut,lQ,go_sem];refine cC (fun aiC=>?_) (fun aiC=>?_);(·(have hz:(kH (Di m.path) [] m.imports).2=4:=by rw [hinv];exact wU (Di m.path) hx (by unfold Di;clear lU hK;simp_all) (by decide));(have cX:4=EH m:=by rw [lU,hz]);simp only [aq,hx,fc,hcut,lQ,go_sem];exact hK _ (congrArg num cX));simp only [aq,hx,fc,hcut,lQ,go_sem];refine ep (iA hG _) ?_;simp only [aq,hx,fc,hcut,lQ,go_sem];refine cC (fun tJ=>?_) (fun tJ=>?_);(·(have hz:(kH (Di m.path) [] m.imports).2=4:=by rw [hinv];exact wU (Di m.path) hx (by unfold Di;clear lU hK;simp_all) (by decide));(have cX:4=EH m:=by rw [lU,hz]);simp only [aq,hx,fc,hcut,lQ,go_sem];exact hK _ (congrArg num cX));simp only [aq,hx,fc,hcut,lQ,go_sem];refine cC (fun EM=>?_) (fun EM=>?_);(·(have hz:(kH (Di m.path) [] m.imports).2=14:=by rw [hinv];exact wU (Di m.path) hx (by unfold Di;clear lU hK;simp_all) (by decide));(have cX:14=EH m:=by rw [lU,hz]);simp only [aq,hx,fc,hcut,lQ,go_sem];exact hK _ (congrArg num cX));simp only [aq,hx,fc,hcut,lQ,go_sem];refine BX (TH _ (fun n hn=>rfl) y 207 (fun x=>decide (x.path=y.path)||decide (x.alias=y.alias)) (m.imports.take i) (fun x _=>acW _ (fun n hn=>rfl) y x) (by rw [lg];omega)) ?_;simp only [aq,hx,fc,hcut,lQ,go_sem];refine cC (fun am9=>?_) (fun am9=>?_);(·(have hz:(kH (Di m.path) [] m.imports).2=5:=by rw [hinv];exact wU (Di m.path) hx (by unfold Di;clear lU hK;simp_all) (by decide));(have cX:5=EH m:=by rw [lU,hz]);simp only [aq,hx,fc,hcut,lQ,go_sem];exact hK _ (congrArg num cX));simp only [aq,hx,fc,hcut,lQ,go_sem];refine fh _ (oU (by omega) (by simp only [aq,hx,fc,hcut,lQ,go_sem]) ?_ ?_) <;> simp only [lS,lk,reduceIte,zE];(·exact⟨i+1,rfl,bQ,hinv.trans (H7 (Di m.path) hx (by unfold Di;simp_all))⟩);simp only [Go.Eng.intOf,cg];omega
 have jL:¬ i<m.imports.length:=by simpa using xG
 have hz:(kH (Di m.path) [] m.imports).2=0:=by rw [hinv,eH (by omega)];rfl
 have cX:0=EH m:=by rw [lU,hz]
 simp only [go_sem];exact hK _ (congrArg num cX)
end
section
attribute [local go_sem] ax
theorem BT (hG:ba.g=some 0) (m:Md) (hw:m.wt≤1048576):Cn 48 [sx m] (.dR [num (JF m).1,num (JF m).2]):=by
 refine jq tt_ok [] 32 [.tmp 2,.tmp 3] (fn:=Tryz.f48) Tryz.func48 rfl Tryz.call48 ⟨rfl,rfl,by simp⟩ fun K hK=>?_;have hmw:m.wt=1+m.path.size+aM Im.wt m.imports+aM Dc.wt m.decls:=rfl;have CI:m.decls.length≤1048576:=by have:=ct Dc.wt (fun l=>by unfold Dc.wt;omega) m.decls;omega
 simp only [pP,qB];simp only [go_sem];refine ep (by have h:=WA hG m hw;rw [pP] at h;simp only [qB] at h;exact h) ?_;simp only [go_sem];refine cC (fun lI=>?_) (fun lI=>?_);·(have dy:EH m≠0:=by simpa using lI);(have cX:JF m=(-1,EH m):=by unfold JF;rw [if_pos dy]);simp only [go_sem];exact hK _ (by rw [cX] <;> rfl)
 have he0:EH m=0:=by simpa using lI
 have hcm:JF m=((((kH Dh [] m.decls).1:Nat):Int),(kH Dh [] m.decls).2):=by unfold JF;rw [if_neg (by simp [he0])]
 simp only [go_sem];refine iz tt_ok [] [16] 1 [1,11,14,15] (fun vs=>((m.decls.length:Int)-Go.Eng.intOf (vs.headD .undef)).toNat) (fun vs=>∃ i:Nat,vs=[num i]∧i≤m.decls.length∧kH Dh [] m.decls=mV i (kH Dh (m.decls.take i) (m.decls.drop i))) (by omega) (by simp only [go_sem]) (⟨0,rfl,ck _,yK.symm⟩) fun vs hI Z1 fh=>?_;obtain⟨i,rfl,hi,hinv⟩:=hI;simp only [go_sem];refine cC (fun JS=>?_) (fun JS=>?_);·(have bQ:i<m.decls.length:=by simpa using JS);obtain⟨d,hx⟩:∃ d,m.decls[i]?=some d:=⟨_,au bQ⟩;have lQ:=bN i (by omega);have hdw:=bU Dc.wt hx;have hcut:=CZ m.decls dh 31 (fun _=>rfl) i (by omega);simp only [aq,hx,dh,aD,aP,aw,aC,hcut,lQ,go_sem];refine ga tt_ok cB [pR,pN,pR,pN,pR,pN,pN] 0 kr ?_;simp only [aq,hx,dh,aD,aP,aw,aC,hcut,lQ,go_sem];refine Jn (by have h:=Wz hG d (m.decls.take i) (by omega) (by rw [lg];omega);simp only [cP,dh,aD,aP] at h;exact h) ?_;simp only [aq,hx,dh,aD,aP,aw,aC,hcut,lQ,go_sem];refine cC (fun Kx=>?_) (fun Kx=>?_);(·(have dy:Dh (m.decls.take i) d≠0:=by simpa using Kx);(have cX:JF m=((i:Int),Dh (m.decls.take i) d):=by rw [hcm,hinv,OK Dh hx rfl dy]);simp only [aq,hx,dh,aD,aP,aw,aC,hcut,lQ,go_sem];exact hK _ (by rw [cX] <;> rfl));(have hz:Dh (m.decls.take i) d=0:=by simpa using Kx);simp only [aq,hx,dh,aD,aP,aw,aC,hcut,lQ,go_sem];refine fh _ (oU (by omega) (by simp only [aq,hx,dh,aD,aP,aw,aC,hcut,lQ,go_sem]) ?_ ?_) <;> simp only [lS,lk,reduceIte,zE];(·exact⟨i+1,rfl,bQ,hinv.trans (H7 Dh hx hz)⟩);simp only [Go.Eng.intOf,cg];omega
 have jL:¬ i<m.decls.length:=by simpa using JS
 have cX:JF m=(0,0):=by rw [hcm,hinv,eH (by omega)];rfl
 simp only [go_sem];exact hK _ (by rw [cX] <;> rfl)
end
end
end Go.Proofs.YtfbbfmcggbapoaaGreatDoor
end
