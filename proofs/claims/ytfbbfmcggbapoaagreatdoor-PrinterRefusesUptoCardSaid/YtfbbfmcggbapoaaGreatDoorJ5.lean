import Derived.Test.YtfbbfmcggbapoaaGreatDoorJ4
import Derived.Sort.Walk0
import Derived.Shelf.Strconv.Itoa3
import Derived.Lib.Walk
import Derived.Lib.Small
import Derived.Lib.AppendIntMem
open Array renaming size_replicate→asr,toArray_toList→cE,toList_inj→ahi
open Bool renaming and_eq_true→aL,and_false→aT,and_self→oP,and_true→aO,false_and→aU,false_eq_true→bF,false_or→ba,not_false→aR,not_true→aY,or_false→a6,or_self→bu,or_true→bf,true_and→aP,true_or→bg
open Go.Proofs.Tryz renaming prog→aj
open Int renaming cast_ofNat_Int→dC,le_refl→cf,natCast_nonneg→gJ,toNat_natCast→nK,toNat_one→Ok,toNat_zero→bJ
open List renaming all_append→kK,all_cons→cH,all_eq_true→aZ,all_nil→dS,append_assoc→aA,append_nil→ah,cons_append→ay,drop_drop→arE,drop_eq_getElem_cons→dT,drop_eq_nil_of_le→dI,drop_length→asb,drop_succ_cons→zq,drop_zero→j1,eq_nil_of_length_eq_zero→j8,flatMap_append→pU,flatMap_cons→ae,flatMap_nil→ag,foldl_append→acI,foldl_cons→ew,getElem?_append_left→bA,getElem?_append_right→a8,getElem?_cons_succ→cp,getElem?_cons_zero→aJ,getElem?_eq_getElem→aw,getElem?_eq_some_iff→az,getElem?_map→ak,headD_cons→bh,length_append→ab,length_cons→af,length_drop→dw,length_eq_zero_iff→cj,length_map→au,length_nil→ai,length_take→cQ,length_zipWith→arS,lt_irrefl→arx,lt_trans→arZ,map_cons→bT,map_drop→arY,map_take→arX,mem_cons→cI,mem_cons_of_mem→ct,mem_cons_self→cA,mem_flatMap→iN,mem_iff_getElem?→cb,mem_of_getElem?→aE,mem_of_mem_drop→arw,nil_append→aC,not_mem_nil→iM,replicate_succ→aH,replicate_zero→aI,set_append_right→eH,set_cons_succ→bw,set_cons_zero→bo,tail_cons→yc,take_add_one→bY,take_append_drop→kT,take_left→rq,take_length→al,take_of_length_le→bR,take_succ_cons→gf
open Nat renaming add_comm→Te,add_sub_cancel_left→ee,le_refl→aB,lt_or_ge→bz,not_lt_zero→cR,pos_of_ne_zero→asf,sub_self→dR,zero_add→cr,zero_le→bj
open Option renaming getD_none→arI,isNone_none→abY,map_eq_some_iff→bc
open Option.some renaming inj→mB,injEq→aF
open Std renaming lt_of_le_of_ne→aso
set_option linter.all false
section
namespace Go.Proofs.YtfbbfmcggbapoaaGreatDoor
open Go.Eng
variable [bB]
open Nat renaming reduceAdd → zA, reduceLT → zB, reduceLeDiff → zC, reduceMul → zD, reduceEqDiff → zE, reduceSub → zF
set_option maxHeartbeats 4000000
set_option maxRecDepth 100000
section
structure Lin {α:Type} (lt:α→α→Bool):Prop where
 irrefl:∀ x,lt x x=false
 trans:∀ x y z,lt x y=true→lt y z=true→lt x z=true
 tri:∀ x y,lt x y=false→lt y x=false→x=y
section
variable {α:Type} [DecidableEq α] {lt:α→α→Bool}
def n4 (lt:α→α→Bool):List α→α→List α
 | [],s=>[s]
 | a :: r,s=>if lt a s=true then a :: n4 lt r s else if a=s then a :: r else s :: a :: r
theorem H8 {s:α}:∀ {l:List α} {x:α},x∈n4 lt l s↔x=s∨x∈l
 | [],x=>by simp [n4]
 | a :: r,x=>by
  unfold n4
  split
  ·rw [cI,H8,cI]
   constructor
   ·rintro (h|h|h)
    ·exact .inr (.inl h)
    ·exact .inl h
    exact .inr (.inr h)
   rintro (h|h|h)
   ·exact .inr (.inl h)
   ·exact .inl h
   exact .inr (.inr h)
  split
  ·rename_i h;subst h
   constructor
   ·exact .inr
   rintro (rfl|h)
   ·exact cA ..
   exact h
  simp
theorem Ft {s:α}:∀ {l:List α} {i:Nat},(∀ j<i,∀ b,l[j]?=some b→lt b s=true)→i≤l.length →
  (∀ b,l[i]?=some b→lt b s=false)→n4 lt l s=if l[i]?=some s then l else l.take i++[s]++l.drop i
 | [],i,_,hi,_=>by
  have:i=0:=by simpa using hi
  subst this;simp [n4]
 | a :: r,0,_,_,hb=>by
  have h0:=hb a rfl
  unfold n4
  rw [if_neg (by rw [h0];simp)]
  by_cases he:a=s
  ·subst he;simp
  rw [if_neg he,if_neg (by simpa using he)];simp
 | a :: r,i+1,hj,hi,hb=>by
  have h0:=hj 0 (by omega) a rfl
  have ih:=Ft (l:=r) (i:=i) (fun j hj' b gD=>hj (j+1) (by omega) b (by simpa using gD)) (by simpa using hi) fun b gD=>hb b (by simpa using gD)
  unfold n4
  rw [if_pos h0,ih]
  simp only [cp,gf,zq]
  split
  ·rfl
  rfl
def eT (lt:α→α→Bool) (l m:List α):List α:=m.foldl (n4 lt) l
theorem BI:∀ {m l:List α} {x:α},x∈eT lt l m↔x∈l∨x∈m
 | [],l,x=>by simp [eT]
 | s :: m,l,x=>by
  show x∈eT lt (n4 lt l s) m↔_
  rw [BI,H8,cI]
  constructor
  ·rintro ((h|h)|h)
   ·exact .inr (.inl h)
   ·exact .inl h
   exact .inr (.inr h)
  rintro (h|h|h)
  ·exact .inl (.inr h)
  ·exact .inl (.inl h)
  exact .inr h
mutual
def fg (lt:α→α→Bool) (f:Ty→List α):Ty→List α
 | .mk k m n ts fs=>H9 lt f (Ia lt f (f (.mk k m n ts fs)) ts) fs
def Ia (lt:α→α→Bool) (f:Ty→List α) (out:List α):List Ty→List α
 | []=>out
 | t :: r=>Ia lt f (eT lt out (fg lt f t)) r
def H9 (lt:α→α→Bool) (f:Ty→List α) (out:List α):List Fd→List α
 | []=>out
 | .mk _ t _ :: r=>H9 lt f (eT lt out (fg lt f t)) r
end
theorem BJ (f:Ty→List α):∀ (ts:List Ty) (out:List α),Ia lt f out ts=ts.foldl (fun o p=>eT lt o (fg lt f p)) out
 | [],out=>by simp [Ia]
 | t :: r,out=>by simp [Ia,BJ f r]
theorem BK (f:Ty→List α):∀ (fs:List Fd) (out:List α),H9 lt f out fs=(fs.map Fd.ty).foldl (fun o p=>eT lt o (fg lt f p)) out
 | [],out=>by simp [H9]
 | .mk n t o :: r,out=>by simp [H9,BK f r,Fd.ty]
theorem BM (f:Ty→List α) (t:Ty):fg lt f t=t.parts.foldl (fun o p=>eT lt o (fg lt f p)) (f t):=by obtain⟨k,m,n,ts,fs⟩:=t;rw [fg,BK,BJ];simp only [Ty.parts,Ty.args,Ty.bD,acI]
theorem sX {f:Ty→List α}:∀ {ps:List Ty} {out:List α} {x:α},x∈ps.foldl (fun o p=>eT lt o (fg lt f p)) out↔x∈out∨∃ p∈ps,x∈fg lt f p
 | [],out,x=>by simp
 | p :: r,out,x=>by
  rw [ew,sX,BI]
  simp only [cI,exists_eq_or_imp,or_assoc]
theorem qu {f:Ty→List α} {x:α}:∀ t:Ty,x∈fg lt f t↔∃ u∈t.nodes,x∈f u:=by
 refine Ty.induct fun t ih=>?_;rw [BM,sX,t.er];constructor;·rintro (h|⟨p,hp,h⟩);(·exact⟨t,cA ..,h⟩);obtain⟨u,hu,hx⟩:=(ih p hp).1 h;exact⟨u,ct _ (iN.2 ⟨p,hp,hu⟩),hx⟩
 rintro⟨u,hu,hx⟩;rcases cI.1 hu with rfl|hu
 ·exact .inl hx
 obtain⟨p,hp,hu⟩:=iN.1 hu;exact .inr ⟨p,hp,(ih p hp).2 ⟨u,hu,hx⟩⟩
theorem yQ {s:α}:∀ {l:List α},(n4 lt l s).length≤l.length+1
 | []=>by simp [n4]
 | a :: r=>by
  unfold n4
  split
  ·have:=yQ (s:=s) (l:=r);simp only [af];omega
  split <;> simp
theorem pL:∀ {m l:List α},(eT lt l m).length≤l.length+m.length
 | [],l=>by simp [eT]
 | s :: m,l=>by
  have h1:=pL (m:=m) (l:=n4 lt l s)
  have h2:=yQ (lt:=lt) (s:=s) (l:=l)
  show (eT lt (n4 lt l s) m).length≤_
  rw [af];omega
theorem mc {f:Ty→List α}:∀ {ps:List Ty} {out:List α} , (∀ p∈ps,(fg lt f p).length≤p.size)→(ps.foldl (fun o p=>eT lt o (fg lt f p)) out).length≤out.length+aS Ty.size ps
 | [],out,_=>by simp [aS]
 | p :: r,out,h=>by
  have h1:=mc (ps:=r) (out:=eT lt out (fg lt f p)) fun q hq=>h q (ct _ hq)
  have h2:=pL (lt:=lt) (m:=fg lt f p) (l:=out)
  have h3:=h p (cA ..)
  rw [ew]
  simp only [aS]
  omega
theorem jF {f:Ty→List α} (hf:∀ t,(f t).length≤1):∀ t:Ty,(fg lt f t).length≤t.size:=by refine Ty.induct fun t ih=>?_;rw [BM,t.dB];have:=mc (lt:=lt) (out:=f t) ih;have:=hf t;omega
end
end
section
attribute [local irreducible] runM gx qb dn lL wa Dp
theorem Fu {α:Type} (l:List α) (f:α→V) (size:Nat) (hs:∀ a,(f a).cells.length=size) (i:Nat) (hi:i≤l.length) (mem:List bx):cutAt mem size 0 (some (i:Int)) (.slice (l.map f))=some (.slice ((l.take i).map f)):=by
 unfold cutAt;have h1:gg (l.map f) (0:Int).toNat size=true:=by unfold gg;split;(·rename_i h;rw [ak,bc] at h;obtain⟨t,-,rfl⟩:=h;simp [hs]);rfl
 dsimp only;rw [if_pos ⟨cf _,by simp,by simpa using hi,h1⟩];simp [arX]
theorem oK {α:Type} (l:List α) (f:α→V) (size:Nat) (hs:∀ a,(f a).cells.length=size) (i:Nat) (hi:i≤l.length) (mem:List bx):cutAt mem size (i:Int) none (.slice (l.map f))=some (.slice ((l.drop i).map f)):=by
 unfold cutAt;have h1:gg (l.map f) (i:Int).toNat size=true:=by unfold gg;split;(·rename_i h;rw [ak,bc] at h;obtain⟨t,-,rfl⟩:=h;simp [hs]);rfl
 dsimp only;rw [if_pos ⟨gJ _,by simpa using hi,by simp,h1⟩];congr 2;rw [← arY,nK];refine bR ?_;simp only [arI,au,dw];omega
theorem wS {α:Type} (l:List α) (f:α→V) (size:Nat) (hs:∀ a,(f a).cells.length=size):gg (l.map f) 0 size=true:=by
 unfold gg;split;·rename_i h;rw [ak,bc] at h;obtain⟨t,-,rfl⟩:=h;simp [hs]
 rfl
theorem x2 {α:Type} (l:List α) (i:Nat) (a b:Nat):(l.take i).length+(1+(l.drop i).length)=(l.take i).length+1+(l.drop i).length:=by omega
theorem DO (l:List ByteArray) (s:ByteArray) (hl:l.length≤1048576):Cn 166 [.slice (l.map str),str s] (.slice ((n4 oe l s).map str)):=by
 refine Dq tt_ok (fn:=Tryz.f166) Tryz.func166 rfl Tryz.call166 ?_;simp only [cZ,cO,Tryz.ntmps166,af,ai,zA,zF,aH,aI];refine bK tt_ok 45 [0,0,0,0,2] [] rfl rfl fun K hK=>?_;simp only [au,go_sem,al];refine hK _ _ rfl ?_;simp only [ji,zA,zE];refine bK tt_ok 45 [0,0,0,0,0,2] [] rfl rfl fun K hK=>?_;simp only [au,go_sem,al];refine hK _ _ rfl ?_;simp only [ji,zA,zE];refine we [5] 0 [true,true,false,false,true,true] (fun vs=>∃ i:Nat,vs=[num i]∧i≤l.length∧(∀ j<i,∀ b,l[j]?=some b→oe b s=true)∧∀ b,l[i]?=some b→oe b s=false) ?_ ?_;·refine eA ?_;refine ki [5] [num 0] 0 [true,true,false,false,true,true] (fun vs=>((l.length:Int)-intOf (vs.headD .undef)).toNat) (fun vs=>∃ i:Nat,vs=[num i]∧i≤l.length∧∀ j<i,∀ b,l[j]?=some b→oe b s=true) (by omega) (by simp only [aW,aG,aQ,aK,zB,ef]) (by simp only [aW,aG,aQ,aK,zB,ef]) (by rfl) (⟨0,rfl,bj _,fun j hj=>absurd hj (cR j)⟩) fun vs hI=>?_;obtain⟨i,rfl,hi,jS⟩:=hI;simp only [aW,aG,aQ,aK,zB,eB,bo,bw,ef];refine eS ?_;refine bK tt_ok 45 [0,0,0,0,0,0,1,1,1,1,1,1,1,1,1,1,1,2] [(4,10)] rfl rfl fun K hK=>?_;(try simp only [cZ]);refine fA 5 fun K1 ff=>?_;simp only [au,go_sem,al];refine ff _ ?_;refine tp 10 (by rfl) fun b Ib=>?_;cases b;(·(have gq:∀ b,l[i]?=some b→oe b s=false:=fun b hb=>by have:=(az.1 hb).1;have:=of_decide_eq_false Ib;omega);simp only [au,go_sem,al];refine hK _ _ rfl ?_;simp only [ji,zA,zE];refine tn rfl ?_;refine j5 ?_;refine⟨[_],?_,0,[true,true,false,false,true,true],by omega,by simp only [aW,aG,aQ,aK,zB,ef],by simp only [aW,aG,aQ,aK,zB,ef],by simp only [aW,aG,aQ,aK,zB,eB,bo,bw,ef];rfl⟩;exact⟨i,rfl,hi,jS,gq⟩);(have bL:i<l.length:=by have:=of_decide_eq_true Ib;omega);obtain⟨x,hx⟩:∃ x,l[i]?=some x:=⟨_,aw bL⟩;have hw:=bm i (by omega);simp only [ak,hx,hw,au,go_sem,al];refine hK _ _ rfl ?_;simp only [ji,zA,zE];refine oy rfl (fun nD=>?_) (fun nD=>?_);(·(have n7:oe x s=true:=by simpa [oe] using nD);refine gO ?_;show Go.Eng.Ex _ _ _ _ _ _;refine eA ?_;refine cM tt_ok 45 (0::0::0::0::0::2::(rp 12 0 [2,2])) [] kr rfl rfl fun K hK=>?_;simp only [ak,hx,hw,au,go_sem,al];refine hK _ _ rfl ?_;simp only [ji,zA,zE];refine⟨[_],?_,?_,0,[true,true,false,false,true,true],by omega,by simp only [aW,aG,aQ,aK,zB,ef],by simp only [aW,aG,aQ,aK,zB,ef],by simp only [aW,aG,aQ,aK,zB,eB,bo,bw,ef];rfl⟩;(·refine⟨i+1,rfl,bL,fun j hj b hb=>?_⟩;(rcases bz j i with h|h);(·exact jS j h b hb);(obtain rfl:j=i:=by omega);rw [hx] at hb;cases hb;exact n7);simp only [intOf,bh];omega);(have gq:∀ b,l[i]?=some b→oe b s=false:=fun b hb=>by rw [hx] at hb;cases hb;simpa [oe] using nD);refine j5 ?_;refine⟨[_],?_,0,[true,true,false,false,true,true],by omega,by simp only [aW,aG,aQ,aK,zB,ef],by simp only [aW,aG,aQ,aK,zB,ef],by simp only [aW,aG,aQ,aK,zB,eB,bo,bw,ef];rfl⟩;exact⟨i,rfl,hi,jS,gq⟩
 intro vs hJ;obtain⟨i,rfl,hi,jS,gq⟩:=hJ;have Fv:=Ft jS hi gq;simp only [aW,aG,aQ,aK,zB,eB,bo,bw,ef];refine eS ?_;refine bK tt_ok 45 (rp 20 0 (rp 11 1 [2])) [(4,24)] rfl rfl fun K hK=>?_;try simp only [cZ]
 refine fA 5 fun K1 ff=>?_;simp only [au,go_sem,al];refine ff _ ?_;refine tp 24 (by rfl) fun b Ic=>?_;cases b;·(have OK:¬ l[i]?=some s:=fun h=>by have:=(az.1 h).1;have:=of_decide_eq_false Ic;omega);(have cg:(V.slice (((l.take i)++[s]++(l.drop i)).map str)) = .slice ((n4 oe l s).map str):=by rw [Fv,if_neg OK]);simp only [au,go_sem,al];refine hK _ _ rfl ?_;simp only [ji,zA,zE];refine tn rfl ?_;refine gO ?_;show Go.Eng.Ex _ _ _ _ _ _;have Cw:=fun mem=>Fu l str 1 (fun _=>rfl) i hi mem;have xl:=fun mem=>oK l str 1 (fun _=>rfl) i hi mem;have CB:=fun (k:List ByteArray)=>wS k str 1 (fun _=>rfl);have C7:gg [V.sc (.string s)] 0 1=true:=rfl;(have mN:(l.take i).length≤34359738368:=by rw [cQ];omega);(have rJ:(l.take i).length+1≤34359738368:=by rw [cQ];omega);(have u2:(l.take i).length+1+(l.drop i).length≤34359738368:=by rw [cQ,dw];omega);refine mK tt_ok cu 45 [0,0,0,0,2,0,0,0,0,0,0,0,0,0,0,0,0,0,0,0,0,0,0,0,0,0,0,0,0,0,0,0,0,1,1,1,1,1,1,1,1,1,1,1,1] kr [⟨.a,0,[],[],[]⟩,pN,pN,⟨.r,0,[0],[1,2],[]⟩,⟨.w,1,[],[0,1,2,3],[]⟩,pN,mu [5],⟨.w,2,[],[0,1,2,3,4,5,6],[]⟩,pN,pN,mu [8,9],⟨.w,3,[],[0,1,2,3,4,5,6,7,8,9,10],[]⟩,mu [0,1,2,3,4,5,6,7,8,9,10,11]] 4 kr fun K hK=>?_;(try simp only [cZ,aI,aH]);refine cV 6 (by simp) (by simp) fun K1 ff=>?_;simp only [Cw,xl,CB,C7,ab,af,ai,cr,mN,rJ,u2,mN,au,go_sem,al,List.replicate];refine ff _ ?_;refine cV 6 (by simp) (by simp) fun K1 ff=>?_;simp only [Cw,xl,CB,C7,ab,af,ai,cr,mN,rJ,u2,mN,au,go_sem,al,List.replicate];refine ff _ ?_;simp only [Cw,xl,CB,C7,ab,af,ai,cr,mN,rJ,u2,mN,au,go_sem,al,List.replicate];refine hK _ _ rfl ?_;simp only [ji,zA,zE];refine lB ?_;first|exact⟨.inl rfl,_,cg,rfl⟩|(refine⟨.inl rfl,_,rfl,?_⟩;rw [← cg];simp [nU,nT,pG,Tryz.f166,CA,ke,ej,x2];exact⟨by omega,bR (by simp;omega)⟩)
 have bL:i<l.length:=by have:=of_decide_eq_true Ic;omega
 obtain⟨x,hx⟩:∃ x,l[i]?=some x:=⟨_,aw bL⟩;simp only [ak,hx,au,go_sem,al];refine hK _ _ rfl ?_;simp only [ji,zA,zE];refine oy rfl (fun pK=>?_) (fun pK=>?_);·(have n7:x=s:=by have h:=pK;rw [dh] at h;simpa using h);(have cg:V.slice (l.map str) = .slice ((n4 oe l s).map str):=by rw [Fv,if_pos (by rw [hx,n7])]);refine bK tt_ok 45 (0::0::0::0::2::(rp 27 0 [1])) [] rfl rfl fun K hK=>?_;simp only [ak,hx,au,go_sem,al];refine hK _ _ rfl ?_;simp only [ji,zA,zE];refine lB ?_;first|exact⟨.inl rfl,_,cg,rfl⟩|(refine⟨.inl rfl,_,rfl,?_⟩;rw [← cg];simp [nU,nT,pG,Tryz.f166,CA,ke,ej,x2];exact⟨by omega,bR (by simp;omega)⟩)
 have n7:¬ x=s:=by have h:=pK;rw [dh] at h;simpa using h
 have OK:¬ l[i]?=some s:=by rw [hx];exact fun e=>n7 (mB e)
 have cg:(V.slice (((l.take i)++[s]++(l.drop i)).map str)) = .slice ((n4 oe l s).map str):=by rw [Fv,if_neg OK]
 refine gO ?_;show Go.Eng.Ex _ _ _ _ _ _;have Cw:=fun mem=>Fu l str 1 (fun _=>rfl) i hi mem;have xl:=fun mem=>oK l str 1 (fun _=>rfl) i hi mem;have CB:=fun (k:List ByteArray)=>wS k str 1 (fun _=>rfl);have C7:gg [V.sc (.string s)] 0 1=true:=rfl;have mN:(l.take i).length≤34359738368:=by rw [cQ];omega
 have rJ:(l.take i).length+1≤34359738368:=by rw [cQ];omega
 have u2:(l.take i).length+1+(l.drop i).length≤34359738368:=by rw [cQ,dw];omega
 refine mK tt_ok cu 45 [0,0,0,0,2,0,0,0,0,0,0,0,0,0,0,0,0,0,0,0,0,0,0,0,0,0,0,0,0,0,0,0,0,1,1,1,1,1,1,1,1,1,1,1,1] kr [⟨.a,0,[],[],[]⟩,pN,pN,⟨.r,0,[0],[1,2],[]⟩,⟨.w,1,[],[0,1,2,3],[]⟩,pN,mu [5],⟨.w,2,[],[0,1,2,3,4,5,6],[]⟩,pN,pN,mu [8,9],⟨.w,3,[],[0,1,2,3,4,5,6,7,8,9,10],[]⟩,mu [0,1,2,3,4,5,6,7,8,9,10,11]] 4 kr fun K hK=>?_;try simp only [cZ,aI,aH]
 refine cV 6 (by simp) (by simp) fun K1 ff=>?_;simp only [ak,hx,Cw,xl,CB,C7,ab,af,ai,cr,mN,rJ,u2,mN,au,go_sem,al,List.replicate];refine ff _ ?_;refine cV 6 (by simp) (by simp) fun K1 ff=>?_;simp only [ak,hx,Cw,xl,CB,C7,ab,af,ai,cr,mN,rJ,u2,mN,au,go_sem,al,List.replicate];refine ff _ ?_;simp only [ak,hx,Cw,xl,CB,C7,ab,af,ai,cr,mN,rJ,u2,mN,au,go_sem,al,List.replicate];refine hK _ _ rfl ?_;simp only [ji,zA,zE];refine lB ?_;first|exact⟨.inl rfl,_,cg,rfl⟩|(refine⟨.inl rfl,_,rfl,?_⟩;rw [← cg];simp [nU,nT,pG,Tryz.f166,CA,ke,ej,x2];exact⟨by omega,bR (by simp;omega)⟩)
end
section
def WX (x:Ex):Prop:=∀ v O,O.length+x.pr.length≤34359738368→∃ r m,WR O x.pr [] r m∧bI aj 45 [.ptr 0 0,bH x] (bM 129 v O []) r m
theorem wex {x:Ex} (h:WX x) {v:Nat} {O:List UInt8} (hO:O.length+x.pr.length≤34359738368) (l:List bx):∃ r m,WR O x.pr l r m∧bI aj 45 [.ptr 0 0,.agg [num x.kind,str x.mod,str x.name,str x.text,num x.num,.slice (x.types.map br),.slice (x.labels.map b7),.slice (x.kids.map bH)]] (.n5 129 1 v O.length :: .oW 5 v O :: l) r m:=by have h:=h v O hO;simp only [bk,aX,aV,bN] at h;exact tB h (by simp [aG,aQ]) _
theorem aeN (x:Ex):Cn 198 [.agg [num x.kind,str x.mod,str x.name,str x.text,num x.num,.slice (x.types.map br),.slice (x.labels.map b7),.slice (x.kids.map bH)]] (num x.lvl):=by have h:=Rc x;simp only [bk,aX,aV,bN] at h;exact h
def jk:List (List UInt8)→List ByteArray→List UInt8
 | _,[]=>[]
 | P,s :: r=>if s=⟨#[]⟩ then P.headD []++jk P.tail r else bt s++jk P r
def oT:List ByteArray→Nat
 | []=>0
 | s :: r=>if s=⟨#[]⟩ then oT r+1 else oT r
theorem ko (P:List (List UInt8)) (r:List ByteArray):jk P (⟨#[]⟩ :: r)=P.headD []++jk P.tail r:=by rw [jk,if_pos rfl]
theorem eU {P:List (List UInt8)} {s:ByteArray} {r:List ByteArray} (h:¬ s=⟨#[]⟩):jk P (s :: r)=bt s++jk P r:=by rw [jk,if_neg h]
theorem kp (r:List ByteArray):oT (⟨#[]⟩ :: r)=oT r+1:=by rw [oT,if_pos rfl]
theorem eV {s:ByteArray} {r:List ByteArray} (h:¬ s=⟨#[]⟩):oT (s :: r)=oT r:=by rw [oT,if_neg h]
theorem Rg {s:ByteArray} (h:¬ s=⟨#[]⟩):0<s.size:=asf fun e=>h (ZZ e)
theorem Fw {α:Type} {l:List α} {i:Nat} {x:α} (h:l[i]?=some x):l.drop i=x :: l.drop (i+1):=by obtain⟨h1,h2⟩:=az.1 h;rw [dT h1,h2]
section
attribute [local go_sem] au bM
theorem sY (x:Ex) (hX:WX x) (least:Int) (v:Nat) (O:List UInt8) (hO:O.length+(uY x.lvl least x.pr).length≤34359738368):∃ r_ m_,(WR O (uY x.lvl least x.pr) []) r_ m_∧bI aj 115 [.ptr 0 0,.agg [num x.kind,str x.mod,str x.name,str x.text,num x.num,.slice (x.types.map br),.slice (x.labels.map b7),.slice (x.kids.map bH)],num least] (bM 129 v O []) r_ m_:=by
 refine uP tt_ok [] 22 [] (2) (aB _) (fn:=Tryz.f115) Tryz.func115 rfl Tryz.call115 ⟨rfl,rfl,by simp⟩ fun K hK=>?_;simp only [bM];simp only [go_sem];refine dK (aeN x) ?_;simp only [go_sem];refine ca (fun iI=>?_) (fun iI=>?_);·(have hle:least≤x.lvl:=by simpa using iI);(have hp:uY x.lvl least x.pr=x.pr:=by unfold uY;rw [if_pos hle]);rw [hp] at hO;simp only [go_sem];refine cW (wex hX (by omega) _) ?_;rintro _ _ ⟨rfl,O2,v2,sU,rfl⟩;simp only [go_sem];exact hK _ _ ⟨rfl,_,_,by rw [hp];first|exact kM|(simp only [*,ae,ag,ah,aN,aA,ay,aC]),rfl⟩
 have hle:¬ least≤x.lvl:=by simpa using iI
 have hp:uY x.lvl least x.pr=[40]++x.pr++[41]:=by unfold uY;rw [if_neg hle]
 have gC:=hO;rw [hp] at gC;simp only [ae,ag,ah,aN,ab,af,ai] at gC;simp only [go_sem];refine cW (lU (cL [⟨#[40]⟩] (by simp) (jh (by decide) lX) _ _ (by simp only [ae,ag,ah,aN,ab,af,ai];omega)) _ 1 rfl rfl (fun _=>rfl) rfl) ?_;rintro _ _ ⟨rfl,O3,v3,tE,rfl⟩;have CM:=congrArg List.length tE;simp only [ae,ag,ah,aN,ab,af,ai] at CM;simp only [go_sem];refine cW (wex hX (by omega) _) ?_;rintro _ _ ⟨rfl,O4,v4,CN,rfl⟩;have H5:=congrArg List.length CN;simp only [ae,ag,ah,aN,ab,af,ai] at H5;simp only [go_sem];refine cW (lU (cL [⟨#[41]⟩] (by simp) (jh (by decide) lX) _ _ (by simp only [ae,ag,ah,aN,ab,af,ai];omega)) _ 2 rfl rfl (fun _=>rfl) rfl) ?_;rintro _ _ ⟨rfl,O5,v5,Q9,rfl⟩;have Vf:=congrArg List.length Q9;simp only [ae,ag,ah,aN,ab,af,ai] at Vf;simp only [go_sem];exact hK _ _ ⟨rfl,_,_,by rw [hp];first|exact kM|(simp only [*,ae,ag,ah,aN,aA,ay,aC]),rfl⟩
theorem lO (ks:List Ex) (AP:ks.length≤1048576) (hW:∀ k∈ks,WX k) (l:List ByteArray) (hl:l.length≤1048576) (hc:oT l≤ks.length) (v:Nat) (O:List UInt8) (hO:O.length+(jk (ks.map Ex.pr) l).length≤34359738368):∃ r_ m_,(WR O (jk (ks.map Ex.pr) l) [.rows 0 1 (l.map str)]) r_ m_∧bI aj 116 [.ptr 0 0,.slice (ks.map bH),.ms 2 0 0 l.length] (bM 129 v O [.rows 0 1 (l.map str)]) r_ m_:=by
 refine uP tt_ok [] 28 [] (3) (aB _) (fn:=Tryz.f116) Tryz.func116 rfl Tryz.call116 ⟨rfl,rfl,by simp⟩ fun K hK=>?_;simp only [bM];simp only [go_sem];refine mv tt_ok [] (fun a:Nat×Nat×List UInt8×List Ex=>[(0,.ptr 0 0),(1,.slice (a.2.2.2.map bH)),(8,.ms 2 0 0 l.length),(9,num l.length),(10,num a.1)]) (fun a:Nat×Nat×List UInt8×List Ex=>bM 129 a.2.1 a.2.2.1 [.rows 0 1 (l.map str)]) (fun a=>l.length-a.1) (fun a=>a.1≤l.length∧a.2.2.1++jk (a.2.2.2.map Ex.pr) (l.drop a.1)=O++jk (ks.map Ex.pr) l∧(∀ k∈a.2.2.2,WX k)∧oT (l.drop a.1)≤a.2.2.2.length∧a.2.2.2.length≤1048576) ((0,v,O,ks)) 3 (eK (by omega) (by simp only [dC,go_sem] <;> rfl)) (⟨bj _,by rw [j1],hW,by rw [j1];exact hc,AP⟩) ?_;rintro⟨i,va,Oa,K⟩ ⟨hi,mW,NN,Fx,Rh⟩;try dsimp only at hi mW NN Fx Rh
 try dsimp only [bM]
 intro Z1 dW;simp only [go_sem];refine ca (fun j0=>?_) (fun j0=>?_);·(have bL:i<l.length:=by simpa using j0);have hw:=bm i (by omega);obtain⟨s,NO⟩:∃ x,l[i]?=some x:=⟨_,aw bL⟩;(have dH:(i:Int)<(l.length:Int):=by omega);rw [Fw NO] at mW Fx;have uB:=congrArg List.length mW;rw [ab,ab] at uB;simp only [hw,ak,NO,dH,dh,go_sem];refine ca (fun kR=>?_) (fun kR=>?_);(·have NP:s=⟨#[]⟩:=of_decide_eq_true kR;subst NP;rw [ko] at mW uB;rw [kp] at Fx;(obtain⟨k,K2,rfl⟩:∃ k K2,K=k :: K2:=by cases K with|nil=>simp at Fx|cons k K2=>exact⟨k,K2,rfl⟩);have hWk:=NN k (cA ..);have Xa:((k :: K2).map Ex.pr).headD []=k.pr:=rfl;have PH:((k :: K2).map Ex.pr).tail=K2.map Ex.pr:=rfl;rw [Xa,PH] at mW uB;rw [ab] at uB;(have hcut:∀ mem,cutAt mem 8 1 none (.slice (.agg [num k.kind,str k.mod,str k.name,str k.text,num k.num,.slice (k.types.map br),.slice (k.labels.map b7),.slice (k.kids.map bH)] :: K2.map bH))=some (.slice (K2.map bH)):=fun mem=>by have h:=oK (k :: K2) bH 8 xN 1 (by simp) mem;simp only [bT,bk,aX,aV,bN] at h;exact h);simp only [hw,ak,NO,dH,dh,hcut,bT,aJ,cf,bJ,bk,aX,aV,bN,go_sem];refine cW (wex hWk (by omega) _) ?_;rintro _ _ ⟨rfl,Oy,vy,jE,rfl⟩;simp only [hw,ak,NO,dH,dh,hcut,bT,aJ,cf,bJ,bk,aX,aV,bN,go_sem];refine dW _ ⟨(i+1,vy,Oy,K2),?_,?_,eK (by omega) (by simp only [hw,go_sem])⟩;(·exact⟨bL,by rw [← mW,jE];simp only [cZ,ae,ag,ah,aN,aA],by first|exact fun k hk=>NN k (ct _ hk)|exact NN,by first|exact Fx|(simp only [af] at Fx;dsimp only;omega),by first|exact Rh|(simp only [af] at Rh;dsimp only;omega)⟩);dsimp only;omega);have NP:¬ s=⟨#[]⟩:=of_decide_eq_false kR;rw [eU NP] at mW uB;rw [eV NP] at Fx;obtain⟨K2,rfl⟩:∃ y,y=K:=⟨_,rfl⟩;rw [ab] at uB;simp only [hw,ak,NO,dH,dh,go_sem];refine cW (lU (cL [s] (by simp) (jh (Rg NP) lX) _ _ (by simp only [ae,ag,ah,aN,ab,af,ai];omega)) _ 1 rfl rfl (fun _=>rfl) rfl) ?_;rintro _ _ ⟨rfl,Oy,vy,jE,rfl⟩;simp only [hw,ak,NO,dH,dh,go_sem];refine dW _ ⟨(i+1,vy,Oy,K2),?_,?_,eK (by omega) (by simp only [hw,go_sem])⟩;(·exact⟨bL,by rw [← mW,jE];simp only [cZ,ae,ag,ah,aN,aA],by first|exact fun k hk=>NN k (ct _ hk)|exact NN,by first|exact Fx|(simp only [af] at Fx;dsimp only;omega),by first|exact Rh|(simp only [af] at Rh;dsimp only;omega)⟩);dsimp only;omega
 have gq:¬ i<l.length:=by simpa using j0
 have lh:i=l.length:=by omega
 rw [lh,asb] at mW;have hOf:Oa=O++jk (ks.map Ex.pr) l:=by rw [← mW];simp [jk]
 simp only [go_sem];exact hK _ _ ⟨rfl,_,_,hOf,rfl⟩
theorem BN (ks:List Ex) (AP:ks.length≤1048576) (hW:∀ k∈ks,WX k) (l:List ByteArray) (hl:l.length≤1048576) (hc:oT l≤ks.length) (v:Nat) (O:List UInt8) (hO:O.length+(jk (ks.map Ex.pr) l).length≤34359738368):∃ r_ m_,(WR O (jk (ks.map Ex.pr) l) []) r_ m_∧bI aj 116 [.ptr 0 0,.slice (ks.map bH),.slice (l.map str)] (bM 129 v O []) r_ m_:=by
 refine uP tt_ok [] 28 [] (2) (aB _) (fn:=Tryz.f116) Tryz.func116 rfl Tryz.call116 ⟨rfl,rfl,by simp⟩ fun K hK=>?_;simp only [bM];simp only [go_sem];refine mv tt_ok [] (fun a:Nat×Nat×List UInt8×List Ex=>[(0,.ptr 0 0),(1,.slice (a.2.2.2.map bH)),(8,.slice (l.map str)),(9,num l.length),(10,num a.1)]) (fun a:Nat×Nat×List UInt8×List Ex=>bM 129 a.2.1 a.2.2.1 []) (fun a=>l.length-a.1) (fun a=>a.1≤l.length∧a.2.2.1++jk (a.2.2.2.map Ex.pr) (l.drop a.1)=O++jk (ks.map Ex.pr) l∧(∀ k∈a.2.2.2,WX k)∧oT (l.drop a.1)≤a.2.2.2.length∧a.2.2.2.length≤1048576) ((0,v,O,ks)) 2 (eK (by omega) (by simp only [dC,go_sem] <;> rfl)) (⟨bj _,by rw [j1],hW,by rw [j1];exact hc,AP⟩) ?_;rintro⟨i,va,Oa,K⟩ ⟨hi,mW,NN,Fx,Rh⟩;try dsimp only at hi mW NN Fx Rh
 try dsimp only [bM]
 intro Z1 dW;simp only [go_sem];refine ca (fun j0=>?_) (fun j0=>?_);·(have bL:i<l.length:=by simpa using j0);have hw:=bm i (by omega);obtain⟨s,NO⟩:∃ x,l[i]?=some x:=⟨_,aw bL⟩;(have dH:(i:Int)<(l.length:Int):=by omega);rw [Fw NO] at mW Fx;have uB:=congrArg List.length mW;rw [ab,ab] at uB;simp only [hw,ak,NO,dH,dh,go_sem];refine ca (fun kR=>?_) (fun kR=>?_);(·have NP:s=⟨#[]⟩:=of_decide_eq_true kR;subst NP;rw [ko] at mW uB;rw [kp] at Fx;(obtain⟨k,K2,rfl⟩:∃ k K2,K=k :: K2:=by cases K with|nil=>simp at Fx|cons k K2=>exact⟨k,K2,rfl⟩);have hWk:=NN k (cA ..);have Xa:((k :: K2).map Ex.pr).headD []=k.pr:=rfl;have PH:((k :: K2).map Ex.pr).tail=K2.map Ex.pr:=rfl;rw [Xa,PH] at mW uB;rw [ab] at uB;(have hcut:∀ mem,cutAt mem 8 1 none (.slice (.agg [num k.kind,str k.mod,str k.name,str k.text,num k.num,.slice (k.types.map br),.slice (k.labels.map b7),.slice (k.kids.map bH)] :: K2.map bH))=some (.slice (K2.map bH)):=fun mem=>by have h:=oK (k :: K2) bH 8 xN 1 (by simp) mem;simp only [bT,bk,aX,aV,bN] at h;exact h);simp only [hw,ak,NO,dH,dh,hcut,bT,aJ,cf,bJ,bk,aX,aV,bN,go_sem];refine cW (wex hWk (by omega) _) ?_;rintro _ _ ⟨rfl,Oy,vy,jE,rfl⟩;simp only [hw,ak,NO,dH,dh,hcut,bT,aJ,cf,bJ,bk,aX,aV,bN,go_sem];refine dW _ ⟨(i+1,vy,Oy,K2),?_,?_,eK (by omega) (by simp only [hw,go_sem])⟩;(·exact⟨bL,by rw [← mW,jE];simp only [cZ,ae,ag,ah,aN,aA],by first|exact fun k hk=>NN k (ct _ hk)|exact NN,by first|exact Fx|(simp only [af] at Fx;dsimp only;omega),by first|exact Rh|(simp only [af] at Rh;dsimp only;omega)⟩);dsimp only;omega);have NP:¬ s=⟨#[]⟩:=of_decide_eq_false kR;rw [eU NP] at mW uB;rw [eV NP] at Fx;obtain⟨K2,rfl⟩:∃ y,y=K:=⟨_,rfl⟩;rw [ab] at uB;simp only [hw,ak,NO,dH,dh,go_sem];refine cW (lU (cL [s] (by simp) (jh (Rg NP) lX) _ _ (by simp only [ae,ag,ah,aN,ab,af,ai];omega)) _ 0 rfl rfl (fun _=>rfl) rfl) ?_;rintro _ _ ⟨rfl,Oy,vy,jE,rfl⟩;simp only [hw,ak,NO,dH,dh,go_sem];refine dW _ ⟨(i+1,vy,Oy,K2),?_,?_,eK (by omega) (by simp only [hw,go_sem])⟩;(·exact⟨bL,by rw [← mW,jE];simp only [cZ,ae,ag,ah,aN,aA],by first|exact fun k hk=>NN k (ct _ hk)|exact NN,by first|exact Fx|(simp only [af] at Fx;dsimp only;omega),by first|exact Rh|(simp only [af] at Rh;dsimp only;omega)⟩);dsimp only;omega
 have gq:¬ i<l.length:=by simpa using j0
 have lh:i=l.length:=by omega
 rw [lh,asb] at mW;have hOf:Oa=O++jk (ks.map Ex.pr) l:=by rw [← mW];simp [jk]
 simp only [go_sem];exact hK _ _ ⟨rfl,_,_,hOf,rfl⟩
end
end
section
theorem Xj {ls:List Lb} {P:List (List UInt8)} {g:Lb→List UInt8→List UInt8} {i:Nat} {x:List UInt8} (h:(List.zipWith g ls P)[i]?=some x):∃ l p,ls[i]?=some l∧P[i]?=some p∧x=g l p:=by rw [List.getElem?_zipWith] at h;cases h1:ls[i]? with|none=>rw [h1] at h;cases h|some l =>cases h2:P[i]? with|none=>rw [h1,h2] at h;cases h|some p=>rw [h1,h2] at h;cases h;exact⟨l,p,rfl,rfl,rfl⟩
theorem Ri {ks:List Ex} {i:Nat} {p:List UInt8} (h:(ks.map Ex.pr)[i]?=some p):∃ k,ks[i]?=some k∧p=k.pr:=by rw [ak,bc] at h;obtain⟨k,hk,rfl⟩:=h;exact⟨k,hk,rfl⟩
theorem wT {ks:List Ex} {i:Nat} {k:Ex} (h:ks[i]?=some k):((ks.drop i).map Ex.pr).headD []=k.pr:=by rw [Fw h];rfl
theorem L2 (ks:List Ex) (i:Nat) (hi:i≤ks.length) (mem:List bx):cutAt mem 8 (i:Int) none (.slice (ks.map bH))=some (.slice ((ks.drop i).map bH)):=oK ks bH 8 xN i hi mem
section
attribute [local go_sem] au ak bM b7 ax aV bG ay aC
theorem Kl (ls:List Lb) (ks:List Ex) (Vk:ls.length≤1048576) (AP:ks.length≤1048576) (hW:∀ k∈ks,WX k) (i:Nat) (a:Lb) (k:Ex) (zd:ls[i]?=some a) (oU:ks[i]?=some k) (hn:0<a.name.size) (v:Nat) (O:List UInt8) (hO:O.length+(bt a.name++[58,32]++k.pr).length≤34359738368):∃ r_ m_,(WR O (bt a.name++[58,32]++k.pr) [.box [.ptr 0 0],.box [.slice (ls.map b7)],.box [.slice (ks.map bH)]]) r_ m_∧bI aj 197 [num i,.ptr 2 0,.ptr 4 0,.ptr 3 0] (bM 129 v O [.box [.ptr 0 0],.box [.slice (ls.map b7)],.box [.slice (ks.map bH)]]) r_ m_:=by
 refine uP tt_ok [] 16 [] (5) (aB _) (fn:=Tryz.f197) Tryz.func197 rfl Tryz.call197 ⟨rfl,rfl,by simp⟩ fun K hK=>?_;simp only [bM];have bL:=(az.1 zd).1;have dH:(i:Int)<(ls.length:Int):=by omega
 have hik:=(az.1 oU).1;have hcut:=L2 ks i (by omega);have gC:=hO;simp only [ae,ag,ah,aN,ab,af,ai] at gC;have dL:¬ a.name=⟨#[]⟩:=by intro e;rw [e] at hn;exact absurd hn (by decide)
 have C3:(ks.drop i).length=ks.length-i:=dw;have tF:jk ((ks.drop i).map Ex.pr) [a.name,⟨#[58,32]⟩,⟨#[]⟩]=bt a.name++[58,32]++k.pr:=by rw [eU dL,eU (by decide),ko,jk];rw [wT oU];simp only [cZ,ae,ag,ah,aN,aA]
 simp only [zd,dH,hcut,go_sem];refine fL tt_ok cu [pR,pR,pN,jO [1,2],pR,pN,jO [4,5],mu [4,5,6],jO [4,5,6,7],mu [4,5,6,7,8],⟨.z,0,[],[0,1,2,3,4,5,6,7,8,9],[]⟩] 0 kr ?_;simp only [zd,dH,hcut,go_sem];refine xG (tB (BN (ks.drop i) (by omega) (fun k hk=>hW k (arw hk)) [a.name,⟨#[58,32]⟩,⟨#[]⟩] (by simp) (by rw [eV dL,eV (by decide),kp,oT];omega) _ _ (by rw [tF];simp only [ae,ag,ah,aN,ab,af,ai];omega)) (by simp [aG,aQ]) _) ?_;rintro _ _ ⟨rfl,O1,v1,kM,rfl⟩;rw [tF] at kM;have om:=congrArg List.length kM;simp only [ae,ag,ah,aN,ab,af,ai] at om;simp only [zd,dH,hcut,go_sem];exact hK _ _ ⟨rfl,_,_,kM,rfl⟩
end
section
attribute [local go_sem] au ak bM bk aX aV bN
theorem Rj (x:Ex) (AP:x.kids.length≤1048576) (i:Nat) (k:Ex) (zd:x.kids[i]?=some k) (hX:WX k) (v:Nat) (O:List UInt8) (hO:O.length+k.pr.length≤34359738368):∃ r_ m_,(WR O k.pr [.box [.ptr 0 0],.box [num x.kind,str x.mod,str x.name,str x.text,num x.num,.slice (x.types.map br),.slice (x.labels.map b7),.slice (x.kids.map bH)]]) r_ m_∧bI aj 119 [num i,.ptr 2 0,.ptr 3 0] (bM 129 v O [.box [.ptr 0 0],.box [num x.kind,str x.mod,str x.name,str x.text,num x.num,.slice (x.types.map br),.slice (x.labels.map b7),.slice (x.kids.map bH)]]) r_ m_:=by
 refine uP tt_ok [] 11 [] (4) (aB _) (fn:=Tryz.f119) Tryz.func119 rfl Tryz.call119 ⟨rfl,rfl,by simp⟩ fun K hK=>?_;simp only [bM];have bL:=(az.1 zd).1;have dH:(i:Int)<(x.kids.length:Int):=by omega
 simp only [zd,dH,go_sem];refine fL tt_ok cu [pR,pN,jO [1],pN,jO [1,2,3],jO [1,2,3,4],⟨.z,0,[],[0,1,2,3,4,5],[]⟩] 0 kr ?_;simp only [zd,dH,go_sem];refine xG (wex hX (by omega) _) ?_;rintro _ _ ⟨rfl,O1,v1,kM,rfl⟩;simp only [zd,dH,go_sem];exact hK _ _ ⟨rfl,_,_,kM,rfl⟩
end
section
attribute [local go_sem] au ak bM b7 ax aV bG ay aC
theorem Vl (x:Ex) (Vk:x.labels.length≤1048576) (AP:x.kids.length≤1048576) (hW:∀ k∈x.kids,WX k) (i:Nat) (a:Lb) (k:Ex) (zd:x.labels[i]?=some a) (oU:x.kids[i+1]?=some k) (hn:0<a.name.size) (X7:0<a.var.size) (v:Nat) (O:List UInt8) (hO:O.length+(bt a.name++[32]++bt a.var++[32,61,62,32]++k.pr).length≤34359738368):∃ r_ m_,(WR O (bt a.name++[32]++bt a.var++[32,61,62,32]++k.pr) [.box [.ptr 0 0],.box [num x.kind,str x.mod,str x.name,str x.text,num x.num,.slice (x.types.map br),.slice (x.labels.map b7),.slice (x.kids.map bH)]]) r_ m_∧bI aj 201 [num i,.ptr 2 0,.ptr 3 0] (bM 129 v O [.box [.ptr 0 0],.box [num x.kind,str x.mod,str x.name,str x.text,num x.num,.slice (x.types.map br),.slice (x.labels.map b7),.slice (x.kids.map bH)]]) r_ m_:=by
 refine uP tt_ok [] 24 [] (4) (aB _) (fn:=Tryz.f201) Tryz.func201 rfl Tryz.call201 ⟨rfl,rfl,by simp⟩ fun K hK=>?_;simp only [bM];have bL:=(az.1 zd).1;have dH:(i:Int)<(x.labels.length:Int):=by omega
 have hik:=(az.1 oU).1;have hw:=bm i (by omega);have hcut:=L2 x.kids (i+1) (by omega);have gC:=hO;simp only [ae,ag,ah,aN,ab,af,ai] at gC;have dL:¬ a.name=⟨#[]⟩:=by intro e;rw [e] at hn;exact absurd hn (by decide)
 have hnv:¬ a.var=⟨#[]⟩:=by intro e;rw [e] at X7;exact absurd X7 (by decide)
 have C3:(x.kids.drop (i+1)).length=x.kids.length-(i+1):=dw;have tF:jk ((x.kids.drop (i+1)).map Ex.pr) [a.name,⟨#[32]⟩,a.var,⟨#[32,61,62,32]⟩,⟨#[]⟩]=bt a.name++[32]++bt a.var++[32,61,62,32]++k.pr:=by rw [eU dL,eU (by decide),eU hnv,eU (by decide),ko,jk];rw [wT oU];simp only [cZ,ae,ag,ah,aN,aA]
 simp only [zd,dH,hw,hcut,go_sem];refine fL tt_ok cu [pR,pN,jO [1],pN,mu [3],jO [1,2,3,4],pN,jO [6],pN,jO [6,7,8],mu [6,7,8,9],jO [6,7,8,9,10],pN,jO [12],pN,jO [12,13,14],mu [12,13,14,15],jO [12,13,14,15,16],mu [6,7,8,9,10,11,12,13,14,15,16,17],⟨.z,0,[],[0,1,2,3,4,5,6,7,8,9,10,11,12,13,14,15,16,17,18],[]⟩] 0 kr ?_;simp only [zd,dH,hw,hcut,go_sem];refine xG (tB (BN (x.kids.drop (i+1)) (by omega) (fun k hk=>hW k (arw hk)) [a.name,⟨#[32]⟩,a.var,⟨#[32,61,62,32]⟩,⟨#[]⟩] (by simp) (by rw [eV dL,eV (by decide),eV hnv,eV (by decide),kp,oT];omega) _ _ (by rw [tF];simp only [ae,ag,ah,aN,ab,af,ai];omega)) (by simp [aG,aQ]) _) ?_;rintro _ _ ⟨rfl,O1,v1,kM,rfl⟩;rw [tF] at kM;have om:=congrArg List.length kM;simp only [ae,ag,ah,aN,ab,af,ai] at om;simp only [zd,dH,hw,hcut,go_sem];exact hK _ _ ⟨rfl,_,_,kM,rfl⟩
end
theorem aeO {ls:List Lb} {ks:List Ex} (Vk:ls.length≤1048576) (AP:ks.length≤1048576) (hW:∀ k∈ks,WX k) (hn:∀ a∈ls,0<a.name.size):∀ (i:Nat) (x:List UInt8),(List.zipWith (fun (l:Lb) p=>bt l.name++[58,32]++p) ls (ks.map Ex.pr))[i]?=some x→∀ v O,O.length+x.length≤34359738368→∃ r m,WR O x [.box [.ptr 0 0],.box [.slice (ls.map b7)],.box [.slice (ks.map bH)]] r m∧bI aj 197 (num i :: [.ptr 2 0,.ptr 4 0,.ptr 3 0]) (bM 129 v O [.box [.ptr 0 0],.box [.slice (ls.map b7)],.box [.slice (ks.map bH)]]) r m:=by intro i x hx v O hO;obtain⟨l,p,h1,h2,rfl⟩:=Xj hx;obtain⟨k,h3,rfl⟩:=Ri h2;exact Kl ls ks Vk AP hW i l k h1 h3 (hn l (aE h1)) v O hO
def nx (ls:List Lb) (i:Nat):Nat:=((ls.take i).filter Lb.opt).length
theorem NQ {ls:List Lb} {i:Nat} {a:Lb} (h:ls[i]?=some a):nx ls (i+1)=nx ls i+(if a.opt=true then 1 else 0):=by unfold nx;rw [bY,h,List.filter_append,ab];cases ho:a.opt <;> simp [ho]
theorem Vm (ls:List Lb) (i:Nat):nx ls i≤ij ls:=by unfold nx ij;exact (List.Sublist.filter _ (List.take_sublist i ls)).length_le
theorem Rk:∀ (ls:List Lb) (P:List (List UInt8)),(IU ls P).length=ls.length
 | [],_=>rfl
 | l :: r,P=>by unfold IU;split <;> simp [Rk r]
theorem Rm:∀ (ls:List Lb) (P:List (List UInt8)) (i:Nat) (x:List UInt8),(IU ls P)[i]?=some x→∃ l,ls[i]?=some l∧x=if l.opt=true then bt l.name++[58,32]++l.ty.pr++[32,61,32]++(P.drop (nx ls i)).headD [] else bt l.name++[58,32]++l.ty.pr
 | [],P,i,x,h=>by simp [IU] at h
 | l :: r,P,0,x,h=>by
  refine⟨l,rfl,?_⟩
  unfold IU at h
  split at h <;> (simp only [aJ,aF] at h;subst h) <;> simp [nx, *]
 | l :: r,P,i+1,x,h=>by
  unfold IU at h
  by_cases ho:l.opt=true
  ·rw [if_pos ho,cp] at h
   obtain⟨a,h1,h2⟩:=Rm r P.tail i x h
   refine⟨a,h1,?_⟩
   have e:nx (l :: r) (i+1)=nx r i+1:=by simp [nx,ho]
   rw [h2,e]
   cases P <;> simp
  rw [if_neg ho,cp] at h
  obtain⟨a,h1,h2⟩:=Rm r P i x h
  refine⟨a,h1,?_⟩
  have e:nx (l :: r) (i+1)=nx r i:=by simp [nx,ho]
  rw [h2,e]
def L3 (x:Ex) (i:Nat):List V:=[.slice ((x.kids.drop (nx x.labels i)).map bH)]
theorem DP (ls:List Lb) (ks:List Ex) (Vk:ls.length≤1048576) (AP:ks.length≤1048576) (F0:ls.length≤ks.length) (hW:∀ k∈ks,WX k) (hn:∀ a∈ls,0<a.name.size) (v:Nat) (O:List UInt8) (hO:O.length+(ZS ls (ks.map Ex.pr)).length≤34359738368):∃ r_ m_,(WR O (ZS ls (ks.map Ex.pr)) []) r_ m_∧bI aj 114 [.ptr 0 0,.slice (ls.map b7),.slice (ks.map bH)] (bM 129 v O []) r_ m_:=by refine uP tt_ok [] 11 [] (2) (aB _) (fn:=Tryz.f114) Tryz.func114 rfl Tryz.call114 ⟨rfl,rfl,by simp⟩ fun K hK=>?_;simp only [bM];simp only [au,bM,go_sem];refine cW (wf3 (xW 197 [.ptr 2 0,.ptr 4 0,.ptr 3 0] (List.zipWith (fun (l:Lb) p=>bt l.name++[58,32]++p) ls (ks.map Ex.pr)) _ (by rw [arS,au];omega) Vk ⟨#[44,32]⟩ (by decide) [.ptr 0 0] [.slice (ls.map b7)] (fun _=>[.slice (ks.map bH)]) rfl rfl rfl (fun _=>rfl) (aeO Vk AP hW hn) _ _ hO) rfl rfl rfl _) ?_;rintro _ _ ⟨rfl,O1,v1,kM,rfl⟩;simp only [au,bM,go_sem];exact hK _ _ ⟨rfl,_,_,kM,rfl⟩
section
attribute [local go_sem] au ak bM L3 b7 ax aV bG ay aC
theorem Km (x:Ex) (Vk:x.labels.length≤1048576) (AP:x.kids.length≤1048576) (hW:∀ k∈x.kids,WX k) (hoc:ij x.labels≤x.kids.length) (i:Nat) (a:Lb) (zd:x.labels[i]?=some a) (hn:0<a.name.size) (hT:WT a.ty) (v:Nat) (O:List UInt8) (hO:O.length+(if a.opt=true then bt a.name++[58,32]++a.ty.pr++[32,61,32]++((x.kids.map Ex.pr).drop (nx x.labels i)).headD [] else bt a.name++[58,32]++a.ty.pr).length≤34359738368):∃ r_ m_,(WR O (if a.opt=true then bt a.name++[58,32]++a.ty.pr++[32,61,32]++((x.kids.map Ex.pr).drop (nx x.labels i)).headD [] else bt a.name++[58,32]++a.ty.pr) [.box [.ptr 0 0],.box [num x.kind,str x.mod,str x.name,str x.text,num x.num,.slice (x.types.map br),.slice (x.labels.map b7),.slice (x.kids.map bH)],.box (L3 x (i+1))]) r_ m_∧bI aj 199 [num i,.ptr 2 0,.ptr 3 0,.ptr 4 0] (bM 129 v O [.box [.ptr 0 0],.box [num x.kind,str x.mod,str x.name,str x.text,num x.num,.slice (x.types.map br),.slice (x.labels.map b7),.slice (x.kids.map bH)],.box (L3 x i)]) r_ m_:=by
 refine uP tt_ok [] 34 [] (5) (aB _) (fn:=Tryz.f199) Tryz.func199 rfl Tryz.call199 ⟨rfl,rfl,by simp⟩ fun K hK=>?_;simp only [bM,L3];have bL:=(az.1 zd).1;have dH:(i:Int)<(x.labels.length:Int):=by omega
 have mO:=NQ zd;have o2:=Vm x.labels (i+1);have gC:O.length+((bt a.name).length+(2+a.ty.pr.length))≤34359738368:=by revert hO;split <;> (intro hO;simp only [ab,af,ai] at hO;omega)
 simp only [zd,dH,go_sem];refine fL tt_ok cu [pR,pN,jO [1],pN,jO [1,2,3],mu [1,2,3,4],jO [1,2,3,4,5],mu [1,2,3,4,5,6],⟨.z,0,[],[0,1,2,3,4,5,6,7],[]⟩] 0 kr ?_;simp only [zd,dH,go_sem];refine xG (tB (oJ [a.name,⟨#[58,32]⟩] (by simp) (jh hn (jh (by decide) lX)) _ _ (by simp only [ae,ag,ah,aN,ab,af,ai];omega)) rfl _) ?_;rintro _ _ ⟨rfl,O1,v1,kM,rfl⟩;have om:=congrArg List.length kM;simp only [ae,ag,ah,aN,ab,af,ai] at om;simp only [zd,dH,go_sem];refine fL tt_ok cu [pR,pN,jO [1],pN,jO [1,2,3],mu [1,2,3,4],jO [1,2,3,4,5],⟨.z,0,[],[0,1,2,3,4,5,6],[]⟩] 0 kr ?_;simp only [zd,dH,go_sem];refine xG (H4 (hT) (by omega) _) ?_;rintro _ _ ⟨rfl,O2,v2,sU,rfl⟩;have Cl:=congrArg List.length sU;simp only [ae,ag,ah,aN,ab,af,ai] at Cl;simp only [zd,dH,go_sem];refine ca (fun oD=>?_) (fun oD=>?_)
 ·have kf:a.opt=true:=oD;rw [if_pos kf] at hO mO;obtain⟨k,oU⟩:∃ k,x.kids[nx x.labels i]?=some k:=⟨_,aw (by omega)⟩;have Xa:((x.kids.map Ex.pr).drop (nx x.labels i)).headD []=k.pr:=by rw [← arY];exact wT oU
  rw [Xa] at hO;have fK:=hO;simp only [ae,ag,ah,aN,ab,af,ai] at fK;have tF:jk ((x.kids.drop (nx x.labels i)).map Ex.pr) [⟨#[32,61,32]⟩,⟨#[]⟩]=[32,61,32]++k.pr:=by rw [eU (by decide),ko,jk];rw [wT oU];simp only [cZ,ae,ag,ah,aN,aA]
  have hcut:∀ mem,cutAt mem 8 1 none (.slice ((x.kids.drop (nx x.labels i)).map bH))=some (.slice ((x.kids.drop (nx x.labels i+1)).map bH)):=fun mem=>by have h:=L2 (x.kids.drop (nx x.labels i)) 1 (by rw [dw];omega) mem;rw [arE] at h;exact h
  have hzk:L3 x (i+1)=[.slice ((x.kids.drop (nx x.labels i+1)).map bH)]:=by unfold L3;rw [mO]
  simp only [hcut,zd,dH,go_sem];refine cW (lU (lO (x.kids.drop (nx x.labels i)) (by rw [dw];omega) (fun k hk=>hW k (arw hk)) [⟨#[32,61,32]⟩,⟨#[]⟩] (by simp) (by rw [eV (by decide),kp,oT];rw [dw];omega) _ _ (by rw [tF];simp only [ae,ag,ah,aN,ab,af,ai];omega)) _ 3 rfl rfl (fun _=>rfl) rfl) ?_;rintro _ _ ⟨rfl,O3,v3,tE,rfl⟩;rw [tF] at tE;have CM:=congrArg List.length tE;simp only [ae,ag,ah,aN,ab,af,ai] at CM;simp only [hcut,zd,dH,go_sem]
  first
   | exact hK _ _ ⟨rfl,O3,v3,by rw [if_pos kf,Xa,tE,sU,kM];simp only [cZ,ae,ag,ah,aN,aA],by rw [hzk];rfl⟩
   | exact hK _ _ ⟨rfl,O2,v2,by rw [if_neg kf,sU,kM];simp only [cZ,ae,ag,ah,aN,aA],by rw [hzk];rfl⟩
 have kf:¬ a.opt=true:=by rw [show a.opt=false from oD];decide
 rw [if_neg kf] at mO;have hzk:L3 x (i+1)=L3 x i:=by unfold L3;rw [mO];rfl
 simp only [zd,dH,go_sem]
 first
  | exact hK _ _ ⟨rfl,O3,v3,by rw [if_pos kf,Xa,tE,sU,kM];simp only [cZ,ae,ag,ah,aN,aA],by rw [hzk];rfl⟩
  | exact hK _ _ ⟨rfl,O2,v2,by rw [if_neg kf,sU,kM];simp only [cZ,ae,ag,ah,aN,aA],by rw [hzk];rfl⟩
end
end
section
def ey (x:Ex):Nat:=if x.kind=5 then x.labels.length else if x.kind=6 then 1 else if x.kind=7 then 1 else if x.kind=8 then ij x.labels+1 else if x.kind=9 then x.labels.length+1 else if x.kind=10 then 2
 else if x.kind=11 then 1 else if x.kind=12 then 3 else if x.kind=13 then x.labels.length+1 else if x.kind=15 then 3 else if x.kind=16 then 1 else 0
structure Ou (x:Ex):Prop where
 k0:0≤x.kind
 k1:x.kind≤16
 lt:x.types.length≤1048576
 ll:x.labels.length≤1048576
 lk:x.kids.length≤1048576
 ln:∀ a∈x.labels,0<a.name.size
 lv:x.kind=13→∀ a∈x.labels,0<a.var.size
 nm:x.kind=3∨x.kind=4∨x.kind=6∨x.kind=7∨x.kind=10∨x.kind=15∨x.kind=16→0<x.name.size
 tx:x.kind=15→0<x.text.size
 ts:x.text.size≤1048576
 b0:x.kind=2→x.num=0∨x.num=1
 n0 : -9223372036854775808≤x.num
 n1:x.num≤9223372036854775807
 ty:11≤x.kind→x.kind≤15→∃ a r,x.types=a :: r
 kd:ey x≤x.kids.length
 wt:∀ t∈x.types,WT t
 wl:x.kind=8→∀ a∈x.labels,WT a.ty
theorem kd1 {l:List Ex} (h:1≤l.length):∃ a r,l=a :: r:=by cases l with|nil=>simp at h|cons a r=>exact⟨a,r,rfl⟩
theorem kd2 {l:List Ex} (h:2≤l.length):∃ a b r,l=a :: b :: r:=by match l,h with|[],h=>simp at h|[_],h=>simp at h|a :: b :: r,_=>exact⟨a,b,r,rfl⟩
theorem kd3 {l:List Ex} (h:3≤l.length):∃ a b c r,l=a :: b :: c :: r:=by match l,h with|[],h=>simp at h|[_],h=>simp at h|[_,_],h=>simp at h|a :: b :: c :: r,_=>exact⟨a,b,c,r,rfl⟩
theorem h01:(0:Int)≤1:=by decide
theorem L4 {s:ByteArray} (h:0<s.size):¬ s=⟨#[]⟩:=by intro e;rw [e] at h;exact absurd h (by decide)
theorem Rn (ls:List Lb):nx ls ls.length=ij ls:=by unfold nx ij;rw [al]
theorem aap {x:Ex} (hx:Ou x) (hk:x.kind=8) (hW:∀ k∈x.kids,WX k) (hoc:ij x.labels≤x.kids.length):∀ (i:Nat) (y:List UInt8),(IU x.labels (x.kids.map Ex.pr))[i]?=some y→∀ v O,O.length+y.length≤34359738368→∃ r m,WR O y [.box [.ptr 0 0],.box [num x.kind,str x.mod,str x.name,str x.text,num x.num,.slice (x.types.map br),.slice (x.labels.map b7),.slice (x.kids.map bH)],.box (L3 x (i+1))] r m∧bI aj 199 (num i :: [.ptr 2 0,.ptr 3 0,.ptr 4 0]) (bM 129 v O [.box [.ptr 0 0],.box [num x.kind,str x.mod,str x.name,str x.text,num x.num,.slice (x.types.map br),.slice (x.labels.map b7),.slice (x.kids.map bH)],.box (L3 x i)]) r m:=by intro i y hy v O hO;obtain⟨l,h1,rfl⟩:=Rm _ _ _ _ hy;exact Km x hx.ll hx.lk hW hoc i l h1 (hx.ln l (aE h1)) (hx.wl hk l (aE h1)) v O hO
theorem aaq {x:Ex} (hx:Ou x) (hk:x.kind=13) (hW:∀ k∈x.kids,WX k) {a:Ex} {r:List Ex} (po:x.kids=a :: r):∀ (i:Nat) (y:List UInt8),(List.zipWith (fun (l:Lb) p=>bt l.name++[32]++bt l.var++[32,61,62,32]++p) x.labels (r.map Ex.pr))[i]?=some y→∀ v O,O.length+y.length≤34359738368→∃ r m,WR O y [.box [.ptr 0 0],.box [num x.kind,str x.mod,str x.name,str x.text,num x.num,.slice (x.types.map br),.slice (x.labels.map b7),.slice (x.kids.map bH)]] r m∧bI aj 201 (num i :: [.ptr 2 0,.ptr 3 0]) (bM 129 v O [.box [.ptr 0 0],.box [num x.kind,str x.mod,str x.name,str x.text,num x.num,.slice (x.types.map br),.slice (x.labels.map b7),.slice (x.kids.map bH)]]) r m:=by intro i y hy v O hO;obtain⟨l,p,h1,h2,rfl⟩:=Xj hy;obtain⟨k,h3,rfl⟩:=Ri h2;exact Vl x hx.ll hx.lk hW i l k h1 (by rw [po];exact h3) (hx.ln l (aE h1)) (hx.lv hk l (aE h1)) v O hO
theorem aeQ {x:Ex} (hx:Ou x) (hW:∀ k∈x.kids,WX k):∀ (i:Nat) (y:List UInt8),(x.kids.map Ex.pr)[i]?=some y→∀ v O,O.length+y.length≤34359738368→∃ r m,WR O y [.box [.ptr 0 0],.box [num x.kind,str x.mod,str x.name,str x.text,num x.num,.slice (x.types.map br),.slice (x.labels.map b7),.slice (x.kids.map bH)]] r m∧bI aj 119 (num i :: [.ptr 2 0,.ptr 3 0]) (bM 129 v O [.box [.ptr 0 0],.box [num x.kind,str x.mod,str x.name,str x.text,num x.num,.slice (x.types.map br),.slice (x.labels.map b7),.slice (x.kids.map bH)]]) r m:=by intro i y hy v O hO;obtain⟨k,h3,rfl⟩:=Ri hy;exact Rj x hx.lk i k h3 (hW k (aE h3)) v O hO
theorem Ro (x:Ex) (hx:Ou x) (hk:x.kind=8) (hW:∀ k∈x.kids,WX k) (v:Nat) (O:List UInt8) (hO:O.length+(x.pr).length≤34359738368):∃ r_ m_,(WR O (x.pr) []) r_ m_∧bI aj 117 [.ptr 0 0,.agg [num x.kind,str x.mod,str x.name,str x.text,num x.num,.slice (x.types.map br),.slice (x.labels.map b7),.slice (x.kids.map bH)]] (bM 129 v O []) r_ m_:=by
 refine uP tt_ok [] 20 [] (2) (aB _) (fn:=Tryz.f117) Tryz.func117 rfl Tryz.call117 ⟨rfl,rfl,by simp⟩ fun K hK=>?_;simp only [bM];have ua:ey x=ij x.labels+1:=by simp [ey,hk]
 have iz:=hx.kd;rw [ua] at iz;have F0:=hx.lk;obtain⟨k,oU⟩:∃ k,x.kids[ij x.labels]?=some k:=⟨_,aw (by omega)⟩;have hpk:(x.kids.map Ex.pr)[ij x.labels]?.getD []=k.pr:=by rw [ak,oU];rfl
 have hp:x.pr=[102,110,40]++(jn [44,32] (IU x.labels (x.kids.map Ex.pr))++([41,32,61,62,32]++k.pr)):=by rw [← hpk,x.ju];unfold CK ij;simp [hk]
 have gC:=hO;rw [hp] at gC;simp only [ae,ag,ah,aN,ab,af,ai] at gC;have ze:L3 x x.labels.length=[.slice ((x.kids.drop (ij x.labels)).map bH)]:=by unfold L3;rw [Rn]
 have tF:jk ((x.kids.drop (ij x.labels)).map Ex.pr) [⟨#[41,32,61,62,32]⟩,⟨#[]⟩]=[41,32,61,62,32]++k.pr:=by rw [eU (by decide),ko,jk];rw [wT oU];simp only [cZ,ae,ag,ah,aN,aA]
 simp only [au,bM,ze,go_sem];refine cW (lU (cL [⟨#[102,110,40]⟩] (by simp) (jh (by decide) lX) _ _ (by simp only [ae,ag,ah,aN,ab,af,ai];omega)) _ 3 rfl rfl (fun _=>rfl) rfl) ?_;rintro _ _ ⟨rfl,O1,v1,kM,rfl⟩;have om:=congrArg List.length kM;simp only [ae,ag,ah,aN,ab,af,ai] at om;simp only [au,bM,ze,go_sem];refine cW (wf3 (xW 199 [.ptr 2 0,.ptr 3 0,.ptr 4 0] (IU x.labels (x.kids.map Ex.pr)) _ (by rw [Rk]) hx.ll ⟨#[44,32]⟩ (by decide) [.ptr 0 0] [num x.kind,str x.mod,str x.name,str x.text,num x.num,.slice (x.types.map br),.slice (x.labels.map b7),.slice (x.kids.map bH)] (L3 x) rfl rfl rfl (fun _=>rfl) (aap hx hk hW (by omega)) _ _ (by rw [aN];omega)) rfl rfl rfl _) ?_;rintro _ _ ⟨rfl,O2,v2,sU,rfl⟩;have Cl:=congrArg List.length sU;simp only [ae,ag,ah,aN,ab,af,ai] at Cl;simp only [au,bM,ze,go_sem];refine cW (lU (lO (x.kids.drop (ij x.labels)) (by rw [dw];omega) (fun k hk=>hW k (arw hk)) [⟨#[41,32,61,62,32]⟩,⟨#[]⟩] (by simp) (by rw [eV (by decide),kp,oT];rw [dw];omega) _ _ (by rw [tF];simp only [ae,ag,ah,aN,ab,af,ai];omega)) _ 4 rfl rfl (fun _=>rfl) rfl) ?_;rintro _ _ ⟨rfl,O3,v3,tE,rfl⟩;rw [tF] at tE;have CM:=congrArg List.length tE;simp only [ae,ag,ah,aN,ab,af,ai] at CM;simp only [au,bM,ze,go_sem];exact hK _ _ ⟨rfl,_,_,by rw [hp,tE,sU,kM];simp only [cZ,ae,ag,ah,aN,aA],rfl⟩
section
attribute [local go_sem] au bM iY aJ cf bJ
theorem Rp (x:Ex) (hx:Ou x) (hk:x.kind=16) (hW:∀ k∈x.kids,WX k) (v:Nat) (O:List UInt8) (hO:O.length+(x.pr).length≤34359738368):∃ r_ m_,(WR O (x.pr) []) r_ m_∧bI aj 120 [.ptr 0 0,.agg [num x.kind,str x.mod,str x.name,str x.text,num x.num,.slice (x.types.map br),.slice (x.labels.map b7),.slice (x.kids.map bH)]] (bM 129 v O []) r_ m_:=by
 refine uP tt_ok [] 50 [] (2) (aB _) (fn:=Tryz.f120) Tryz.func120 rfl Tryz.call120 ⟨rfl,rfl,by simp⟩ fun K hK=>?_;simp only [bM];have ua:ey x=1:=by simp [ey,hk]
 have iz:=hx.kd;rw [ua] at iz;have xb:=hx.nm (by omega);have F0:=hx.lk;obtain⟨a,r,po⟩:=kd1 iz;have EO:x.pr=opS x (x.kids.map Ex.pr):=by rw [x.ju];simp [CK,hk]
 have oq:x.kids.map bH = .agg [num a.kind,str a.mod,str a.name,str a.text,num a.num,.slice (a.types.map br),.slice (a.labels.map b7),.slice (a.kids.map bH)] :: r.map bH:=by rw [po,bT];simp only [bk,aX,aV,bN]
 have AP:x.kids.length=r.length+1:=by rw [po];rfl
 simp only [oq,go_sem];refine dK (yO x.name) ?_;simp only [oq,go_sem];refine ca (fun kR=>?_) (fun kR=>?_);·(have h1:x.kids.length=1:=by have h0:=of_decide_eq_true kR;omega);(have hp:x.pr=bt x.name++([32]++uY a.lvl (xU x.name).2.1 a.pr):=by rw [EO];unfold opS;rw [if_pos h1,po];simp);have gC:=hO;rw [hp] at gC;simp only [ae,ag,ah,aN,ab,af,ai] at gC;simp only [oq,go_sem];refine cW (lU (cL [x.name,⟨#[32]⟩] (by simp) (jh xb (jh (by decide) lX)) _ _ (by simp only [ae,ag,ah,aN,ab,af,ai];omega)) _ 2 rfl rfl (fun _=>rfl) rfl) ?_;rintro _ _ ⟨rfl,O2,v2,sU,rfl⟩;have Cl:=congrArg List.length sU;simp only [ae,ag,ah,aN,ab,af,ai] at Cl;simp only [oq,go_sem];refine fL tt_ok cu [pN,pN,jO [1],jO [1,2],jO [1,2,3],pR,jO [5],⟨.z,0,[],[0,1,2,3,4,5,6],[]⟩] 0 kr ?_;simp only [oq,go_sem];refine xG (tB (sY a (hW a (by rw [po];simp)) (xU x.name).2.1 _ _ (by omega)) (by simp [aG,aQ]) _) ?_;rintro _ _ ⟨rfl,O3,v3,tE,rfl⟩;have CM:=congrArg List.length tE;simp only [ab] at CM;simp only [oq,go_sem];exact hK _ _ ⟨rfl,_,_,by rw [hp];simp only [*,ae,ag,ah,aN,aA,ay,aC],rfl⟩
 have h1:¬ x.kids.length=1:=fun e=>(of_decide_eq_false kR) (by omega);obtain⟨b,r2,hr⟩:=kd1 (l:=r) (by omega);subst hr;have hmr:(b :: r2).map bH = .agg [num b.kind,str b.mod,str b.name,str b.text,num b.num,.slice (b.types.map br),.slice (b.labels.map b7),.slice (b.kids.map bH)] :: r2.map bH:=by rw [bT];simp only [bk,aX,aV,bN]
 rw [hmr] at oq;have hp:x.pr=uY a.lvl (xU x.name).2.1 a.pr++([32]++(bt x.name++([32]++uY b.lvl (xU x.name).2.2 b.pr))):=by rw [EO];unfold opS;rw [if_neg h1,po];simp
 have gC:=hO;rw [hp] at gC;simp only [ae,ag,ah,aN,ab,af,ai] at gC;simp only [hmr,cp,h01,Ok,oq,go_sem];refine fL tt_ok cu [pN,pN,jO [1],jO [1,2],jO [1,2,3],pR,jO [5],⟨.z,0,[],[0,1,2,3,4,5,6],[]⟩] 0 kr ?_;simp only [hmr,cp,h01,Ok,oq,go_sem];refine xG (tB (sY a (hW a (by rw [po];simp)) (xU x.name).2.1 _ _ (by omega)) (by simp [aG,aQ]) _) ?_;rintro _ _ ⟨rfl,O4,v4,CN,rfl⟩;have H5:=congrArg List.length CN;simp only [ab] at H5;simp only [hmr,cp,h01,Ok,oq,go_sem];refine cW (lU (cL [⟨#[32]⟩,x.name,⟨#[32]⟩] (by simp) (jh (by decide) (jh xb (jh (by decide) lX))) _ _ (by simp only [ae,ag,ah,aN,ab,af,ai];omega)) _ 2 rfl rfl (fun _=>rfl) rfl) ?_;rintro _ _ ⟨rfl,O5,v5,Q9,rfl⟩;have Vf:=congrArg List.length Q9;simp only [ae,ag,ah,aN,ab,af,ai] at Vf;simp only [hmr,cp,h01,Ok,oq,go_sem];refine fL tt_ok cu [pN,pN,jO [1],jO [1,2],jO [1,2,3],pR,jO [5],⟨.z,0,[],[0,1,2,3,4,5,6],[]⟩] 0 kr ?_;simp only [hmr,cp,h01,Ok,oq,go_sem];refine xG (tB (sY b (hW b (by rw [po];simp)) (xU x.name).2.2 _ _ (by omega)) (by simp [aG,aQ]) _) ?_;rintro _ _ ⟨rfl,O6,v6,Xf,rfl⟩;have hl6:=congrArg List.length Xf;simp only [ab] at hl6;simp only [hmr,cp,h01,Ok,oq,go_sem];exact hK _ _ ⟨rfl,_,_,by rw [hp];simp only [*,ae,ag,ah,aN,aA,ay,aC],rfl⟩
end
section
attribute [local go_sem] au bM aJ cf bJ
theorem Rr (x:Ex) (hx:Ou x) (hk3:x.kind=12∨x.kind=15∨x.kind=13) (hW:∀ k∈x.kids,WX k) (v:Nat) (O:List UInt8) (hO:O.length+(x.pr).length≤34359738368):∃ r_ m_,(WR O (x.pr) []) r_ m_∧bI aj 121 [.ptr 0 0,.agg [num x.kind,str x.mod,str x.name,str x.text,num x.num,.slice (x.types.map br),.slice (x.labels.map b7),.slice (x.kids.map bH)]] (bM 129 v O []) r_ m_:=by
 refine uP tt_ok [] 58 [] (2) (aB _) (fn:=Tryz.f121) Tryz.func121 rfl Tryz.call121 ⟨rfl,rfl,by simp⟩ fun K hK=>?_;simp only [bM];have iz:=hx.kd;have F0:=hx.lk;obtain⟨t0,ts,Kn⟩:=hx.ty (by omega) (by omega);have qB:x.types.map br = .agg [num t0.kind,str t0.mod,str t0.name,.slice (t0.args.map br),.slice (t0.bD.map du)] :: ts.map br:=by rw [Kn,bT];simp only [aM,ax,aV,bG]
 simp only [qB,go_sem];refine ca (fun Ov=>?_) (fun Ov=>?_);·(have hk:x.kind=12:=by simpa using Ov);(have ua:ey x=3:=by simp [ey,hk]);rw [ua] at iz;obtain⟨a,b,c,r,po⟩:=kd3 iz;(have hp:x.pr=[105,102]++([91]++(t0.pr++([93]++([32]++(a.pr++([32,116,104,101,110,32]++(b.pr++([32,101,108,115,101,32]++c.pr)))))))):=by rw [x.ju];simp [CK,Fk,lT,hk,po,Kn]);have gC:=hO;rw [hp] at gC;simp only [ae,ag,ah,aN,ab,af,ai] at gC;(have tF:jk (x.kids.map Ex.pr) [⟨#[32]⟩,⟨#[]⟩,⟨#[32,116,104,101,110,32]⟩,⟨#[]⟩,⟨#[32,101,108,115,101,32]⟩,⟨#[]⟩]=[32]++(a.pr++([32,116,104,101,110,32]++(b.pr++([32,101,108,115,101,32]++c.pr)))):=by rw [eU (by decide),ko,eU (by decide),ko,eU (by decide),ko,jk];rw [po];simp only [cZ,bT,bh,yc,ae,ag,ah,aN,aA]);simp only [qB,go_sem];refine fL tt_ok cu [pR,pN,jO [1],jO [1,2],jO [1,2,3],⟨.z,0,[],[0,1,2,3,4],[]⟩] 0 kr ?_;simp only [qB,go_sem];refine xG (tB (pn ⟨#[105,102]⟩ (by decide) t0 (hx.wt t0 (by rw [Kn];exact cA ..)) _ _ (by simp only [ae,ag,ah,aN,ab,af,ai];omega)) (by simp [aG,aQ]) _) ?_;rintro _ _ ⟨rfl,O1,v1,kM,rfl⟩;have om:=congrArg List.length kM;simp only [ae,ag,ah,aN,ab,af,ai] at om;simp only [qB,go_sem];refine cW (lU (lO (x.kids) (hx.lk) (hW) [⟨#[32]⟩,⟨#[]⟩,⟨#[32,116,104,101,110,32]⟩,⟨#[]⟩,⟨#[32,101,108,115,101,32]⟩,⟨#[]⟩] (by simp) (by rw [eV (by decide),kp,eV (by decide),kp,eV (by decide),kp,oT];omega) _ _ (by rw [tF];simp only [ae,ag,ah,aN,ab,af,ai];omega)) _ 2 rfl rfl (fun _=>rfl) rfl) ?_;rintro _ _ ⟨rfl,O2,v2,sU,rfl⟩;rw [tF] at sU;have Cl:=congrArg List.length sU;simp only [ae,ag,ah,aN,ab,af,ai] at Cl;simp only [qB,go_sem];exact hK _ _ ⟨rfl,_,_,by rw [hp];simp only [*,ae,ag,ah,aN,aA,ay,aC],rfl⟩
 have aoU:¬ x.kind=12:=by simpa using Ov
 simp only [qB,go_sem];refine ca (fun nF=>?_) (fun nF=>?_);·(have hk:x.kind=15:=by simpa using nF);(have ua:ey x=3:=by simp [ey,hk]);rw [ua] at iz;obtain⟨a,b,c,r,po⟩:=kd3 iz;have Xk:=L4 (hx.nm (by omega));have mm:=L4 (hx.tx hk);(have hp:x.pr=[102,111,108,100]++([91]++(t0.pr++([93]++([32]++(bt x.name++([44,32]++(bt x.text++([32,105,110,32]++(a.pr++([32,102,114,111,109,32]++(b.pr++([32,61,62,32]++c.pr)))))))))))):=by rw [x.ju];simp [CK,Fk,lT,hk,po,Kn]);have gC:=hO;rw [hp] at gC;simp only [ae,ag,ah,aN,ab,af,ai] at gC;(have tF:jk (x.kids.map Ex.pr) [⟨#[32]⟩,x.name,⟨#[44,32]⟩,x.text,⟨#[32,105,110,32]⟩,⟨#[]⟩,⟨#[32,102,114,111,109,32]⟩,⟨#[]⟩,⟨#[32,61,62,32]⟩,⟨#[]⟩]=[32]++(bt x.name++([44,32]++(bt x.text++([32,105,110,32]++(a.pr++([32,102,114,111,109,32]++(b.pr++([32,61,62,32]++c.pr)))))))):=by rw [eU (by decide),eU Xk,eU (by decide),eU mm,eU (by decide),ko,eU (by decide),ko,eU (by decide),ko,jk];rw [po];simp only [cZ,bT,bh,yc,ae,ag,ah,aN,aA]);simp only [qB,go_sem];refine fL tt_ok cu [pR,pN,jO [1],jO [1,2],jO [1,2,3],⟨.z,0,[],[0,1,2,3,4],[]⟩] 0 kr ?_;simp only [qB,go_sem];refine xG (tB (pn ⟨#[102,111,108,100]⟩ (by decide) t0 (hx.wt t0 (by rw [Kn];exact cA ..)) _ _ (by simp only [ae,ag,ah,aN,ab,af,ai];omega)) (by simp [aG,aQ]) _) ?_;rintro _ _ ⟨rfl,O3,v3,tE,rfl⟩;have CM:=congrArg List.length tE;simp only [ae,ag,ah,aN,ab,af,ai] at CM;simp only [qB,go_sem];refine cW (lU (lO (x.kids) (hx.lk) (hW) [⟨#[32]⟩,x.name,⟨#[44,32]⟩,x.text,⟨#[32,105,110,32]⟩,⟨#[]⟩,⟨#[32,102,114,111,109,32]⟩,⟨#[]⟩,⟨#[32,61,62,32]⟩,⟨#[]⟩] (by simp) (by rw [eV (by decide),eV Xk,eV (by decide),eV mm,eV (by decide),kp,eV (by decide),kp,eV (by decide),kp,oT];omega) _ _ (by rw [tF];simp only [ae,ag,ah,aN,ab,af,ai];omega)) _ 2 rfl rfl (fun _=>rfl) rfl) ?_;rintro _ _ ⟨rfl,O4,v4,CN,rfl⟩;rw [tF] at CN;have H5:=congrArg List.length CN;simp only [ae,ag,ah,aN,ab,af,ai] at H5;simp only [qB,go_sem];exact hK _ _ ⟨rfl,_,_,by rw [hp];simp only [*,ae,ag,ah,aN,aA,ay,aC],rfl⟩
 have hk:x.kind=13:=by have h15:¬ x.kind=15:=(by simpa using nF);omega
 simp only [qB,go_sem];refine ca (fun nn=>?_) (fun nn=>?_);·(have ua:ey x=x.labels.length+1:=by simp [ey,hk]);rw [ua] at iz;obtain⟨a,r,po⟩:=kd1 (l:=x.kids) (by omega);(have AP:x.kids.length=r.length+1:=by rw [po];rfl);(have hp:x.pr=[109,97,116,99,104]++([91]++(t0.pr++([93]++([32]++(a.pr++([32,123]++(jn [44,32] (List.zipWith (fun (l:Lb) p=>bt l.name++[32]++bt l.var++[32,61,62,32]++p) x.labels (r.map Ex.pr))++[125]))))))):=by rw [x.ju];simp [CK,Fk,lT,hk,ZT,po,Kn]);have gC:=hO;rw [hp] at gC;simp only [ae,ag,ah,aN,ab,af,ai] at gC;(have tF:jk (x.kids.map Ex.pr) [⟨#[32]⟩,⟨#[]⟩,⟨#[32,123]⟩]=[32]++(a.pr++[32,123]):=by rw [eU (by decide),ko,eU (by decide),jk];rw [po];simp only [cZ,bT,bh,yc,ae,ag,ah,aN,aA]);simp only [qB,go_sem];refine fL tt_ok cu [pR,pN,jO [1],jO [1,2],jO [1,2,3],⟨.z,0,[],[0,1,2,3,4],[]⟩] 0 kr ?_;simp only [qB,go_sem];refine xG (tB (pn ⟨#[109,97,116,99,104]⟩ (by decide) t0 (hx.wt t0 (by rw [Kn];exact cA ..)) _ _ (by simp only [ae,ag,ah,aN,ab,af,ai];omega)) (by simp [aG,aQ]) _) ?_;rintro _ _ ⟨rfl,O5,v5,Q9,rfl⟩;have Vf:=congrArg List.length Q9;simp only [ae,ag,ah,aN,ab,af,ai] at Vf;simp only [qB,go_sem];refine cW (lU (lO (x.kids) (hx.lk) (hW) [⟨#[32]⟩,⟨#[]⟩,⟨#[32,123]⟩] (by simp) (by rw [eV (by decide),kp,eV (by decide),oT];omega) _ _ (by rw [tF];simp only [ae,ag,ah,aN,ab,af,ai];omega)) _ 2 rfl rfl (fun _=>rfl) rfl) ?_;rintro _ _ ⟨rfl,O6,v6,Xf,rfl⟩;rw [tF] at Xf;have hl6:=congrArg List.length Xf;simp only [ae,ag,ah,aN,ab,af,ai] at hl6;simp only [qB,go_sem];refine cW (wf2 (tD 201 [.ptr 2 0,.ptr 3 0] (List.zipWith (fun (l:Lb) p=>bt l.name++[32]++bt l.var++[32,61,62,32]++p) x.labels (r.map Ex.pr)) _ (by first|(simp;done)|(rw [arS,au];omega)) hx.ll ⟨#[44,32]⟩ (by decide) [.ptr 0 0] [num x.kind,str x.mod,str x.name,str x.text,num x.num,.slice (.agg [num t0.kind,str t0.mod,str t0.name,.slice (t0.args.map br),.slice (t0.bD.map du)] :: ts.map br),.slice (x.labels.map b7),.slice (x.kids.map bH)] rfl rfl rfl (by have h:=aaq hx hk hW po;simp only [qB] at h;exact h) _ _ (by rw [aN];omega)) rfl rfl rfl _) ?_;rintro _ _ ⟨rfl,O7,v7,hO7,rfl⟩;have hl7:=congrArg List.length hO7;simp only [ae,ag,ah,aN,ab,af,ai] at hl7;simp only [qB,go_sem];refine cW (lU (cL [⟨#[125]⟩] (by simp) (jh (by decide) lX) _ _ (by simp only [ae,ag,ah,aN,ab,af,ai];omega)) _ 3 rfl rfl (fun _=>rfl) rfl) ?_;rintro _ _ ⟨rfl,O8,v8,hO8,rfl⟩;have hl8:=congrArg List.length hO8;simp only [ae,ag,ah,aN,ab,af,ai] at hl8;simp only [qB,go_sem];exact hK _ _ ⟨rfl,_,_,by rw [hp];simp only [*,ae,ag,ah,aN,aA,ay,aC],rfl⟩
 exact absurd nn (by simp [hk])
end
end
end Go.Proofs.YtfbbfmcggbapoaaGreatDoor
end
section
namespace Go.Proofs.YtfbbfmcggbapoaaGreatDoor
open Go.Proofs Go.Lib Go.RowKit Go.Shelf Go.Sort
set_option maxHeartbeats 6400000
set_option maxRecDepth 100000
def kq:Go.Shelf.Ren:=⟨fun|171=>111|243=>194|246=>253|283=>276|284=>277|285=>278|286=>279|129=>289|317=>288|318=>290|319=>291|320=>292|337=>303|338=>304|n=>n,fun|3=>3|9=>9|2=>2|4=>4|171=>256|0=>0|53=>257|37=>125|5=>5|173=>260|212=>267|51=>268|20=>20|213=>269|46=>209|232=>278|233=>279|n=>n,fun|17=>1|18=>2|19=>3|n=>n⟩
theorem tG:Go.Proofs.LaysM.n171 aj kq := {
 mixed:=kr
 f129:=Tryz.func289.trans (congrArg some kr)
 f171:=Tryz.func111.trans (congrArg some kr)
 f243:=Tryz.func194.trans (congrArg some kr)
 f246:=Tryz.func253.trans (congrArg some kr)
 f283:=Tryz.func276.trans (congrArg some kr)
 f284:=Tryz.func277.trans (congrArg some kr)
 f285:=Tryz.func278.trans (congrArg some kr)
 f286:=Tryz.func279.trans (congrArg some kr)
 f317:=Tryz.func288.trans (congrArg some kr)
 f318:=Tryz.func290.trans (congrArg some kr)
 f319:=Tryz.func291.trans (congrArg some kr)
 f320:=Tryz.func292.trans (congrArg some kr)
 f337:=Tryz.func303.trans (congrArg some kr)
 f338:=Tryz.func304.trans (congrArg some kr)
 t0:=Tryz.underlying0
 a0:=Tryz.isAgg0
 z0:=Tryz.sizeOf0
 v0:=Tryz.zeroValue0
 t2:=Tryz.underlying2
 a2:=Tryz.isAgg2
 z2:=Tryz.sizeOf2
 v2:=Tryz.zeroValue2
 t3:=Tryz.underlying3
 a3:=Tryz.isAgg3
 z3:=Tryz.sizeOf3
 v3:=Tryz.zeroValue3
 t4:=Tryz.underlying4
 a4:=Tryz.isAgg4
 z4:=Tryz.sizeOf4
 v4:=Tryz.zeroValue4
 t5:=Tryz.underlying5
 a5:=Tryz.isAgg5
 z5:=Tryz.sizeOf5
 v5:=Tryz.zeroValue5
 t9:=Tryz.underlying9
 a9:=Tryz.isAgg9
 z9:=Tryz.sizeOf9
 v9:=Tryz.zeroValue9
 t20:=Tryz.underlying20
 a20:=Tryz.isAgg20
 z20:=Tryz.sizeOf20
 v20:=Tryz.zeroValue20
 t37:=Tryz.underlying125
 a37:=Tryz.isAgg125
 z37:=Tryz.sizeOf125
 v37:=Tryz.zeroValue125
 t46:=Tryz.underlying209
 a46:=Tryz.isAgg209
 z46:=Tryz.sizeOf209
 v46:=Tryz.zeroValue209
 t51:=Tryz.underlying268
 a51:=Tryz.isAgg268
 z51:=Tryz.sizeOf268
 v51:=Tryz.zeroValue268
 t53:=Tryz.underlying257
 a53:=Tryz.isAgg257
 z53:=Tryz.sizeOf257
 v53:=Tryz.zeroValue257
 t171:=Tryz.underlying256
 a171:=Tryz.isAgg256
 z171:=Tryz.sizeOf256
 v171:=Tryz.zeroValue256
 t173:=Tryz.underlying260
 a173:=Tryz.isAgg260
 z173:=Tryz.sizeOf260
 v173:=Tryz.zeroValue260
 t212:=Tryz.underlying267
 a212:=Tryz.isAgg267
 z212:=Tryz.sizeOf267
 v212:=Tryz.zeroValue267
 t213:=Tryz.underlying269
 a213:=Tryz.isAgg269
 z213:=Tryz.sizeOf269
 t232:=Tryz.underlying278
 a232:=Tryz.isAgg278
 z232:=Tryz.sizeOf278
 v232:=Tryz.zeroValue278
 t233:=Tryz.underlying279
 a233:=Tryz.isAgg279
 z233:=Tryz.sizeOf279
 v233:=Tryz.zeroValue279
 g17:=kr
 g18:=kr
 g19:=kr
 i0:=kr
 i2:=kr
 i3:=kr
 i4:=kr
 i5:=kr
 i9:=kr
 i20:=kr
 i37:=kr
 i46:=kr
 i51:=kr
 i53:=kr
 i171:=kr
 i173:=kr
 i212:=kr
 i232:=kr
 i233:=kr
 m17:=kr
 m18:=kr
 m19:=kr }
theorem Ie (u:Nat) (h:u<18446744073709551616) (w:World):Calls aj 289 #[.int .u64 u] w fun e w'=>e = .returned (.int .i64 (Lib.bitLen u))∧w'=w :=
 Any.bits_Len64 (P:=aj) (ρ:=kq) { tG with } u w (by omega) (by omega)
theorem Ig (x:Nat) (h:x≤64) (w:World):Calls aj 288 #[.int .i64 x] w fun e w'=>e = .returned (.int .i64 (Lib.l10 x))∧w'=w :=
 Any.internal_strconv_log10Pow2 (P:=aj) (ρ:=kq) { tG with } x h w
theorem Ih (b:Bool) (w:World):Calls aj 290 #[.bool b] w fun e w'=>e = .returned (.int .i64 (if b then 1 else 0))∧w'=w :=
 Any.internal_strconv_bool2_int (P:=aj) (ρ:=kq) { tG with } b w
def BO (w:World):Prop:=∀ q,q<20→w.cell? ⟨1,q,none⟩=some (.int .u64 ((10 ^ q:Nat):Int))
theorem wU (u:Nat) (h1:1≤u) (h2:u<18446744073709551616) (w:World) (hp:BO w):Calls aj 277 #[.int .u64 u] w fun e w'=>e = .returned (.int .i64 (Lib.nDigits u))∧w'=w:=by
 obtain⟨hn,hl⟩:=Lib.numDigits_eq u h1 h2;have h64:Lib.bitLen u≤64:=Lib.bitLen_le u 64 (aB _) h2;have hto:((u:Int)).toNat=u:=by omega
 have hc:=hp (Lib.l10 (Lib.bitLen u)) (by omega);generalize hq:Lib.l10 (Lib.bitLen u)=q at hn hl hc;generalize hT:10 ^ q=T at hn hc;have aoW:q<20:=by omega
 have Hn:=Lib.hid hn;clear hn hp;go_enter Tryz.func277,Tryz.ntmps277
 go_wp2_with (first
  | (go_at_call 289;refine (Ie u h2 _).mono ?_;rintro e w' ⟨rfl,rfl⟩)
  | (go_at_call 288;refine (Ig _ h64 _).mono ?_;rintro e w' ⟨rfl,rfl⟩)
  | (go_at_call 290;refine (Ih _ _).mono ?_;rintro e w' ⟨rfl,rfl⟩))
 all_goals go_ret
 all_goals (refine⟨?_,rfl⟩;have hn:=Hn.out;congr 2;split at hn <;> simp_all <;> omega)
theorem BO.alloc {w:World} (h:BO w) (o:Obj):BO (w.alloc o):=fun q hq=>by have h1:=h q hq;rw [← h1];have bL:=World.block_lt_of_cell? w _ h1;unfold World.cell?;rw [Below.heap_alloc w _ _ bL]
theorem Fy (u:Nat) (h1:100≤u) (h2:u<9223372036854775808) (w:World) (hp:BO w) :
  Calls aj 253 #[.int .i64 u,.int .i64 10] w fun e w'=>e = .returned (.string ⟨(Lib.decDigits u).toArray⟩)∧∃ k os,w'=grow (w.drewN k) os:=by
 have hu:u<18446744073709551616:=by omega
 have aj5:Lib.nDigits u≤20:=by have:=Lib.numDigits_eq u (by omega) hu;split at this <;> omega
 have zR:aj.arrayLen 256=24:=by simp [Program.arrayLen,Tryz.underlying256]
 have ve:∀ W,(Instr.sliceAt 256 (.pointer (some ⟨w.heap.size,0,none⟩)) (some (.int .i64 1)) (some (.int .i64 (1+(Lib.nDigits u:Int)))) none).run aj W = .ok (.slice (some ⟨w.heap.size,1,none⟩) (Lib.nDigits u) 23) W:=fun W=>by rw [run_sliceAt_array_lh W 256 ⟨w.heap.size,0,none⟩ (by simp [Program.arrayLen,Program.elem,Tryz.underlying256]) .i64 .i64 1 (1+(Lib.nDigits u:Int)) (by omega) (by omega) (by rw [zR];omega)];go_simp;omega
 have pA:=Lib.holds_zero w 256 (Lib.nDigits u) (by omega);have kO:(Array.replicate (Lib.nDigits u) (0:UInt8)).size=Lib.nDigits u:=asr;have hf:=Any.internal_strconv_formatBase10 (P:=aj) (ρ:=kq) { tG with } w.heap.size 1 23 u (Array.replicate (Lib.nDigits u) 0) (w.alloc (.cells Lib.zeros24 256)) pA (by rw [kO];exact Lib.lt_pow_nDigits u) hu (by rw [kO];omega);rw [kO] at hf;replace hf:Calls aj 278 #[.slice (some ⟨w.heap.size,1,none⟩) (Lib.nDigits u) 23,.int .u64 u] (w.alloc (.cells Lib.zeros24 256)) _:=hf;have aas:=Lib.hid pA;clear pA zR;go_enter Tryz.func253,Tryz.ntmps253;go_wp2_with (go_at_call 277;refine (wU u (by omega) hu _ (hp.alloc _)).mono ?_;rintro e w' ⟨rfl,rfl⟩);go_at_call 278;refine hf.mono ?_;rintro e w' ⟨rfl,k,v',dk,rfl,hF⟩;have Tw:(convert 125 9 (.slice (some ⟨w.heap.size,1,none⟩) (Lib.nDigits u) 23)).run aj ((putRow (fun (b:UInt8)=>Value.int .u8 (b.toNat:Int)) (w.alloc (.cells Lib.zeros24 256)) w.heap.size 1 dk).drewN k) = .ok (.string ⟨(Lib.decDigits u).toArray⟩) ((putRow (fun (b:UInt8)=>Value.int .u8 (b.toNat:Int)) (w.alloc (.cells Lib.zeros24 256)) w.heap.size 1 dk).drewN k):=by have h:=run_convert_bytes_back (P:=aj) ((putRow (fun (b:UInt8)=>Value.int .u8 (b.toNat:Int)) (w.alloc (.cells Lib.zeros24 256)) w.heap.size 1 dk).drewN k) 125 9 5 ⟨w.heap.size,1,none⟩ 23 (Lib.decDigits u) Tryz.underlying125 Tryz.underlying5 Tryz.underlying9 (fun j hj=>by rw [Lib.row_is_numeral hF j hj,Lib.add_plain,World.cell?_drewN];exact cell?_putRow (fun (b:UInt8)=>Value.int .u8 (b.toNat:Int)) _ w.heap.size 1 _ dk aas.out (by rw [hF.size,kO]) j (by rw [hF.size];rw [Lib.decDigits_length] at hj;exact hj));rw [Lib.decDigits_length] at h;exact h
 go_wp2;go_ret;obtain⟨os,eo⟩:=Lib.fin_pos w (.cells Lib.zeros24 256) dk k;exact⟨rfl,k,os,eo⟩
theorem Ko (u:Nat) (hu1:1≤u) (h2:u≤9223372036854775808) (w:World) (hp:BO w) :
  Calls aj 253 #[.int .i64 (-(u:Int)),.int .i64 10] w fun e w'=>e = .returned (.string ⟨(45 :: Lib.decDigits u).toArray⟩)∧∃ k os,w'=grow (w.drewN k) os:=by
 have hu:u<18446744073709551616:=by omega
 have aj5:Lib.nDigits u≤20:=by have:=Lib.numDigits_eq u (by omega) hu;split at this <;> omega
 have hwr:IntKind.u64.wrap (-IntKind.u64.wrap (-(u:Int)))=(u:Int):=by rw [IntKind.wrap_u64,IntKind.wrap_u64];omega
 have zR:aj.arrayLen 256=24:=by simp [Program.arrayLen,Tryz.underlying256]
 have ve:∀ W,(Instr.sliceAt 256 (.pointer (some ⟨w.heap.size,0,none⟩)) (some (.int .i64 1)) (some (.int .i64 (1+(Lib.nDigits u:Int)))) none).run aj W = .ok (.slice (some ⟨w.heap.size,1,none⟩) (Lib.nDigits u) 23) W:=fun W=>by rw [run_sliceAt_array_lh W 256 ⟨w.heap.size,0,none⟩ (by simp [Program.arrayLen,Program.elem,Tryz.underlying256]) .i64 .i64 1 (1+(Lib.nDigits u:Int)) (by omega) (by omega) (by rw [zR];omega)];go_simp;omega
 have pA:=Lib.holds_zero w 256 (Lib.nDigits u) (by omega);have kO:(Array.replicate (Lib.nDigits u) (0:UInt8)).size=Lib.nDigits u:=asr;have hf:=Any.internal_strconv_formatBase10 (P:=aj) (ρ:=kq) { tG with } w.heap.size 1 23 u (Array.replicate (Lib.nDigits u) 0) (w.alloc (.cells Lib.zeros24 256)) pA (by rw [kO];exact Lib.lt_pow_nDigits u) hu (by rw [kO];omega);rw [kO] at hf;replace hf:Calls aj 278 #[.slice (some ⟨w.heap.size,1,none⟩) (Lib.nDigits u) 23,.int .u64 u] (w.alloc (.cells Lib.zeros24 256)) _:=hf;have aas:=Lib.hid pA;clear pA zR;go_enter Tryz.func253,Tryz.ntmps253;go_wp2_with (go_at_call 277;refine (wU u (by omega) hu _ (hp.alloc _)).mono ?_;rintro e w' ⟨rfl,rfl⟩);go_at_call 278;refine hf.mono ?_;rintro e w' ⟨rfl,k,v',dk,rfl,hF⟩;have G3:((putRow (fun (b:UInt8)=>Value.int .u8 (b.toNat:Int)) (w.alloc (.cells Lib.zeros24 256)) w.heap.size 1 dk).drewN k).cell? ⟨w.heap.size,0,none⟩=some (.int .u8 0):=by rw [World.cell?_drewN,cell?_putRow_other _ _ _ _ _ _ (Or.inr (Or.inl (Nat.zero_lt_one))),World.cell?_alloc_new];exact Lib.zeros24_at 0 (by omega)
 have hf0:((putRow (fun (b:UInt8)=>Value.int .u8 (b.toNat:Int)) (w.alloc (.cells Lib.zeros24 256)) w.heap.size 1 dk).drewN k).frozen? ⟨w.heap.size,0,none⟩=false:=by rw [World.frozen?_drewN,frozen?_putRow];exact World.frozen?_alloc_new _ _ _ _
 have zR:aj.arrayLen 256=24:=by simp [Program.arrayLen,Tryz.underlying256]
 have aoX:∀ W,(Instr.sliceAt 256 (.pointer (some ⟨w.heap.size,0,none⟩)) none (some (.int .i64 (1+(Lib.nDigits u:Int)))) none).run aj W = .ok (.slice (some ⟨w.heap.size,0,none⟩) (1+Lib.nDigits u) 24) W:=fun W=>by rw [run_sliceAt_array_h W 256 ⟨w.heap.size,0,none⟩ (by simp [Program.arrayLen,Program.elem,Tryz.underlying256]) .i64 (1+(Lib.nDigits u:Int)) (by omega) (by rw [zR];omega)];go_simp;omega
 clear zR;have Tw:(convert 125 9 (.slice (some ⟨w.heap.size,0,none⟩) (1+Lib.nDigits u) 24)).run aj (((putRow (fun (b:UInt8)=>Value.int .u8 (b.toNat:Int)) (w.alloc (.cells Lib.zeros24 256)) w.heap.size 1 dk).drewN k).setCell ⟨w.heap.size,0,none⟩ (.int .u8 45)) = .ok (.string ⟨(45 :: Lib.decDigits u).toArray⟩) (((putRow (fun (b:UInt8)=>Value.int .u8 (b.toNat:Int)) (w.alloc (.cells Lib.zeros24 256)) w.heap.size 1 dk).drewN k).setCell ⟨w.heap.size,0,none⟩ (.int .u8 45)):=by have h:=run_convert_bytes_back (P:=aj) (((putRow (fun (b:UInt8)=>Value.int .u8 (b.toNat:Int)) (w.alloc (.cells Lib.zeros24 256)) w.heap.size 1 dk).drewN k).setCell ⟨w.heap.size,0,none⟩ (.int .u8 45)) 125 9 5 ⟨w.heap.size,0,none⟩ 24 (45 :: Lib.decDigits u) Tryz.underlying125 Tryz.underlying5 Tryz.underlying9 (fun j hj=>by rw [Lib.add_plain];cases j with|zero=>exact World.cell?_setCell_same _ _ _ G3|succ i =>(have hi:i<(Lib.decDigits u).length:=by simpa using hj);rw [World.cell?_setCell_other _ _ _ _ (by simp),List.getElem_cons_succ,Lib.row_is_numeral hF i hi,World.cell?_drewN,show 0+(i+1)=1+i by omega];exact cell?_putRow (fun (b:UInt8)=>Value.int .u8 (b.toNat:Int)) _ w.heap.size 1 _ dk aas.out (by rw [hF.size,kO]) i (by rw [hF.size];rw [Lib.decDigits_length] at hi;exact hi));rw [af,Lib.decDigits_length,Te] at h;exact h
 go_wp2;go_ret;obtain⟨os,eo⟩:=Lib.fin_neg w (.cells Lib.zeros24 256) dk k (.int .u8 45);exact⟨rfl,k,os,eo⟩
theorem Ii (u:Nat) (h:u<100) (w:World):Calls aj 253 #[.int .i64 u,.int .i64 10] w fun e w'=>e = .returned (.string ⟨(Lib.decDigits u).toArray⟩)∧w'=w :=
 Any.internal_strconv_FormatInt_10_small (P:=aj) (ρ:=kq) { tG with } u h w
end Go.Proofs.YtfbbfmcggbapoaaGreatDoor
namespace Go.Proofs.YtfbbfmcggbapoaaGreatDoor
open Go.Eng
open Go.RowKit (Below)
open Go.Sort (grow)
variable [bB]
def jG:List Value:=(List.range 20).map fun q=>.int .u64 ((10 ^ q:Nat):Int)
theorem NR (hP:bB.vo 1=some jG) (n:Int) (h0 : -9223372036854775808≤n) (h1:n≤9223372036854775807):b8 aj 253 [num n,num 10] (str (bs (Lib.itoa n))):=by
 refine⟨Tryz.call253,fun F hg w xs hF hx=>?_⟩;obtain⟨x,ys,n7,hr,Bd⟩:=hx.of_cons;obtain⟨y,zs,hys,Gj,hz⟩:=Bd.of_cons;have OS:=hz.of_nil;subst OS;have e1:=fu hr;have e2:=fu Gj;subst e1;subst e2;subst hys;obtain rfl:xs = #[.int .i64 n,.int .i64 10]:=by rw [← cE (xs:=xs),n7]
 have hp:BO w:=fun q hq=>hF _ _ (hg.t 1 jG q _ hP (by simp [jG,hq]));suffices hs:∃ l:List UInt8,Lib.itoa n=l∧Calls aj 253 #[.int .i64 n,.int .i64 10] w fun e w'=>e = .returned (.string ⟨l.toArray⟩)∧∃ k os,w'=grow (w.drewN k) os by obtain⟨l,hl,hc⟩:=hs;rw [hl];refine hc.mono ?_;rintro e w' ⟨rfl,k,os,rfl⟩;have hb:Below w.heap.size w (grow (w.drewN k) os):=Go.Lib.below_grow _ _ (aB _) _ _;exact⟨F,_,rfl,fun _ _ h=>h,fun ad z hz=>by rw [hb.cell (World.block_lt_of_cell? w ad (hF ad z hz))];exact hF ad z hz,fun _ _ h=>.inl h,⟨hg,.sc _ _⟩,hb⟩
 by_cases hn:n<0;·obtain⟨u,rfl⟩:∃ u:Nat,n = -(u:Int):=⟨n.natAbs,by omega⟩;exact⟨_,Lib.itoa_neg u (by omega),Ko u (by omega) (by omega) w hp⟩
 obtain⟨u,rfl⟩:∃ u:Nat,n=u:=⟨n.toNat,by omega⟩;rcases bz u 100 with hs|hs
 ·exact⟨_,Lib.itoa_nonneg u,(Ii u hs w).mono fun e w' h=>⟨h.1,0,#[],by rw [h.2];simp [World.drewN_zero]⟩⟩
 exact⟨_,Lib.itoa_nonneg u,Fy u hs (by omega) w hp⟩
theorem Rs (hP:bB.vo 1=some jG) (n:Int) (h0 : -9223372036854775808≤n) (h1:n≤9223372036854775807):Cn 194 [num n] (str (bs (Lib.itoa n))):=by refine gy tt_ok [] 5 [.tmp 2] (fn:=Tryz.f194) Tryz.func194 rfl Tryz.call194 ⟨rfl,rfl,by simp⟩ fun K hK=>?_;simp only [go_sem];refine dK (⟨_,rfl,NR hP n h0 h1⟩:∃ r_,(fun w=>w=str (bs (Lib.itoa n))) r_∧_) ?_;simp only [go_sem];exact hK _ rfl
theorem Vn (hP:bB.vo 1=some jG) (n:Int) (h0 : -9223372036854775808≤n) (h1:n≤9223372036854775807):Cn 111 [num n] (str (bs (Lib.itoa n))):=by refine gy tt_ok [] 5 [.tmp 2] (fn:=Tryz.f111) Tryz.func111 rfl Tryz.call111 ⟨rfl,rfl,by simp⟩ fun K hK=>?_;simp only [go_sem];refine dK (Rs hP n h0 h1) ?_;simp only [go_sem];exact hK _ rfl
end Go.Proofs.YtfbbfmcggbapoaaGreatDoor
end
section
namespace Go.Proofs.YtfbbfmcggbapoaaGreatDoor
open Go.Eng
variable [bB]
open Nat renaming reduceAdd → zA, reduceLT → zB, reduceLeDiff → zC, reduceMul → zD, reduceEqDiff → zE, reduceSub → zF
set_option maxHeartbeats 4000000
set_option maxRecDepth 100000
section
theorem L5 (n:Int):0<(bs (Lib.itoa n)).size:=by
 rw [zY];have h:∀ u,1≤(Lib.decDigits u).length:=fun u=>by rw [Lib.decDigits_length];exact Lib.nDigits_pos u
 unfold Lib.itoa;split;·rw [af];omega
 exact h _
theorem Rt (s:ByteArray):0<(bs (Nz s)).size:=by rw [zY];unfold Nz;simp
def boB (b:Bool):ByteArray:=if b=true then ⟨#[116,114,117,101]⟩ else ⟨#[102,97,108,115,101]⟩
theorem Vo (b:Bool):0<(boB b).size:=by cases b <;> decide
theorem aat (b:Bool):bt (boB b)=if b=true then [116,114,117,101] else [102,97,108,115,101]:=by cases b <;> rfl
theorem aau (b:Bool):Cn 196 [bl b] (str (boB b)):=by
 refine gy tt_ok [] 4 [.tmp 2] (fn:=Tryz.f196) Tryz.func196 rfl Tryz.call196 ⟨rfl,rfl,by simp⟩ fun K hK=>?_;simp only [go_sem];refine ca (fun Mv=>?_) (fun Mv=>?_);·subst Mv;simp only [go_sem];exact hK _ rfl
 subst Mv;simp only [go_sem];exact hK _ rfl
theorem aeR (b:Bool):Cn 113 [bl b] (str (boB b)):=by refine gy tt_ok [] 5 [.tmp 2] (fn:=Tryz.f113) Tryz.func113 rfl Tryz.call113 ⟨rfl,rfl,by simp⟩ fun K hK=>?_;simp only [go_sem];refine dK (aau b) ?_;simp only [go_sem];exact hK _ rfl
section
attribute [local go_sem] au bM
theorem Kq (hP:bB.vo 1=some jG) (x:Ex) (hx:Ou x) (hW:∀ k∈x.kids,WX k) (v:Nat) (O:List UInt8) (hO:O.length+(x.pr).length≤34359738368):∃ r_ m_,(WR O (x.pr) []) r_ m_∧bI aj 45 [.ptr 0 0,bH x] (bM 129 v O []) r_ m_:=by
 refine uP tt_ok [30000] 167 [] (2) (aB _) (fn:=Tryz.f45) Tryz.func45 rfl Tryz.call45 ⟨rfl,rfl,by simp⟩ fun K hK=>?_;simp only [bM];have iz:=hx.kd;have F0:=hx.lk;simp only [bk,aX,aV,bN];simp only [go_sem];refine ca (fun iI=>?_) (fun iI=>?_)
 ·have hk:x.kind=0:=by simpa using iI
  have hp:x.pr=bt (bs (Lib.itoa x.num)):=by rw [x.ju];simp [CK,Fk,lT,hk,HZ]
  have gC:=hO;rw [hp] at gC;try simp only [ae,ag,ah,aN,ab,af,ai] at gC
  have hbi:=HZ (Lib.itoa x.num);simp only [go_sem];refine fL tt_ok cu [pR,pN,jO [1],mu [1,2],mu [1,2,3],⟨.z,0,[],[0,1,2,3,4],[]⟩] 0 kr ?_;simp only [go_sem];refine y6 (Vn hP x.num hx.n0 hx.n1) ?_;simp only [go_sem];refine xG (tB (oJ [(bs (Lib.itoa x.num))] (by simp) (jh (L5 _) lX) _ _ (by simp only [ae,ag,ah,aN,ab,af,ai];omega)) rfl _) ?_;rintro _ _ ⟨rfl,O2,v2,sU,rfl⟩;have Cl:=congrArg List.length sU;simp only [ae,ag,ah,aN,ab,af,ai] at Cl;simp only [go_sem]
  first
   | (have L6:=hp;rw [hp] at hK;exact hK _ _ ⟨rfl,_,_,by simp only [*,ae,ag,ah,aN,aA,ay,aC],rfl⟩)
   | (refine hK _ _ ⟨rfl,_,_,?_,rfl⟩;assumption)
 have hn0:¬ x.kind=0:=by simpa using iI
 simp only [go_sem];refine ca (fun nD=>?_) (fun nD=>?_)
 ·have hk:x.kind=1:=by simpa using nD
  have hp:x.pr=bt (bs (Nz x.text)):=by rw [x.ju];simp [CK,Fk,lT,hk,HZ]
  have gC:=hO;rw [hp] at gC;try simp only [ae,ag,ah,aN,ab,af,ai] at gC
  have hbi:=HZ (Nz x.text);simp only [go_sem];refine fL tt_ok cu [pR,pN,jO [1],mu [1,2],mu [1,2,3],⟨.z,0,[],[0,1,2,3,4],[]⟩] 0 kr ?_;simp only [go_sem];refine y6 (H6 x.text hx.ts) ?_;simp only [go_sem];refine xG (tB (oJ [(bs (Nz x.text))] (by simp) (jh (Rt _) lX) _ _ (by simp only [ae,ag,ah,aN,ab,af,ai];omega)) rfl _) ?_;rintro _ _ ⟨rfl,O4,v4,CN,rfl⟩;have H5:=congrArg List.length CN;simp only [ae,ag,ah,aN,ab,af,ai] at H5;simp only [go_sem]
  first
   | (have L6:=hp;rw [hp] at hK;exact hK _ _ ⟨rfl,_,_,by simp only [*,ae,ag,ah,aN,aA,ay,aC],rfl⟩)
   | (refine hK _ _ ⟨rfl,_,_,?_,rfl⟩;assumption)
 have Ow:¬ x.kind=1:=by simpa using nD
 simp only [go_sem];refine ca (fun sW=>?_) (fun sW=>?_)
 ·have hk:x.kind=2:=by simpa using sW
  have hp:x.pr=bt (boB (decide (x.num=1))):=by rw [x.ju];simp [CK,Fk,lT,hk,aat]
  have gC:=hO;rw [hp] at gC;try simp only [ae,ag,ah,aN,ab,af,ai] at gC
  simp only [go_sem];refine fL tt_ok cu [pR,pN,jO [1],mu [1,2],mu [1,2,3],mu [1,2,3,4],⟨.z,0,[],[0,1,2,3,4,5],[]⟩] 0 kr ?_;simp only [go_sem];refine y6 (aeR (decide (x.num=1))) ?_;simp only [go_sem];refine xG (tB (oJ [(boB (decide (x.num=1)))] (by simp) (jh (Vo _) lX) _ _ (by simp only [ae,ag,ah,aN,ab,af,ai];omega)) rfl _) ?_;rintro _ _ ⟨rfl,O6,v6,Xf,rfl⟩;have hl6:=congrArg List.length Xf;simp only [ae,ag,ah,aN,ab,af,ai] at hl6;simp only [go_sem]
  first
   | (have L6:=hp;rw [hp] at hK;exact hK _ _ ⟨rfl,_,_,by simp only [*,ae,ag,ah,aN,aA,ay,aC],rfl⟩)
   | (refine hK _ _ ⟨rfl,_,_,?_,rfl⟩;assumption)
 have hn2:¬ x.kind=2:=by simpa using sW
 simp only [go_sem];refine sq tt_ok [30000] ?_;simp only [go_sem];refine ca (fun tQ=>?_) (fun tQ=>?_)
 ·have hk:x.kind=3∨x.kind=4:=by first|exact .inl (by simpa using tQ)|exact .inr (by simpa using tQ)
  have hp:x.pr=LU x.mod x.name (x.types.map Ty.pr):=by rw [x.ju];rcases hk with hk|hk <;> simp [CK,hk]
  simp only [go_sem];refine cW (tB (Fm x.mod x.name (hx.nm (by omega)) x.types hx.lt hx.wt _ _ (by rw [← hp];omega)) (by simp [aG,aQ]) _) ?_;rintro _ _ ⟨rfl,O7,v7,hO7,rfl⟩;simp only [go_sem]
  first
   | (have L6:=hp;rw [hp] at hK;exact hK _ _ ⟨rfl,_,_,by simp only [*,ae,ag,ah,aN,aA,ay,aC],rfl⟩)
   | (refine hK _ _ ⟨rfl,_,_,?_,rfl⟩;assumption)
 have aj6:=of_decide_eq_false tQ;simp only [go_sem];refine ca (fun tQ=>?_) (fun tQ=>?_)
 ·have hk:x.kind=3∨x.kind=4:=by first|exact .inl (by simpa using tQ)|exact .inr (by simpa using tQ)
  have hp:x.pr=LU x.mod x.name (x.types.map Ty.pr):=by rw [x.ju];rcases hk with hk|hk <;> simp [CK,hk]
  simp only [go_sem];refine cW (tB (Fm x.mod x.name (hx.nm (by omega)) x.types hx.lt hx.wt _ _ (by rw [← hp];omega)) (by simp [aG,aQ]) _) ?_;rintro _ _ ⟨rfl,O8,v8,hO8,rfl⟩;simp only [go_sem]
  first
   | (have L6:=hp;rw [hp] at hK;exact hK _ _ ⟨rfl,_,_,by simp only [*,ae,ag,ah,aN,aA,ay,aC],rfl⟩)
   | (refine hK _ _ ⟨rfl,_,_,?_,rfl⟩;assumption)
 have aj6:=of_decide_eq_false tQ;simp only [go_sem];refine ca (fun xY=>?_) (fun xY=>?_)
 ·have hk:x.kind=5:=by simpa using xY
  have ua:ey x=x.labels.length:=by simp [ey,hk]
  rw [ua] at iz;have hp:x.pr=[123]++(ZS x.labels (x.kids.map Ex.pr)++[125]):=by rw [x.ju];simp [CK,Fk,lT,hk]
  have gC:=hO;rw [hp] at gC;try simp only [ae,ag,ah,aN,ab,af,ai] at gC
  simp only [go_sem];refine cW (lU (cL [⟨#[123]⟩] (by simp) (jh (by decide) lX) _ _ (by simp only [ae,ag,ah,aN,ab,af,ai];omega)) _ 2 rfl rfl (fun _=>rfl) rfl) ?_;rintro _ _ ⟨rfl,O9,v9,hO9,rfl⟩;have hl9:=congrArg List.length hO9;simp only [ae,ag,ah,aN,ab,af,ai] at hl9;simp only [go_sem];refine cW (tB (DP x.labels (x.kids) hx.ll (hx.lk) (by omega) (hW) hx.ln _ _ (by omega)) (by simp [aG,aQ]) _) ?_;rintro _ _ ⟨rfl,O10,v10,aad,rfl⟩;have aae:=congrArg List.length aad;simp only [ae,ag,ah,aN,ab,af,ai] at aae;simp only [go_sem];refine cW (lU (cL [⟨#[125]⟩] (by simp) (jh (by decide) lX) _ _ (by simp only [ae,ag,ah,aN,ab,af,ai];omega)) _ 3 rfl rfl (fun _=>rfl) rfl) ?_;rintro _ _ ⟨rfl,O11,v11,NL,rfl⟩;have Ra:=congrArg List.length NL;simp only [ae,ag,ah,aN,ab,af,ai] at Ra;simp only [go_sem]
  first
   | (have L6:=hp;rw [hp] at hK;exact hK _ _ ⟨rfl,_,_,by simp only [*,ae,ag,ah,aN,aA,ay,aC],rfl⟩)
   | (refine hK _ _ ⟨rfl,_,_,?_,rfl⟩;assumption)
 have hn5:¬ x.kind=5:=by simpa using xY
 simp only [go_sem];refine ca (fun aav=>?_) (fun aav=>?_)
 ·have hk:x.kind=6:=by simpa using aav
  have ua:ey x=1:=by simp [ey,hk]
  rw [ua] at iz;obtain⟨a,r,po⟩:=kd1 iz;have xb:=hx.nm (by omega);have oq:x.kids.map bH = .agg [num a.kind,str a.mod,str a.name,str a.text,num a.num,.slice (a.types.map br),.slice (a.labels.map b7),.slice (a.kids.map bH)] :: r.map bH:=by rw [po,bT];simp only [bk,aX,aV,bN]
  have hp:x.pr=uY a.lvl 8 a.pr++([46]++bt x.name):=by rw [x.ju];simp [CK,Fk,lT,hk,po]
  have gC:=hO;rw [hp] at gC;try simp only [ae,ag,ah,aN,ab,af,ai] at gC
  simp only [oq,aJ,cf,bJ,go_sem];refine fL tt_ok cu [pR,pN,jO [1],jO [1,2],jO [1,2,3],⟨.z,0,[],[0,1,2,3,4],[]⟩] 0 kr ?_;simp only [oq,aJ,cf,bJ,go_sem];refine xG (tB (sY a (hW a (by rw [po];simp)) 8 _ _ (by omega)) (by simp [aG,aQ]) _) ?_;rintro _ _ ⟨rfl,O12,v12,Vg,rfl⟩;have aak:=congrArg List.length Vg;simp only [ab] at aak;simp only [oq,aJ,cf,bJ,go_sem];refine cW (lU (cL [⟨#[46]⟩,x.name] (by simp) (jh (by decide) (jh xb lX)) _ _ (by simp only [ae,ag,ah,aN,ab,af,ai];omega)) _ 2 rfl rfl (fun _=>rfl) rfl) ?_;rintro _ _ ⟨rfl,O13,v13,aaf,rfl⟩;have aag:=congrArg List.length aaf;simp only [ae,ag,ah,aN,ab,af,ai] at aag;simp only [oq,aJ,cf,bJ,go_sem]
  first
   | (have L6:=hp;rw [hp] at hK;exact hK _ _ ⟨rfl,_,_,by simp only [*,ae,ag,ah,aN,aA,ay,aC],rfl⟩)
   | (refine hK _ _ ⟨rfl,_,_,?_,rfl⟩;assumption)
 have hn6:¬ x.kind=6:=by simpa using aav
 simp only [go_sem];refine ca (fun aaw=>?_) (fun aaw=>?_)
 ·have hk:x.kind=7:=by simpa using aaw
  have ua:ey x=1:=by simp [ey,hk]
  rw [ua] at iz;obtain⟨a,r,po⟩:=kd1 iz;have Xk:=L4 (hx.nm (by omega));have hp:x.pr=[60]++(bt x.name++([58,32]++(a.pr++[62]))):=by rw [x.ju];simp [CK,Fk,lT,hk,po]
  have gC:=hO;rw [hp] at gC;try simp only [ae,ag,ah,aN,ab,af,ai] at gC
  have tF:jk (x.kids.map Ex.pr) [⟨#[60]⟩,x.name,⟨#[58,32]⟩,⟨#[]⟩,⟨#[62]⟩]=[60]++(bt x.name++([58,32]++(a.pr++[62]))):=by rw [eU (by decide),eU Xk,eU (by decide),ko,eU (by decide),jk];rw [po];simp only [cZ,bT,bh,yc,ae,ag,ah,aN,aA]
  simp only [go_sem];refine cW (lU (lO (x.kids) (hx.lk) (hW) [⟨#[60]⟩,x.name,⟨#[58,32]⟩,⟨#[]⟩,⟨#[62]⟩] (by simp) (by rw [eV (by decide),eV Xk,eV (by decide),kp,eV (by decide),oT];omega) _ _ (by rw [tF];simp only [ae,ag,ah,aN,ab,af,ai];omega)) _ 2 rfl rfl (fun _=>rfl) rfl) ?_;rintro _ _ ⟨rfl,O14,v14,aeS,rfl⟩;rw [tF] at aeS;have aj7:=congrArg List.length aeS;simp only [ae,ag,ah,aN,ab,af,ai] at aj7;simp only [go_sem]
  first
   | (have L6:=hp;rw [hp] at hK;exact hK _ _ ⟨rfl,_,_,by simp only [*,ae,ag,ah,aN,aA,ay,aC],rfl⟩)
   | (refine hK _ _ ⟨rfl,_,_,?_,rfl⟩;assumption)
 have hn7:¬ x.kind=7:=by simpa using aaw
 simp only [go_sem];refine ca (fun Kr=>?_) (fun Kr=>?_)
 ·have hk:x.kind=8:=by simpa using Kr
  simp only [go_sem];refine cW (tB (Ro x hx hk hW _ _ hO) (by simp [aG,aQ]) _) ?_;rintro _ _ ⟨rfl,O15,v15,aoZ,rfl⟩;simp only [go_sem]
  first
   | (have L6:=hp;rw [hp] at hK;exact hK _ _ ⟨rfl,_,_,by simp only [*,ae,ag,ah,aN,aA,ay,aC],rfl⟩)
   | (refine hK _ _ ⟨rfl,_,_,?_,rfl⟩;assumption)
 have hn8:¬ x.kind=8:=by simpa using Kr
 simp only [go_sem];refine ca (fun aax=>?_) (fun aax=>?_)
 ·have hk:x.kind=9:=by simpa using aax
  have ua:ey x=x.labels.length+1:=by simp [ey,hk]
  rw [ua] at iz;obtain⟨a,r,po⟩:=kd1 (l:=x.kids) (by omega);have AP:x.kids.length=r.length+1:=by rw [po];rfl
  have oq:x.kids.map bH = .agg [num a.kind,str a.mod,str a.name,str a.text,num a.num,.slice (a.types.map br),.slice (a.labels.map b7),.slice (a.kids.map bH)] :: r.map bH:=by rw [po,bT];simp only [bk,aX,aV,bN]
  have hcut:∀ mem,cutAt mem 8 1 none (.slice (.agg [num a.kind,str a.mod,str a.name,str a.text,num a.num,.slice (a.types.map br),.slice (a.labels.map b7),.slice (a.kids.map bH)] :: r.map bH))=some (.slice (r.map bH)):=fun mem=>by have h:=L2 (a :: r) 1 (by simp) mem;simp only [bT,bk,aX,aV,bN] at h;exact h
  have hp:x.pr=uY a.lvl 8 a.pr++([40]++(ZS x.labels (r.map Ex.pr)++[41])):=by rw [x.ju];simp [CK,Fk,lT,hk,po]
  have gC:=hO;rw [hp] at gC;try simp only [ae,ag,ah,aN,ab,af,ai] at gC
  simp only [hcut,oq,aJ,cf,bJ,go_sem];refine fL tt_ok cu [pR,pN,jO [1],jO [1,2],jO [1,2,3],⟨.z,0,[],[0,1,2,3,4],[]⟩] 0 kr ?_;simp only [hcut,oq,aJ,cf,bJ,go_sem];refine xG (tB (sY a (hW a (by rw [po];simp)) 8 _ _ (by omega)) (by simp [aG,aQ]) _) ?_;rintro _ _ ⟨rfl,O16,v16,aj8,rfl⟩;have aj9:=congrArg List.length aj8;simp only [ab] at aj9;simp only [hcut,oq,aJ,cf,bJ,go_sem];refine cW (lU (cL [⟨#[40]⟩] (by simp) (jh (by decide) lX) _ _ (by simp only [ae,ag,ah,aN,ab,af,ai];omega)) _ 2 rfl rfl (fun _=>rfl) rfl) ?_;rintro _ _ ⟨rfl,O17,v17,aka,rfl⟩;have akb:=congrArg List.length aka;simp only [ae,ag,ah,aN,ab,af,ai] at akb;simp only [hcut,oq,aJ,cf,bJ,go_sem];refine fL tt_ok cu [pR,pN,jO [1],pN,jO [3],jO [3,4],⟨.z,0,[],[0,1,2,3,4,5],[]⟩] 0 kr ?_;simp only [hcut,oq,aJ,cf,bJ,go_sem];refine xG (tB (DP x.labels (r) hx.ll (by omega) (by omega) (fun k hk=>hW k (by rw [po];exact ct _ hk)) hx.ln _ _ (by omega)) (by simp [aG,aQ]) _) ?_;rintro _ _ ⟨rfl,O18,v18,akc,rfl⟩;have akd:=congrArg List.length akc;simp only [ae,ag,ah,aN,ab,af,ai] at akd;simp only [hcut,oq,aJ,cf,bJ,go_sem];refine cW (lU (cL [⟨#[41]⟩] (by simp) (jh (by decide) lX) _ _ (by simp only [ae,ag,ah,aN,ab,af,ai];omega)) _ 3 rfl rfl (fun _=>rfl) rfl) ?_;rintro _ _ ⟨rfl,O19,v19,ake,rfl⟩;have akf:=congrArg List.length ake;simp only [ae,ag,ah,aN,ab,af,ai] at akf;simp only [hcut,oq,aJ,cf,bJ,go_sem]
  first
   | (have L6:=hp;rw [hp] at hK;exact hK _ _ ⟨rfl,_,_,by simp only [*,ae,ag,ah,aN,aA,ay,aC],rfl⟩)
   | (refine hK _ _ ⟨rfl,_,_,?_,rfl⟩;assumption)
 have hn9:¬ x.kind=9:=by simpa using aax
 simp only [go_sem];refine ca (fun BP=>?_) (fun BP=>?_)
 ·have hk:x.kind=10:=by simpa using BP
  have ua:ey x=2:=by simp [ey,hk]
  rw [ua] at iz;obtain⟨a,b,r,po⟩:=kd2 iz;have Xk:=L4 (hx.nm (by omega));have hp:x.pr=[108,101,116,32]++(bt x.name++([32,61,32]++(a.pr++([32,105,110,32]++b.pr)))):=by rw [x.ju];simp [CK,Fk,lT,hk,po]
  have gC:=hO;rw [hp] at gC;try simp only [ae,ag,ah,aN,ab,af,ai] at gC
  have tF:jk (x.kids.map Ex.pr) [⟨#[108,101,116,32]⟩,x.name,⟨#[32,61,32]⟩,⟨#[]⟩,⟨#[32,105,110,32]⟩,⟨#[]⟩]=[108,101,116,32]++(bt x.name++([32,61,32]++(a.pr++([32,105,110,32]++b.pr)))):=by rw [eU (by decide),eU Xk,eU (by decide),ko,eU (by decide),ko,jk];rw [po];simp only [cZ,bT,bh,yc,ae,ag,ah,aN,aA]
  simp only [go_sem];refine cW (lU (lO (x.kids) (hx.lk) (hW) [⟨#[108,101,116,32]⟩,x.name,⟨#[32,61,32]⟩,⟨#[]⟩,⟨#[32,105,110,32]⟩,⟨#[]⟩] (by simp) (by rw [eV (by decide),eV Xk,eV (by decide),kp,eV (by decide),kp,oT];omega) _ _ (by rw [tF];simp only [ae,ag,ah,aN,ab,af,ai];omega)) _ 2 rfl rfl (fun _=>rfl) rfl) ?_;rintro _ _ ⟨rfl,O20,v20,aeT,rfl⟩;rw [tF] at aeT;have akg:=congrArg List.length aeT;simp only [ae,ag,ah,aN,ab,af,ai] at akg;simp only [go_sem]
  first
   | (have L6:=hp;rw [hp] at hK;exact hK _ _ ⟨rfl,_,_,by simp only [*,ae,ag,ah,aN,aA,ay,aC],rfl⟩)
   | (refine hK _ _ ⟨rfl,_,_,?_,rfl⟩;assumption)
 have ao0:¬ x.kind=10:=by simpa using BP
 simp only [go_sem];refine ca (fun Ru=>?_) (fun Ru=>?_)
 ·have hk:x.kind=11:=by simpa using Ru
  have ua:ey x=1:=by simp [ey,hk]
  rw [ua] at iz;obtain⟨a,r,po⟩:=kd1 iz;obtain⟨t0,ts,Kn⟩:=hx.ty (by omega) (by omega);have qB:x.types.map br = .agg [num t0.kind,str t0.mod,str t0.name,.slice (t0.args.map br),.slice (t0.bD.map du)] :: ts.map br:=by rw [Kn,bT];simp only [aM,ax,aV,bG]
  have hp:x.pr=[40]++(a.pr++([32,58,32]++(t0.pr++[41]))):=by rw [x.ju];simp [CK,Fk,lT,hk,po,Kn]
  have gC:=hO;rw [hp] at gC;try simp only [ae,ag,ah,aN,ab,af,ai] at gC
  have tF:jk (x.kids.map Ex.pr) [⟨#[40]⟩,⟨#[]⟩,⟨#[32,58,32]⟩]=[40]++(a.pr++[32,58,32]):=by rw [eU (by decide),ko,eU (by decide),jk];rw [po];simp only [cZ,bT,bh,yc,ae,ag,ah,aN,aA]
  simp only [qB,aJ,cf,bJ,go_sem];refine cW (lU (lO (x.kids) (hx.lk) (hW) [⟨#[40]⟩,⟨#[]⟩,⟨#[32,58,32]⟩] (by simp) (by rw [eV (by decide),kp,eV (by decide),oT];omega) _ _ (by rw [tF];simp only [ae,ag,ah,aN,ab,af,ai];omega)) _ 2 rfl rfl (fun _=>rfl) rfl) ?_;rintro _ _ ⟨rfl,O21,v21,aeU,rfl⟩;rw [tF] at aeU;have akh:=congrArg List.length aeU;simp only [ae,ag,ah,aN,ab,af,ai] at akh;simp only [qB,aJ,cf,bJ,go_sem];refine fL tt_ok cu [pR,pN,jO [1],jO [1,2],jO [1,2,3],⟨.z,0,[],[0,1,2,3,4],[]⟩] 0 kr ?_;simp only [qB,aJ,cf,bJ,go_sem];refine xG (H4 (hx.wt t0 (by rw [Kn];exact cA ..)) (by omega) _) ?_;rintro _ _ ⟨rfl,O22,v22,aki,rfl⟩;have akj:=congrArg List.length aki;simp only [ae,ag,ah,aN,ab,af,ai] at akj;simp only [qB,aJ,cf,bJ,go_sem];refine cW (lU (cL [⟨#[41]⟩] (by simp) (jh (by decide) lX) _ _ (by simp only [ae,ag,ah,aN,ab,af,ai];omega)) _ 3 rfl rfl (fun _=>rfl) rfl) ?_;rintro _ _ ⟨rfl,O23,v23,akk,rfl⟩;have akl:=congrArg List.length akk;simp only [ae,ag,ah,aN,ab,af,ai] at akl;simp only [qB,aJ,cf,bJ,go_sem]
  first
   | (have L6:=hp;rw [hp] at hK;exact hK _ _ ⟨rfl,_,_,by simp only [*,ae,ag,ah,aN,aA,ay,aC],rfl⟩)
   | (refine hK _ _ ⟨rfl,_,_,?_,rfl⟩;assumption)
 have ao1:¬ x.kind=11:=by simpa using Ru
 simp only [go_sem];refine ca (fun Rv=>?_) (fun Rv=>?_)
 ·have hk:x.kind=14:=by simpa using Rv
  obtain⟨t0,ts,Kn⟩:=hx.ty (by omega) (by omega);have qB:x.types.map br = .agg [num t0.kind,str t0.mod,str t0.name,.slice (t0.args.map br),.slice (t0.bD.map du)] :: ts.map br:=by rw [Kn,bT];simp only [aM,ax,aV,bG]
  obtain⟨q1,qA⟩:∃ q,(if x.kids=[] then ([]:List UInt8) else [32])=q:=⟨_,rfl⟩;have hp:x.pr=[91]++(t0.pr++([124]++(q1++(jn [44,32] (x.kids.map Ex.pr)++[93])))):=by rw [x.ju,← qA];by_cases ME:x.kids=[] <;> simp [CK,hk,Kn,lT,ME,jn]
  have gC:=hO;rw [hp] at gC;simp only [ae,ag,ah,aN,ab,af,ai] at gC;simp only [qB,aJ,cf,bJ,go_sem];refine cW (lU (cL [⟨#[91]⟩] (by simp) (jh (by decide) lX) _ _ (by simp only [ae,ag,ah,aN,ab,af,ai];omega)) _ 2 rfl rfl (fun _=>rfl) rfl) ?_;rintro _ _ ⟨rfl,OA,vA,Ks,rfl⟩;have Vp:=congrArg List.length Ks;simp only [ae,ag,ah,aN,ab,af,ai] at Vp;simp only [qB,aJ,cf,bJ,go_sem];refine fL tt_ok cu [pR,pN,jO [1],jO [1,2],jO [1,2,3],⟨.z,0,[],[0,1,2,3,4],[]⟩] 0 kr ?_;simp only [qB,aJ,cf,bJ,go_sem];refine xG (H4 (hx.wt t0 (by rw [Kn];exact cA ..)) (by omega) _) ?_;rintro _ _ ⟨rfl,OB,vB,Vq,rfl⟩;have hlB:=congrArg List.length Vq;simp only [ae,ag,ah,aN,ab,af,ai] at hlB;simp only [qB,aJ,cf,bJ,go_sem];refine cW (lU (cL [⟨#[124]⟩] (by simp) (jh (by decide) lX) _ _ (by simp only [ae,ag,ah,aN,ab,af,ai];omega)) _ 3 rfl rfl (fun _=>rfl) rfl) ?_;rintro _ _ ⟨rfl,OC,vC,Cm,rfl⟩;have NS:=congrArg List.length Cm;simp only [ae,ag,ah,aN,ab,af,ai] at NS;simp only [qB,aJ,cf,bJ,go_sem];refine sG (n:=167) tt_ok [30000] (fun a:Nat×List UInt8=>[(2,.ptr 2 0),(3,.ptr 3 0)]) (fun a:Nat×List UInt8=>bM 129 a.1 a.2 [.box [.ptr 0 0],.box [num x.kind,str x.mod,str x.name,str x.text,num x.num,.slice (.agg [num t0.kind,str t0.mod,str t0.name,.slice (t0.args.map br),.slice (t0.bD.map du)] :: ts.map br),.slice (x.labels.map b7),.slice (x.kids.map bH)]]) 4 (fun a=>a.2=O++([91]++(t0.pr++([124]++q1)))) (fun Z1 dW=>?_) ?_;·simp only [qB,aJ,cf,bJ,go_sem];refine ca (fun Rw=>?_) (fun Rw=>?_);(·(have ME:¬ x.kids=[]:=fun e=>by have h0:=of_decide_eq_true Rw;rw [e] at h0;simp at h0);rw [if_neg ME] at qA;have C1:=congrArg List.length qA;simp only [ae,ag,ah,aN,ab,af,ai] at C1;simp only [qB,aJ,cf,bJ,go_sem];refine cW (lU (cL [⟨#[32]⟩] (by simp) (jh (by decide) lX) _ _ (by simp only [ae,ag,ah,aN,ab,af,ai];omega)) _ 4 rfl rfl (fun _=>rfl) rfl) ?_;rintro _ _ ⟨rfl,Oy,vy,jE,rfl⟩;have BH:=congrArg List.length jE;simp only [ae,ag,ah,aN,ab,af,ai] at BH;simp only [qB,aJ,cf,bJ,go_sem];refine dW _ ⟨(vy,Oy),?_,eK (by omega) (by simp only [qB,aJ,cf,bJ,go_sem])⟩;dsimp only;rw [jE,Cm,Vq,Ks,← qA];simp only [cZ,ae,ag,ah,aN,aA]);have ME:x.kids=[]:=j8 (by have h0:=of_decide_eq_false Rw;omega);rw [if_pos ME] at qA;obtain⟨Oy,jE⟩:∃ y,y=OC:=⟨_,rfl⟩;obtain⟨vy,NJ⟩:∃ y,y=vC:=⟨_,rfl⟩;rw [← jE,← NJ];simp only [qB,aJ,cf,bJ,go_sem];refine dW _ ⟨(vy,Oy),?_,eK (by omega) (by simp only [qB,aJ,cf,bJ,go_sem])⟩;dsimp only;rw [jE,Cm,Vq,Ks,← qA];simp only [cZ,ae,ag,ah,aN,aA]
  rintro⟨vb,Ob⟩ oS;dsimp only at oS;have xe:=congrArg List.length oS;simp only [ae,ag,ah,aN,ab,af,ai] at xe;dsimp only [bM];simp only [qB,aJ,cf,bJ,go_sem];refine cW (wf2 (tD 119 [.ptr 2 0,.ptr 3 0] (x.kids.map Ex.pr) _ (by first|(simp;done)|(rw [arS,au];omega)) hx.lk ⟨#[44,32]⟩ (by decide) [.ptr 0 0] [num x.kind,str x.mod,str x.name,str x.text,num x.num,.slice (.agg [num t0.kind,str t0.mod,str t0.name,.slice (t0.args.map br),.slice (t0.bD.map du)] :: ts.map br),.slice (x.labels.map b7),.slice (x.kids.map bH)] rfl rfl rfl (by have h:=aeQ hx hW;simp only [qB] at h;exact h) _ _ (by rw [aN];omega)) rfl rfl rfl _) ?_;rintro _ _ ⟨rfl,O28,v28,akm,rfl⟩;have akn:=congrArg List.length akm;simp only [ae,ag,ah,aN,ab,af,ai] at akn;simp only [qB,aJ,cf,bJ,go_sem];refine cW (lU (cL [⟨#[93]⟩] (by simp) (jh (by decide) lX) _ _ (by simp only [ae,ag,ah,aN,ab,af,ai];omega)) _ 2 rfl rfl (fun _=>rfl) rfl) ?_;rintro _ _ ⟨rfl,O29,v29,ako,rfl⟩;have akp:=congrArg List.length ako;simp only [ae,ag,ah,aN,ab,af,ai] at akp;simp only [qB,aJ,cf,bJ,go_sem]
  first
   | (have L6:=hp;rw [hp] at hK;exact hK _ _ ⟨rfl,_,_,by simp only [*,ae,ag,ah,aN,aA,ay,aC],rfl⟩)
   | (refine hK _ _ ⟨rfl,_,_,?_,rfl⟩;assumption)
 have ao2:¬ x.kind=14:=by simpa using Rv
 simp only [go_sem];refine ca (fun Rx=>?_) (fun Rx=>?_)
 ·have hk:x.kind=16:=by simpa using Rx
  simp only [go_sem];refine cW (tB (Rp x hx hk hW _ _ hO) (by simp [aG,aQ]) _) ?_;rintro _ _ ⟨rfl,O30,v30,ao3,rfl⟩;simp only [go_sem]
  first
   | (have L6:=hp;rw [hp] at hK;exact hK _ _ ⟨rfl,_,_,by simp only [*,ae,ag,ah,aN,aA,ay,aC],rfl⟩)
   | (refine hK _ _ ⟨rfl,_,_,?_,rfl⟩;assumption)
 have ao4:¬ x.kind=16:=by simpa using Rx
 simp only [go_sem];refine cW (tB (Rr x hx (by have:=hx.k0;have:=hx.k1;omega) hW _ _ hO) (by simp [aG,aQ]) _) ?_;rintro _ _ ⟨rfl,O31,v31,ao5,rfl⟩;simp only [go_sem]
 first
  | (have L6:=hp;rw [hp] at hK;exact hK _ _ ⟨rfl,_,_,by simp only [*,ae,ag,ah,aN,aA,ay,aC],rfl⟩)
  | (refine hK _ _ ⟨rfl,_,_,?_,rfl⟩;assumption)
end
theorem Ij (hP:bB.vo 1=some jG) (P:Ex→Prop) (hX:∀ x,P x→Ou x∧∀ k∈x.kids,P k):∀ (N:Nat) (x:Ex),x.size≤N→P x→WX x
 | 0,x,h,_=>absurd x.size_pos (by omega)
 | N+1,x,h,hx=>by
  obtain⟨h1,h2⟩:=hX x hx
  refine Kq hP x h1 fun k hk=>Ij hP P hX N k ?_ (h2 k hk)
  have hs:=x.qn
  obtain⟨i,hi⟩:=cb.1 hk
  have:=b9 Ex.size hi
  omega
end
section
theorem u3 (a b:ByteArray):(Qy a b=true∧a≠b∧Qy b a=false∧xJ a b = -1)∨(a=b∧Qy b a=false∧xJ a b=0)∨(Qy b a=true∧a≠b∧xJ a b=1):=by
 unfold xJ;rw [E5,E5];by_cases h1:a.data.toList<b.data.toList;·(have dL:a≠b:=fun e=>by subst e;exact arx _ h1);have h2:¬ b.data.toList<a.data.toList:=fun h2=>arx _ (arZ h1 h2);exact .inl ⟨decide_eq_true h1,dL,decide_eq_false h2,by rw [if_pos (decide_eq_true h1)]⟩
 by_cases he:a=b;·subst he;exact .inr (.inl ⟨rfl,decide_eq_false h1,by rw [if_neg (by simpa using h1),if_pos rfl]⟩)
 have dL:a.data.toList≠b.data.toList:=fun e=>he (by cases a;cases b;congr 1;exact ahi.1 e);have h2:b.data.toList<a.data.toList:=aso h1 dL.symm;exact .inr (.inr ⟨decide_eq_true h2,he,by rw [if_neg (by simpa using h1),if_neg he]⟩)
theorem aeW {a b:ByteArray} (h:xJ a b=0):xP a b=5:=by
 rcases u3 a b with ⟨-,-,-,h4⟩|⟨h1,-,-⟩|⟨-,-,h4⟩
 ·rw [h] at h4;cases h4
 ·unfold xP;rw [if_pos h1]
 rw [h] at h4;cases h4
theorem aeX {a b:ByteArray} (h:0<xJ a b):xP a b=1:=by
 rcases u3 a b with ⟨-,-,-,h4⟩|⟨-,-,h4⟩|⟨h1,h2,-⟩
 ·rw [h4] at h;exact absurd h (by decide)
 ·rw [h4] at h;exact absurd h (by decide)
 unfold xP;rw [if_neg h2,if_pos h1]
theorem aeY {a b:ByteArray} (h:¬ xJ a b=0) (h':¬ 0<xJ a b):xP a b=0:=by
 rcases u3 a b with ⟨-,h2,h3,-⟩|⟨-,-,h4⟩|⟨-,-,h4⟩
 ·unfold xP;rw [if_neg h2,if_neg (by rw [h3];simp)]
 ·exact absurd h4 h
 rw [h4] at h';exact absurd (by decide) h'
theorem Fz {ns:List ByteArray} {i:Nat} {a b:ByteArray} (hi:1≤i) (ha:ns[i-1]?=some a) (hb:ns[i]?=some b):iJ (ns.drop (i-1))=if xP a b=0 then iJ (ns.drop i) else xP a b:=by have h1:=(az.1 ha);have h2:=(az.1 hb);rw [dT h1.1,h1.2,show i-1+1=i by omega,dT h2.1,h2.2];rfl
theorem zZ {ns:List ByteArray} {i:Nat} (h:ns.length≤i+1):iJ (ns.drop i)=0:=by cases hd:ns.drop i with|nil=>rfl|cons a r =>have:=congrArg List.length hd;rw [dw,af] at this;have:r=[]:=cj.1 (by omega);subst this;rfl
theorem yR:∀ (a b:List UInt8),Lib.compareBytes a b=if Op.bytesLess a b=true then -1 else if a=b then 0 else 1
 | [],[]=>by simp [Lib.compareBytes,Op.bytesLess]
 | [],_ :: _=>by simp [Lib.compareBytes,Op.bytesLess]
 | _ :: _,[]=>by simp [Lib.compareBytes,Op.bytesLess]
 | a :: l1,b :: l2=>by
  have ih:=yR l1 l2
  unfold Lib.compareBytes Op.bytesLess
  by_cases h1:a<b
  ·simp [h1]
  by_cases h2:b<a
  ·have dL:a≠b:=fun e=>by subst e;exact UInt8.lt_irrefl _ h2
   simp [h1,h2,dL]
  have e:a=b:=UInt8.le_antisymm (UInt8.not_lt.1 h2) (UInt8.not_lt.1 h1)
  subst e
  simp [h1,ih]
theorem Vr (s t:ByteArray):∃ r,(fun v=>v=num (xJ s t)) r∧r7 aj 283 [str s,str t] r:=by
 refine⟨_,rfl,(show r7 aj 283 [str s,str t] (ka (.int .i64 (xJ s t))) from Qa (P:=aj) (fn:=Tryz.f283) (ext:=Extern.BytealgCompare.compare) Tryz.func283 kr rfl kr kr (l:=[.string s,.string t]) rfl fun w=>?_)⟩;have h:=Lib.run_compareString (P:=aj) s t w;rw [h];congr 2;rw [yR];unfold xJ Qy;rw [← ByteArray.toList_eq,← ByteArray.toList_eq];by_cases hl:Op.bytesLess s.toList t.toList=true;·rw [if_pos hl,if_pos hl]
 rw [if_neg hl,if_neg hl];by_cases he:s=t;·rw [if_pos he,if_pos (by rw [he])]
 rw [if_neg he,if_neg fun e=>he (by have h:=dh s t;rw [e] at h;simpa using h)]
theorem Vs (s t:ByteArray):Cn 271 [str s,str t] (num (xJ s t)):=by refine gy tt_ok [] 8 [.tmp 4] (fn:=Tryz.f271) Tryz.func271 rfl Tryz.call271 ⟨rfl,rfl,by simp⟩ fun K hK=>?_;simp only [go_sem];refine cN (Vr _ _) ?_;rintro _ rfl;simp only [go_sem];exact hK _ rfl
theorem BQ (s t:ByteArray):Cn 241 [str s,str t] (num (xJ s t)):=by refine gy tt_ok [] 8 [.tmp 4] (fn:=Tryz.f241) Tryz.func241 rfl Tryz.call241 ⟨rfl,rfl,by simp⟩ fun K hK=>?_;simp only [go_sem];refine dK (Vs _ _) ?_;simp only [go_sem];exact hK _ rfl
theorem NT (hG:bB.g=some 0) (x:Fd):Cn 175 [du x] (bl (!dX x.name)):=by refine gy tt_ok [] 7 [.tmp 2] (fn:=Tryz.f175) Tryz.func175 rfl Tryz.call175 ⟨rfl,rfl,by simp⟩ fun K hK=>?_;simp only [cZ,bZ,ax];simp only [go_sem];refine dK (je hG _) ?_;simp only [go_sem];exact hK _ rfl
theorem Kt (x:Fd):Cn 235 [du x] (bl (x.opt)):=by refine gy tt_ok [] 5 [.tmp 2] (fn:=Tryz.f235) Tryz.func235 rfl Tryz.call235 ⟨rfl,rfl,by simp⟩ fun K hK=>?_;simp only [cZ,bZ,ax];simp only [go_sem];exact hK _ rfl
theorem NU (x:Fd):Cn 178 [du x] (str x.name):=by refine gy tt_ok [] 5 [.tmp 2] (fn:=Tryz.f178) Tryz.func178 rfl Tryz.call178 ⟨rfl,rfl,by simp⟩ fun K hK=>?_;simp only [cZ,bZ,ax];simp only [go_sem];exact hK _ rfl
section
attribute [local go_sem] dd
theorem Ry (g:FuncId) (q:Fd→Bool) (l:List Fd) (hg:∀ x∈l,Cn g [du x] (bl (q x))) (hl:l.length≤1048576):∃ r_,(fun w=>∃ k:Int,w=num k∧decide (0≤k)=l.any q) r_∧b8 aj 181 [.slice (jf l),.sc (.func (.func g) #[] #[])] r_:=by
 refine gy tt_ok [] 19 [.tmp 4] (fn:=Tryz.f181) Tryz.func181 rfl Tryz.call181 ⟨rfl,rfl,by simp⟩ fun K hK=>?_;simp only [go_sem];refine eh tt_ok [] [8] 0 [0,1,7] (fun vs=>((l.length:Int)-Go.Eng.intOf (vs.headD .undef)).toNat) (fun vs=>∃ i:Nat,vs=[num i]∧i≤l.length∧∀ j<i,∀ x,l[j]?=some x→q x=false) (by omega) (by simp only [go_sem]) (⟨0,rfl,bj _,fun j hj=>absurd hj (cR j)⟩) fun vs hI Z1 dW=>?_;obtain⟨i,rfl,hi,dN⟩:=hI;simp only [go_sem];refine ca (fun iI=>?_) (fun iI=>?_);·(have bL:i<l.length:=by simpa using iI);have hw:=bm i (by omega);obtain⟨x,hx⟩:∃ x,l[i]?=some x:=⟨_,aw bL⟩;simp only [cZ,hw,bP,hx,bZ,ax,go_sem];refine dK (by have h:=hg x (aE hx);simp only [cZ,bZ,ax] at h;exact h) ?_;simp only [cZ,hw,bP,hx,bZ,ax,go_sem];refine ca (fun fT=>?_) (fun fT=>?_);(·(have cg:decide (0≤(i:Int))=l.any q:=by rw [lF hx fT];exact decide_eq_true (gJ i));simp only [cZ,hw,bP,hx,bZ,ax,go_sem];exact hK _ ⟨_,rfl,cg⟩);simp only [cZ,hw,bP,hx,bZ,ax,go_sem];refine dW _ (jd (by omega) (by simp only [cZ,hw,bP,hx,bZ,ax,go_sem]) ?_ ?_) <;> simp only [fY,lk,reduceIte,zE];(·refine⟨i+1,rfl,bL,fun j hj=>?_⟩;(rcases bz j i with h|h);(·exact dN j h);(obtain rfl:j=i:=by omega);intro y hy;rw [hx] at hy;cases hy;exact fT);simp only [Go.Eng.intOf,bh];omega
 have gq:¬ i<l.length:=by simpa using iI
 have cg:decide (0≤(-1:Int))=l.any q:=(any_none fun j hj=>dN j (by omega)).symm ▸ rfl;simp only [go_sem];exact hK _ ⟨_,rfl,cg⟩
end
theorem BR (g:FuncId) (q:Fd→Bool) (l:List Fd) (hg:∀ x∈l,Cn g [du x] (bl (q x))) (hl:l.length≤1048576):Cn 93 [.slice (jf l),.sc (.func (.func g) #[] #[])] (bl (l.any q)):=by refine gy tt_ok [] 9 [.tmp 4] (fn:=Tryz.f93) Tryz.func93 rfl Tryz.call93 ⟨rfl,rfl,by simp⟩ fun K hK=>?_;simp only [go_sem];refine cF (Ry g q l hg hl) ?_;rintro _ ⟨k,rfl,hk⟩;simp only [go_sem];exact hK _ (congrArg bl hk)
section
attribute [local go_sem] dd bP bZ ax
theorem Rz (g:FuncId) (l:List Fd) (hg:∀ x∈l,Cn g [du x] (str (Fd.name x))) (hl:l.length≤1048576):Cn 177 [.slice (jf l),.sc (.func (.func g) #[] #[])] (num (iJ (l.map Fd.name))):=by
 refine gy tt_ok [] 33 [.tmp 4] (fn:=Tryz.f177) Tryz.func177 rfl Tryz.call177 ⟨rfl,rfl,by simp⟩ fun K hK=>?_;simp only [go_sem];refine eh tt_ok [] [5] 0 [0,1] (fun vs=>((l.length:Int)-Go.Eng.intOf (vs.headD .undef)).toNat) (fun vs=>∃ i:Nat,vs=[num i]∧1≤i∧(1<i→i≤l.length)∧iJ (l.map Fd.name)=iJ ((l.map Fd.name).drop (i-1))) (by omega) (by simp only [go_sem]) (⟨1,rfl,aB _,fun h=>absurd h (by decide),rfl⟩) fun vs hI Z1 dW=>?_;obtain⟨i,rfl,hi,hle,hinv⟩:=hI;simp only [go_sem];refine ca (fun jZ=>?_) (fun jZ=>?_);·(have bL:i<l.length:=by simpa using jZ);obtain⟨x,hx⟩:∃ x,l[i-1]?=some x:=⟨_,aw (by omega)⟩;obtain⟨y,hy⟩:∃ y,l[i]?=some y:=⟨_,aw bL⟩;have hw:=bm i (by omega);(have jY:IntKind.i64.wrap ((i:Int)-1)=((i-1:Nat):Int):=by rw [IntWalk.i64_in _ (by omega)];omega);have js:iJ ((l.map Fd.name).drop (i-1))=if xP (Fd.name x) (Fd.name y)=0 then iJ ((l.map Fd.name).drop i) else xP (Fd.name x) (Fd.name y):=Fz hi (by rw [ak,hx];rfl) (by rw [ak,hy];rfl);simp only [cZ,hw,jY,hx,hy,go_sem];refine fL tt_ok cu [pN,pN,pN,pN,pR,pR,pN,pN,pN,pN,pR,pR,pN,pN,pN] 0 kr ?_;simp only [cZ,hw,jY,hx,hy,go_sem];refine y6 (by have h:=hg x (aE hx);simp only [cZ,bZ,ax] at h;exact h) ?_;simp only [cZ,hw,jY,hx,hy,go_sem];refine y6 (by have h:=hg y (aE hy);simp only [cZ,bZ,ax] at h;exact h) ?_;simp only [cZ,hw,jY,hx,hy,go_sem];refine y6 (BQ _ _) ?_;simp only [cZ,hw,jY,hx,hy,go_sem];refine ca (fun oD=>?_) (fun oD=>?_);(·(have cg:5=iJ (l.map Fd.name):=by rw [hinv,js,aeW (of_decide_eq_true oD)];rfl);simp only [cZ,hw,jY,hx,hy,go_sem];exact hK _ (congrArg num cg));simp only [cZ,hw,jY,hx,hy,go_sem];refine ca (fun BS=>?_) (fun BS=>?_);(·(have cg:1=iJ (l.map Fd.name):=by rw [hinv,js,aeX (of_decide_eq_true BS)];rfl);simp only [cZ,hw,jY,hx,hy,go_sem];exact hK _ (congrArg num cg));have qy:xP (Fd.name x) (Fd.name y)=0:=aeY (of_decide_eq_false oD) (of_decide_eq_false BS);simp only [cZ,hw,jY,hx,hy,go_sem];refine dW _ (jd (by omega) (by simp only [cZ,hw,jY,hx,hy,go_sem]) ?_ ?_) <;> simp only [fY,lk,reduceIte,zE];(·exact⟨i+1,rfl,by omega,fun _=>bL,by rw [hinv,js,if_pos qy];rfl⟩);simp only [Go.Eng.intOf,bh];omega
 have gq:¬ i<l.length:=by simpa using jZ
 have cg:(0:Int)=iJ (l.map Fd.name):=by rw [hinv];exact (zZ (by rw [au];omega)).symm
 simp only [go_sem];exact hK _ (congrArg num cg)
end
end
theorem ci0 (n:Nat):((n:Int)=0)=(n=0):=by rw [eq_iff_iff];omega
theorem ci1 (n:Nat):((n:Int)=1)=(n=1):=by rw [eq_iff_iff];omega
def aeZ (t:Ty) (ao:Bool):Bool :=
  (decide (t.kind=8) || !ao) &&
  (if t.kind=0∨t.kind=1∨t.kind=2∨t.kind=3∨t.kind=4 then jU t.mod&&jU t.name&&decide (t.args.length=0)&&decide (t.bD.length=0)
   else if t.kind=5 then jU t.mod&&jU t.name&&decide (t.args.length=1)&&decide (t.bD.length=0)
   else if t.kind=6∨t.kind=7 then jU t.mod&&jU t.name&&decide (t.args.length=0)
   else if t.kind=8 then jU t.mod&&jU t.name&&decide (t.args.length=1)
   else if t.kind=9 then jU t.mod&&decide (t.args.length=0)&&decide (t.bD.length=0)
   else if t.kind=10 then decide (t.bD.length=0) else false)
theorem aay (t:Ty):J8 t=aeZ t (t.bD.any Fd.opt):=rfl
theorem NV (t:Ty) (hl:t.bD.length≤1048576):Cn 171 [br t] (bl (J8 t)):=by refine gy tt_ok [] 106 [.tmp 2] (fn:=Tryz.f171) Tryz.func171 rfl Tryz.call171 ⟨rfl,rfl,by simp⟩ fun K hK=>?_;have pQ:=aay t;have As:=BR 235 Fd.opt t.bD (fun x _=>Kt x) hl;obtain⟨ao,Xl⟩:∃ b,t.bD.any Fd.opt=b:=⟨_,rfl⟩;obtain⟨em,iB⟩:∃ b,decide (t.mod=⟨#[]⟩)=b:=⟨_,rfl⟩;obtain⟨en,fO⟩:∃ b,decide (t.name=⟨#[]⟩)=b:=⟨_,rfl⟩;obtain⟨na,uh⟩:∃ b,t.args.length=b:=⟨_,rfl⟩;obtain⟨nf,Oo⟩:∃ b,t.bD.length=b:=⟨_,rfl⟩;rw [Xl] at pQ As;unfold aeZ jU at pQ;rw [iB,fO,uh,Oo] at pQ;obtain⟨k,hk⟩:∃ k,t.kind=k:=⟨_,rfl⟩;rw [hk] at pQ;rw [pQ] at hK;clear Xl pQ;simp only [aM,ax];rw [hk];clear hk;simp only [dd,aD,dh,iB,fO,uh,Oo,go_sem];refine fL tt_ok cu [pN,pR,pN,pN,pR,pN,pN,pR,pN,pN,pR,pN,pN,pN,pN,pN] 0 kr ?_;repeat' (simp only [dd,aD,dh,iB,fO,uh,Oo,go_sem];first|refine ca (fun hg=>?_) (fun hg=>?_)|refine dK (As) ?_|(exact hK _ (congrArg bl (by clear hK As iB fO uh Oo;simp_all [ci0,ci1]))))
theorem Xm (n:Nat):(32<(n:Int))=(32<n):=by rw [eq_iff_iff];omega
theorem ae0 (n:Nat):(8<(n:Int))=(8<n):=by rw [eq_iff_iff];omega
theorem RA (t:Ty):qz t=if J8 t=false then 1 else if 32<t.bD.length∨8<t.args.length then 7
 else if (t.kind=9∧xL t.name=false)∨(t.kind=10∧(nY t.mod=false∨kI t.name=false)) then 4
 else if (t.bD.any fun x=>!dX x.name)=true then 4 else iJ (t.bD.map Fd.name):=rfl
theorem Ik (hG:bB.g=some 0) (t:Ty) (hl:t.bD.length≤1048576) (hm:t.mod.size≤1048576):Cn 89 [br t] (num (qz t)):=by refine gy tt_ok [] 50 [.tmp 2] (fn:=Tryz.f89) Tryz.func89 rfl Tryz.call89 ⟨rfl,rfl,by simp⟩ fun K hK=>?_;have hS:=NV t hl;rw [aM] at hS;simp only [ax] at hS;obtain⟨sb,hsb⟩:∃ b,b=J8 t:=⟨_,rfl⟩;obtain⟨nb,qy⟩:∃ b,b=t.bD.any (fun x=>!dX x.name):=⟨_,rfl⟩;have mm:=RA t;have hA:=BR 175 (fun x=>!dX x.name) t.bD (fun x _=>NT hG x) hl;have hI:=Rz 178 t.bD (fun x _=>NU x) hl;rw [← hsb] at mm hS;rw [← qy] at mm hA;clear hsb qy;simp only [aM,ax];simp only [dd,aD,go_sem];refine dK (hS) ?_;repeat' (simp only [dd,aD,go_sem];first|refine ca (fun hg=>?_) (fun hg=>?_)|refine dK (HD _) ?_|refine dK (xM hG t.mod hm) ?_|refine dK (qm _) ?_|refine dK (hA) ?_|refine dK (hI) ?_|(exact hK _ (congrArg num (by clear hK hA hI hS;rw [mm];clear mm;simp_all [Xm,ae0] <;> (intro h;omega)))))
section
section
variable {σ:Type} {M:σ→List bx} {n k k1 k2:Nat}
theorem RB (hn:∀ s,(M s).length=n) (hk:k<n) (iw:k1<n) (kG:k2<n) (h1:∀ s,(M s)[k1]?=some (.box [.j9 k])) (h2:∀ s,(M s)[k2]?=some (.box [.iU (.func 170) [] [.ptr k1 0,.ptr k2 0]])) (hb:∀ s,(M s).all (aK n)=true)
  (step:σ→Ty→σ×Bool) (G:σ→Prop) (hG:∀ s u,G s→(step s u).2=true→G (step s u).1) {B:Nat} (hB:B≤1048576) (Pd:Ty→Prop) (hy:∀ s u,G s→u.size≤B→Pd u→IS aj k [br u] (M s) (step s u).2 (M (step s u).1)) :
  ∀ (N:Nat) (t:Ty) (s:σ),G s→(∀ v∈t.nodes,Pd v)→t.size≤N→N≤B→bI aj 170 [br t,.ptr k1 0,.ptr k2 0] (M s) (bl (dE step s t.nodes).2) (M (dE step s t.nodes).1):=by
 have g0:∀ s (l:List bx),(M s++l)[n]?=l[0]?:=fun s l=>by rw [a8 (by rw [hn];exact aB _),hn,dR]
 have g1:∀ s (l:List bx),(M s++l)[n+1]?=l[1]?:=fun s l=>by rw [a8 (by rw [hn];omega),hn,ee]
 have W3:∀ s (l:List bx),(M s++l)[k1]?=some (.box [.j9 k]):=fun s l=>by rw [bA (by rw [hn];exact iw)];exact h1 s
 have gk2:∀ s (l:List bx),(M s++l)[k2]?=some (.box [.iU (.func 170) [] [.ptr k1 0,.ptr k2 0]]):=fun s l=>by rw [bA (by rw [hn];exact kG)];exact h2 s
 have gs:∀ s (l:List bx) X,(M s++l).set n X=M s++l.set 0 X:=fun s l X=>by rw [eH _ _ (by rw [hn];exact aB _),hn,dR]
 have gt:∀ s (l:List bx),(M s++l).take n=M s:=fun s l=>by rw [← hn s,rq]
 have W4:∀ s,(M s).take n=M s:=fun s=>by rw [bR (by rw [hn];exact aB _)]
 have fy:∀ s u (l:List bx),G s→u.size≤B→Pd u→IS aj k [br u] (M s++l) (step s u).2 (M (step s u).1++l):=fun s u l hg hu hp=>by refine (hy s u hg hu hp).frame (by rw [hn];exact hk) ?_ (by rw [hn];exact hb s) (by rw [hn,hn]) (by rw [hn];exact hb _) l;rw [aM];simp [aG,aQ,ax]
 intro N;induction N with|zero=>intro t s hg hP h;have:=t.size_pos;omega|succ N ih =>intro t s hg hP hN hNB;have vj:=t.fE;have nZ:=t.dB;have QM:=ch Ty.size Ty.size_pos t.parts;have dL:=t.er;have hp:=xO t (by omega);have QQ:=fun l=>fy s t l hg (by omega) (hP t (by rw [t.er];simp));(have W5:∀ u s (l:List bx),G s→(∀ v∈u.nodes,Pd v)→u.size≤N→bI aj 170 [br u,.ptr k1 0,.ptr k2 0] (M s++l) (bl (dE step s u.nodes).2) (M (dE step s u.nodes).1++l):=fun u s l hg hq hu=>by refine (ih u s hg hq hu (by omega)).frame ?_ (by rw [hn];exact hb s) rfl (by rw [hn,hn]) (by rw [hn];exact hb _) l;rw [aM,hn];simp [aG,aQ,ax,iw,kG]);simp only [aM,ax] at W5;refine ov tt_ok (fn:=Tryz.f170) n (by rw [hn];exact aB _) Tryz.func170 rfl Tryz.call170 ?_;simp only [cZ,cO,Tryz.ntmps170,af,ai,zA,zF,aH,aI];rw [aM] at hp QQ ⊢;simp only [ax] at hp QQ ⊢;refine aq tt_ok fun K hK=>?_;simp only [hn,go_sem];refine hK _ ?_;refine bE ?_;refine aq tt_ok fun K hK=>?_;simp only [W3,g0,hn,go_sem];refine .inl ⟨_,_,QQ _,?_⟩;(try simp only [go_sem]);refine hK _ ?_;cases QR:(step s t).2 with|false =>refine bd rfl ?_;refine aq tt_ok fun K hK=>?_;simp only [go_sem];refine hK _ ?_;refine cn ⟨.inl rfl,?_⟩;(have oN:dE step s t.nodes=((step s t).1,false):=by rw [dL];simp [dE,QR]);rw [oN];exact⟨rfl,rfl,by dsimp only;rw [gt];exact hb _,(gt _ _).symm⟩|true =>refine bd rfl (cw ?_);show ek _ _ _ _ _ _;refine bE ?_;refine aq tt_ok fun K hK=>?_;simp only [W3,g0,hn,go_sem];refine .inl ⟨_,_,by simp only [aD,go_sem,al],hp,?_⟩;(try simp only [aD,go_sem]);refine hK _ ?_;obtain⟨ps,Bn⟩:∃ ps,ps=t.parts:=⟨_,rfl⟩;rw [← Bn] at nZ QM dL ⊢;have hPp:∀ u∈ps,∀ v∈u.nodes,Pd v:=fun u hu v hv=>hP v (by rw [dL];exact ct _ (iN.2 ⟨u,hu,hv⟩));refine bU (dj (fun N st=>∃ (i:Nat) (s':σ),G s'∧N=ps.length-i∧i≤ps.length∧dE step s (t :: (ps.take i).flatMap Ty.nodes)=(s',true) ∧ st = { fr:=[.undef,.ptr k1 0,.ptr k2 0,.undef,.undef,.undef,.undef,.undef,.undef,.undef,.undef,.undef,.slice (cX ps),num ps.length,num i]++List.replicate 8 .undef,mem:=M s' }) ps.length ?_ ?_);(·refine⟨n,(false::true::true::(rp 9 false [true,true,true])),by rw [hn];exact aB _,by simp only [aW,aG,aQ,aK,zB,iw,kG,ef],by dsimp only;rw [gt];exact hb _,0,(step s t).1,hG s t hg QR,by omega,by omega,by simp [dE,QR],?_⟩;dsimp only;rw [gt];rfl);rintro N' st ⟨i,s',Gp,rfl,hi,QS,rfl⟩;simp only [cZ,aH,aI];by_cases bL:i<ps.length;(·have hd:=iR bL;refine aq tt_ok fun K hK=>?_;simp only [aD,hd,go_sem];refine hK _ ?_;refine bE (bd rfl (cw ?_));refine bE (bU ?_);obtain⟨u,hu⟩:∃ u,ps[i]?=some u:=⟨_,aw bL⟩;have ZM:=b9 Ty.size hu;have j7:=fun l=>W5 u s' l Gp (hPp u (aE hu)) (by omega);(have zT:(ps.take (i+1)).flatMap Ty.nodes=(ps.take i).flatMap Ty.nodes++u.nodes:=by rw [bY,hu];simp);(have DA:dE step s (t :: (ps.take (i+1)).flatMap Ty.nodes)=dE step s' u.nodes:=by rw [zT,← ay,jB,QS];simp);refine aq tt_ok fun K hK=>?_;simp only [bn,hu,aM,ax,hn,g0,gs,go_sem];refine hK _ ?_;refine aq tt_ok fun K hK=>?_;simp only [gk2,g0,hn,go_sem];(refine .inr <| .inl ⟨_,_,j7 _,?_⟩);(try simp only [go_sem]);refine hK _ ?_;cases QT:(dE step s' u.nodes).2 with|false =>refine bd rfl ?_;refine aq tt_ok fun K hK=>?_;simp only [go_sem];refine hK _ ?_;refine cn ⟨.inl rfl,?_⟩;(have oN:dE step s t.nodes=((dE step s' u.nodes).1,false):=by (have Bq:ps.flatMap Ty.nodes=(ps.take (i+1)).flatMap Ty.nodes++(ps.drop (i+1)).flatMap Ty.nodes:=by rw [← pU,kT]);rw [dL,Bq,← ay,jB,DA,QT];simp);rw [oN];exact⟨rfl,rfl,by dsimp only;rw [gt];exact hb _,(gt _ _).symm⟩|true =>refine bd rfl (cw ?_);show ek _ _ _ _ _ _;refine a7 tt_ok fun K hK=>?_;simp only [go_sem];refine hK _ ?_;have ix:=bm i (by omega);rw [ix];refine⟨ps.length-(i+1),by omega,n,(false::true::true::(rp 9 false [true,true,true])),by rw [hn];exact aB _,by simp only [aW,aG,aQ,aK,zB,iw,kG,ef],by dsimp only;rw [gt];exact hb _,i+1,(dE step s' u.nodes).1,ra step hG _ _ Gp QT,rfl,bL,by rw [DA,← QT],?_⟩;dsimp only;rw [gt];rfl);have hd:=iS bL;refine aq tt_ok fun K hK=>?_;simp only [aD,hd,go_sem];refine hK _ ?_;refine bE (bd rfl (ep ?_));(have lh:i=ps.length:=by omega);subst lh;show ek _ _ _ _ _ _;refine aq tt_ok fun K hK=>?_;simp only [go_sem];refine hK _ ?_;refine cn ⟨.inl rfl,?_⟩;rw [al] at QS;rw [dL,QS];exact⟨rfl,rfl,by dsimp only;rw [W4];exact hb _,(W4 _).symm⟩
end
section
variable {σ:Type} {M:σ→List bx} {n k kt:Nat}
theorem RC (hn:∀ s,(M s).length=n) (hk:k<n) (Nl:kt<n) {t:Ty} (h1:∀ s,(M s)[kt]?=some (.box (ax t))) (hb:∀ s,(M s).all (aK n)=true)
  (step:σ→Ty→σ×Bool) (G:σ→Prop) (hG:∀ s u,G s→(step s u).2=true→G (step s u).1) {B:Nat} (hB:B≤1048576) (Pd:Ty→Prop) (hy:∀ s u,G s→u.size≤B→Pd u→IS aj k [br u] (M s) (step s u).2 (M (step s u).1)) (ht:t.size≤B) (hP:∀ v∈t.nodes,Pd v) (s:σ) (hs:G s) :
  bI aj 169 [.j9 k,.ptr kt 0] (M s) (.eg []) (M (dE step s t.nodes).1):=by
 have g0:∀ s (l:List bx),(M s++l)[n]?=l[0]?:=fun s l=>by rw [a8 (by rw [hn];exact aB _),hn,dR]
 have g1:∀ s (l:List bx),(M s++l)[n+1]?=l[1]?:=fun s l=>by rw [a8 (by rw [hn];omega),hn,ee]
 have W6:∀ s (l:List bx),(M s++l)[kt]?=some (.box (ax t)):=fun s l=>by rw [bA (by rw [hn];exact Nl)];exact h1 s
 have gs:∀ s (l:List bx) X,(M s++l).set (n+1) X=M s++l.set 1 X:=fun s l X=>by rw [eH _ _ (by rw [hn];omega),hn,ee]
 have gt:∀ s (l:List bx),(M s++l).take n=M s:=fun s l=>by rw [← hn s,rq]
 have hw:∀ s,G s→bI aj 170 [br t,.ptr n 0,.ptr (n+1) 0] (M s++[.box [.j9 k],.box [.iU (.func 170) [] [.ptr n 0,.ptr (n+1) 0]]]) (bl (dE step s t.nodes).2) (M (dE step s t.nodes).1++[.box [.j9 k],.box [.iU (.func 170) [] [.ptr n 0,.ptr (n+1) 0]]]):=fun s hs=>by refine RB (M:=fun s=>M s++[.box [.j9 k],.box [.iU (.func 170) [] [.ptr n 0,.ptr (n+1) 0]]]) (n:=n+2) (k:=k) (k1:=n) (k2:=n+1) (fun s=>by simp [hn]) (by omega) (by omega) (by omega) (fun s=>g0 _ _) (fun s=>g1 _ _) (fun s=>?_) step G hG hB Pd (fun s u hg hu hq=>?_) t.size t s hs hP (aB _) ht;(·rw [kK,aL];refine⟨qO (by omega) (hb s),?_⟩;simp [aK,aG,aQ];omega);refine (hy s u hg hu hq).frame (by rw [hn];exact hk) ?_ (by rw [hn];exact hb s) (by rw [hn,hn]) (by rw [hn];exact hb _) _;rw [aM];simp [aG,aQ,ax]
 refine ov tt_ok (fn:=Tryz.f169) n (by rw [hn];exact aB _) Tryz.func169 rfl Tryz.call169 ?_;simp only [cZ,cO,Tryz.ntmps169,af,ai,zA,zF,aH,aI];have um:=hw s hs;rw [aM] at um;simp only [ax] at um W6;refine aq tt_ok fun K hK=>?_;simp only [hn,go_sem];refine hK _ ?_;refine aq tt_ok fun K hK=>?_;simp only [hn,ab,aA,go_sem];refine hK _ ?_;refine aq tt_ok fun K hK=>?_;simp only [hn,g1,gs,go_sem];refine hK _ ?_;refine a7 tt_ok fun K hK=>?_;simp only [hn,g1,W6,go_sem];refine .inr <| .inl ⟨_,_,um,?_⟩
 try simp only [go_sem]
 refine hK _ ?_;refine⟨.inr rfl,rfl,rfl,?_,?_⟩;·dsimp only;rw [gt];exact hb _
 dsimp only;rw [gt]
theorem Ku {n0:Nat} {st:St} {Q:Exit→St→Prop} {f:Operand} {params:Array Tmp} {assign body:Code} {t:Ty} (pre:σ→List bx) (s0:σ) (n kt:Nat) (ng:st.mem=pre s0) (hn:∀ s,(pre s).length=n) (Nl:kt<n)
  (ht:∀ s,(pre s)[kt]?=some (.box (ax t))) (hb:∀ s,(pre s).all (aK (n+1))=true) (zw:st.fr.all (aG (n+1))=true) (hf:st.eval f = .iU (.func 169) [] [.ptr kt 0]) (hp:params.size=1) (step:σ→Ty→σ×Option Code) {B:Nat} (hB:B≤1048576) (kO:t.size≤B) (Pd:Ty→Prop) (hPt:∀ v∈t.nodes,Pd v)
  (Br:∀ s u,u.size≤B→Pd u→∀ (l:Nat) (LR LB:bx),aK (n+1) LR=true→aK (n+1) LB=true→ek aj (some l) (n+1) assign { fr:=o7 params.toList [br u] st.fr,mem:=pre s++[LR] } fun ex tK=>ex = .normal∧tK.mem[n]?=some LR ∧
   ek aj (some l) (n+1) body { tK with mem:=tK.mem.set n LB } fun ex zI=>si ex=some (step s u).2∧zI.mem[n]?=some LB∧zI.mem.take n=pre (step s u).1)
  (hq:match (jg step s0 t.nodes).2 with
   | none=>Q .normal { st with mem:=pre (jg step s0 t.nodes).1++[.dead] }
   | some c=>ek aj none n0 c { st with mem:=pre (jg step s0 t.nodes).1++[.dead] } Q):ek aj none n0 (.rangeFunc f params assign body) st Q:=by
 have hlen:st.mem.length=n:=by rw [ng,hn]
 have gn:∀ s X,(pre s++[X])[n]?=some X:=fun s X=>by rw [a8 (by rw [hn];exact aB _),hn,dR];rfl
 have gk:∀ s X,(pre s++[X])[kt]?=some (.box (ax t)):=fun s X=>by rw [bA (by rw [hn];exact Nl)];exact ht s
 have HJ:∀ s (X Y:bx),(pre s++[X]).set n Y=pre s++[Y]:=fun s X Y=>by rw [eH _ _ (by rw [hn];exact aB _),hn,dR];rfl
 have yN:∀ (s:σ) (a:LoopState) (b:Option Code),(pre s++[bx.loop a b st.fr params assign body]).all (aK (n+1))=true:=fun s a b=>by rw [kK,aL];exact⟨hb s,by simp only [cH,dS,aO,aK];exact zw⟩
 have it:=RC (M:=fun s:σ×Option Code=>pre s.1++[.loop (if s.2.isNone then .ready else .done) s.2 st.fr params assign body]) (n:=n+1) (k:=n) (kt:=kt) (t:=t) (fun s=>by simp [hn]) (by omega) (by omega) (fun s=>gk _ _) (fun s=>yN _ _ _)
  (wE step) (fun s=>s.2=none) (fun s u hs h=>by simpa [wE] using h) hB Pd (fun s u hs hu hq=>by
   obtain⟨s,j⟩:=s
   simp only at hs;subst hs
   refine sj (fr:=st.fr) (params:=params) (assign:=assign) (body:=body) (gn _ _) (by simp [hp]) fun l=>?_
   have hl:(pre s++[bx.loop .ready none st.fr params assign body]).length=n+1:=by simp [hn]
   simp only [abY,if_true,hl]
   refine ek.mono (Br s u hu hq l (.loop .ready none st.fr params assign body) (.loop .busy none st.fr params assign body) zw zw) ?_
   rintro ex tK ⟨h1,h2,h3⟩
   refine⟨h1,h2,ek.mono h3 ?_⟩
   rintro ex zI ⟨h4,h5,h6⟩
   refine⟨_,h4,rfl,h5,?_,?_⟩
   ·rw [take_set (hn _) h5 h6];exact yN _ _ _
   rw [take_set (hn _) h5 h6];rfl) kO hPt (s0,none) rfl
 rw [zU] at it;refine pI (g:=169) (vs:=[.j9 n,.ptr kt 0]) (by rw [hf,hlen];rfl) (by rw [ng];exact it) ?_;rw [hlen];refine⟨_,_,_,_,_,_,gn _ _,?_,?_⟩;·cases (jg step s0 t.nodes).2 <;> simp
 generalize hj:(jg step s0 t.nodes).2=j at hq;cases j with|none=>dsimp only at hq ⊢;rw [HJ];exact hq|some c=>dsimp only at hq ⊢;rw [HJ];exact hq
end
end
theorem RD (t:Ty):mg t=if decide (4096<(t.size:Int))||decide (32<(t.depth:Int)) then 7 else cy qz t.nodes:=by unfold mg;by_cases h1:4096<t.size <;> by_cases h2:32<t.depth <;> simp [h1,h2] <;> (intros;omega)
theorem sZ {α:Type} (f:α→Int) (c:Code):∀ (l:List α) (s:Int),jg (fun (s:Int) u=>if decide (f u=0)=true then (s,none) else (f u,some c)) s l=if decide (cy f l=0)=true then (s,none) else (cy f l,some c)
 | [],s=>by simp [jg,cy]
 | u :: r,s=>by
  by_cases h:f u=0
  ·simp only [jg,cy,h,decide_true,if_true]
   exact sZ f c r s
  have hd:decide (f u=0)=false:=decide_eq_false h
  simp [jg,cy,hd,h]
theorem rf (hG:bB.g=some 0) (t:Ty) (ht:t.size≤1048576) (hP:∀ v∈t.nodes,v.mod.size≤1048576):b8 aj 35 [br t] (num (mg t)):=by have h14:=od t ht;have Tx:=J7 t.size t (aB _) ht;have ZN:=fun B0 B1 h=>HI t [B0,B1] h;refine jL tt_ok (fn:=Tryz.f35) Tryz.func35 rfl Tryz.call35 ?_;simp only [cZ,cO,Tryz.ntmps35,af,ai,zA,zF,aH,aI];rw [aM] at h14 Tx ZN ⊢;simp only [ax] at h14 Tx ZN ⊢;refine aq tt_ok fun K hK=>?_;simp only [go_sem];refine hK _ ?_;refine bE ?_;have res:mg t=if decide (4096<(t.size:Int))||decide (32<(t.depth:Int)) then 7 else cy qz t.nodes:=RD t;cases c1:decide (4096<(t.size:Int)) with|true =>rw [c1] at res;refine aq tt_ok fun K hK=>?_;simp only [c1,go_sem];refine .inl ⟨_,_,by simp only [c1,go_sem,al],h14,?_⟩;(try simp only [c1,go_sem]);refine hK _ ?_;refine bd rfl ?_;refine aq tt_ok fun K hK=>?_;simp only [go_sem];refine hK _ ?_;refine cn ⟨.inl rfl,?_⟩;rw [res];rfl|false =>rw [c1] at res;cases c2:decide (32<(t.depth:Int)) with|true =>rw [c2] at res;refine aq tt_ok fun K hK=>?_;simp only [c1,go_sem];refine .inl ⟨_,_,by simp only [c1,go_sem,al],h14,?_⟩;(try simp only [c1,go_sem]);refine .inl ⟨_,_,by simp only [c2,go_sem,al],Tx,?_⟩;(try simp only [c2,go_sem]);refine hK _ ?_;refine bd rfl ?_;refine aq tt_ok fun K hK=>?_;simp only [go_sem];refine hK _ ?_;refine cn ⟨.inl rfl,?_⟩;rw [res];rfl|false =>rw [c2] at res;refine aq tt_ok fun K hK=>?_;simp only [c1,go_sem];refine .inl ⟨_,_,by simp only [c1,go_sem,al],h14,?_⟩;(try simp only [c1,go_sem]);refine .inl ⟨_,_,by simp only [c2,go_sem,al],Tx,?_⟩;(try simp only [c2,go_sem]);refine hK _ ?_;refine bd rfl (cw ?_);show ek _ _ _ _ _ _;refine bE ?_;refine aq tt_ok fun K hK=>?_;simp only [go_sem];(refine .inr <| .inl ⟨_,_,ZN _ _ rfl,?_⟩);(try simp only [go_sem]);refine hK _ ?_;refine bU (Ku (t:=t) (B:=1048576) (fun s:Int=>[.box (ax t),.box [num s],.box (ax t)]) 0 3 2 rfl (fun _=>rfl) (by omega) (fun _=>rfl) (fun _=>rfl) rfl rfl rfl (fun s u=>if decide (qz u=0)=true then (s,none) else (qz u,some .ret)) (by omega) ht (fun v=>v.mod.size≤1048576) hP ?_ ?_);(·intro s u hu hm l LR LB hLR hLB;have vj:=u.fE;obtain⟨_,rfl,hn⟩:=Ik hG u (by omega) hm;rw [aM] at hn ⊢;simp only [ax] at hn;simp only [cZ,o7,ax,bw,bo];refine a7 tt_ok fun K hK=>?_;simp only [go_sem];refine hK _ ?_;refine⟨rfl,rfl,bU ?_⟩;simp only [bw,bo];refine aq tt_ok fun K hK=>?_;simp only [go_sem];refine .inl ⟨_,_,by simp only [go_sem,al],hn,?_⟩;(try simp only [go_sem]);refine hK _ ?_;refine bE ?_;cases c3:decide (qz u=0) with|true =>refine a7 tt_ok fun K hK=>?_;simp only [c3,go_sem];refine hK _ ?_;refine bd rfl (cw ?_);exact⟨rfl,rfl,rfl⟩|false =>refine a7 tt_ok fun K hK=>?_;simp only [c3,go_sem];refine hK _ ?_;refine bd rfl ?_;refine aq tt_ok fun K hK=>?_;simp only [go_sem];refine hK _ ?_;exact cn ⟨rfl,rfl,rfl⟩);rw [sZ];simp only [bu,bF,if_false] at res;rw [res];cases c4:decide (cy qz t.nodes=0) with|true =>have e0:cy qz t.nodes=0:=of_decide_eq_true c4;simp only [if_true];show ek _ _ _ _ _ _;refine aq tt_ok fun K hK=>?_;simp only [go_sem];refine hK _ ?_;refine cn ⟨.inl rfl,?_⟩;rw [e0];rfl|false =>simp only [bF,if_false];exact cn ⟨.inl rfl,rfl⟩
section
theorem FA (l:List Lb):ij l≤l.length:=List.length_filter_le _ _
theorem DQ {l:List Lb} {i:Nat} {x:Lb} (h:l[i]?=some x) (ho:x.opt=true):ij (l.take (i+1))=ij (l.take i)+1:=by unfold ij;rw [bY,h];simp [ho]
theorem DR {l:List Lb} {i:Nat} {x:Lb} (h:l[i]?=some x) (ho:x.opt=false):ij (l.take (i+1))=ij (l.take i):=by unfold ij;rw [bY,h];simp [ho]
theorem jv (t:Ty):Cn 250 [br t] (bl (iX t)):=by refine gy tt_ok [] 28 [.tmp 2] (fn:=Tryz.f250) Tryz.func250 rfl Tryz.call250 ⟨rfl,rfl,by simp⟩ fun K hK=>?_;simp only [aM,ax];repeat' (simp only [dd,aD,dh,go_sem];first|refine ca (fun hg=>?_) (fun hg=>?_)|(exact hK _ (congrArg bl (by clear hK;unfold iX jU;simp_all))))
section
attribute [local go_sem] dh
theorem Il (s:ByteArray):Cn 275 [str s] (num (xT s)):=by
 refine gy tt_ok [30000] 17 [.tmp 2] (fn:=Tryz.f275) Tryz.func275 rfl Tryz.call275 ⟨rfl,rfl,by simp⟩ fun K hK=>?_;simp only [go_sem];refine sq tt_ok [30000] ?_;simp only [go_sem];refine fZ tt_ok [30000] [4] 0 [0,2,3] (fun vs=>vs=[bl (rC s xS)]) (fun Z1 dW=>?_) ?_;·repeat' (simp only [go_sem];first|refine ca (fun hg=>?_) (fun hg=>?_)|(refine dW _ (gP (by omega) (by simp only [go_sem]) ?_);simp only [fY,lk,reduceIte,zE];exact congrArg (fun b=>[bl b]) (by simp_all [xS,rC])))
 intro vs hJ;obtain rfl:=hJ;simp only [go_sem];refine ca (fun hc4=>?_) (fun hc4=>?_) <;> simp only [go_sem];·exact hK _ (congrArg num (by clear hK;unfold xT;simp_all [xS,y9,rC]))
 refine fZ tt_ok [30000] [14] 0 [0,2,3,4,5,6,7,8,9,10,11,12,13] (fun vs=>vs=[bl (rC s y9)]) (fun Z2 pP=>?_) ?_;·repeat' (simp only [go_sem];first|refine ca (fun hg=>?_) (fun hg=>?_)|(refine pP _ (gP (by omega) (by simp only [go_sem]) ?_);simp only [fY,lk,reduceIte,zE];exact congrArg (fun b=>[bl b]) (by simp_all [y9,rC])))
 intro vs hJ;obtain rfl:=hJ;repeat' (simp only [go_sem];first|refine ca (fun hg=>?_) (fun hg=>?_)|(exact hK _ (congrArg num (by clear hK;unfold xT;simp_all [xS,y9,rC]))))
end
section
attribute [local go_sem] au
theorem Vt (x:Ex) (fl:ByteArray) (ty kd:Int) (lb:Bool) (hl:x.labels.length≤1048576) (po : -1≤kd∧kd≤100):Cn 248 [bH x,.agg [str fl,num ty,bl lb,num kd]] (num (fG x kd)):=by
 refine gy tt_ok [] 42 [.tmp 4] (fn:=Tryz.f248) Tryz.func248 rfl Tryz.call248 ⟨rfl,rfl,by simp⟩ fun K hK=>?_;simp only [bk,aX];simp only [go_sem];refine ca (fun LZ=>?_) (fun LZ=>?_) <;> simp only [go_sem];·refine dK (Il _) ?_;simp only [go_sem];first|exact hK _ (congrArg num cg)|exact hK _ (congrArg num (by clear hK;unfold fG;simp_all <;> omega))
 refine ca (fun kR=>?_) (fun kR=>?_) <;> simp only [go_sem];·refine eh tt_ok [] [22,5] 2 [2,3,4,8,15,20,21] (fun vs=>((x.labels.length:Int)-Go.Eng.intOf (vs.headD .undef)).toNat) (fun vs=>∃ i:Nat,vs=[num i,num ((1+ij (x.labels.take i):Nat):Int)]∧i≤x.labels.length) (by omega) (by simp only [go_sem]) (⟨0,rfl,bj _⟩) fun vs hI Z1 dW=>?_;obtain⟨i,rfl,hi⟩:=hI;simp only [go_sem];refine ca (fun E9=>?_) (fun E9=>?_);(·(have bL:i<x.labels.length:=by simpa using E9);have hw:=bm i (by omega);obtain⟨l,hx⟩:∃ l,x.labels[i]?=some l:=⟨_,aw bL⟩;have kf:=FA (x.labels.take i);rw [cQ] at kf;have fM:IntKind.i64.wrap (((1+ij (x.labels.take i):Nat):Int)+1)=((1+ij (x.labels.take i)+1:Nat):Int):=bm _ (by omega);simp only [hw,fM,ak,hx,b7,ax,ay,aC,go_sem];refine ca (fun oD=>?_) (fun oD=>?_);(·(have DA:((1+ij (x.labels.take (i+1)):Nat):Int)=((1+ij (x.labels.take i)+1:Nat):Int):=by rw [DQ hx oD];omega);simp only [hw,fM,ak,hx,b7,ax,ay,aC,go_sem];refine dW _ (jd (by omega) (by simp only [hw,fM,ak,hx,b7,ax,ay,aC,go_sem]) ?_ ?_) <;> simp only [fY,lk,reduceIte,zE];(·exact⟨i+1,by rw [DA],bL⟩);simp only [Go.Eng.intOf,bh];omega);(have DA:((1+ij (x.labels.take (i+1)):Nat):Int)=((1+ij (x.labels.take i):Nat):Int):=by rw [DR hx oD]);simp only [hw,fM,ak,hx,b7,ax,ay,aC,go_sem];refine dW _ (jd (by omega) (by simp only [hw,fM,ak,hx,b7,ax,ay,aC,go_sem]) ?_ ?_) <;> simp only [fY,lk,reduceIte,zE];(·exact⟨i+1,by rw [DA],bL⟩);simp only [Go.Eng.intOf,bh];omega);(have gq:¬ i<x.labels.length:=by simpa using E9);have hlen:x.labels.take i=x.labels:=bR (by omega);(have cg:((1+ij (x.labels.take i):Nat):Int)=fG x kd:=by rw [hlen];unfold fG;simp_all);simp only [go_sem];first|exact hK _ (congrArg num cg)|exact hK _ (congrArg num (by clear hK;unfold fG;simp_all <;> omega))
 refine ca (fun J2=>?_) (fun J2=>?_);·simp only [go_sem];first|exact hK _ (congrArg num cg)|exact hK _ (congrArg num (by clear hK;unfold fG;simp_all <;> omega))
 have CO:IntKind.i64.wrap (kd+(x.labels.length:Int))=kd+x.labels.length:=IntWalk.i64_in _ (by omega);simp only [CO,go_sem];first|exact hK _ (congrArg num cg)|exact hK _ (congrArg num (by clear hK;unfold fG;simp_all <;> omega))
end
theorem oL (hG:bB.g=some 0) (m:List bx) (hm:m.all (aK m.length)=true) (k:Nat) (fl:ByteArray) (ty kd:Int) (lb:Bool) (hk:m[k]?=some (.box [str fl,num ty,bl lb,num kd])) (s:ByteArray) (hf:fl.size≤1048576):∃ r_,(fun w=>w=bl (cD fl s)) r_∧bI aj 246 [str s,.ptr k 0] (m) r_ (m):=by refine M7 tt_ok [] 8 [.tmp 3] (fn:=Tryz.f246) Tryz.func246 rfl Tryz.call246 ⟨rfl,rfl,by simp⟩ fun K hK=>?_;simp only [al,hm,hk,decide_true,hk,go_sem];refine dK (⟨_,rfl,sI hG _ _ (by omega)⟩) ?_;simp only [al,hm,hk,decide_true,hk,go_sem];exact hK _ _ ⟨rfl,rfl⟩
theorem FD (hG:bB.g=some 0) (m:List bx) (hm:m.all (aK m.length)=true) (k:Nat) (fl:ByteArray) (ty kd:Int) (lb:Bool) (hk:m[k]?=some (.box [str fl,num ty,bl lb,num kd])) (s:ByteArray) (hf:fl.size≤1048576):∃ r_,(fun w=>w=bl (cD fl s)) r_∧bI aj 251 [str s,.ptr k 0] (m) r_ (m):=by refine M7 tt_ok [] 8 [.tmp 3] (fn:=Tryz.f251) Tryz.func251 rfl Tryz.call251 ⟨rfl,rfl,by simp⟩ fun K hK=>?_;simp only [al,hm,hk,decide_true,hk,go_sem];refine dK (⟨_,rfl,sI hG _ _ (by omega)⟩) ?_;simp only [al,hm,hk,decide_true,hk,go_sem];exact hK _ _ ⟨rfl,rfl⟩
section
attribute [local go_sem] dh
theorem RE (hG:bB.g=some 0) (b0:bx) (lg:∀ n,3≤n→aK n b0=true) (fl:ByteArray) (ty kd:Int) (lb:Bool) (hf:fl.size≤1048576) (l:Lb):∃ r_,(fun w=>w=bl (mw fl l)) r_∧bI aj 249 [b7 l,.ptr 2 0] ([b0,.box [str fl,num ty,bl lb,num kd],.box [.iU (.func 246) [] [.ptr 1 0]]]) r_ ([b0,.box [str fl,num ty,bl lb,num kd],.box [.iU (.func 246) [] [.ptr 1 0]]]):=by
 refine M7 tt_ok [] 32 [.tmp 3] (fn:=Tryz.f249) Tryz.func249 rfl Tryz.call249 ⟨rfl,rfl,by simp⟩ fun K hK=>?_;have jW:=lg 3 (aB _);simp only [cZ,b7,ax];simp only [↓jW,go_sem];refine ca (fun nO=>?_) (fun nO=>?_) <;> simp only [↓jW,go_sem];·refine Cj (oL hG _ (by simp only [cH,dS,sA,sB,pe,sC,pf,pg,aG,aQ,af,ai,zA,zB,decide_true,oP,aO,lg,zC]) 1 fl ty kd lb rfl _ hf) ?_;simp only [↓jW,go_sem];refine ca (fun ql=>?_) (fun ql=>?_) <;> simp only [↓jW,go_sem];(·exact hK _ _ ⟨congrArg bl (by clear hK;unfold mw jU;simp_all),rfl⟩);refine dK (by have h:=jv l.ty;rw [aM] at h;exact h) ?_;simp only [↓jW,go_sem];refine ca (fun qZ=>?_) (fun qZ=>?_) <;> simp only [↓jW,go_sem];(·refine Cj (oL hG _ (by simp only [cH,dS,sA,sB,pe,sC,pf,pg,aG,aQ,af,ai,zA,zB,decide_true,oP,aO,lg,zC]) 1 fl ty kd lb rfl _ hf) ?_;simp only [↓jW,go_sem];refine ca (fun Kv=>?_) (fun Kv=>?_) <;> simp only [↓jW,go_sem];(·exact hK _ _ ⟨congrArg bl (by clear hK;unfold mw jU;simp_all),rfl⟩);refine ca (fun u4=>?_) (fun u4=>?_) <;> simp only [↓jW,go_sem];(·refine Cj (oL hG _ (by simp only [cH,dS,sA,sB,pe,sC,pf,pg,aG,aQ,af,ai,zA,zB,decide_true,oP,aO,lg,zC]) 1 fl ty kd lb rfl _ hf) ?_;simp only [↓jW,go_sem];exact hK _ _ ⟨congrArg bl (by clear hK;unfold mw jU;simp_all),rfl⟩);exact hK _ _ ⟨congrArg bl (by clear hK;unfold mw jU;simp_all),rfl⟩);refine ca (fun u4=>?_) (fun u4=>?_) <;> simp only [↓jW,go_sem];(·refine Cj (oL hG _ (by simp only [cH,dS,sA,sB,pe,sC,pf,pg,aG,aQ,af,ai,zA,zB,decide_true,oP,aO,lg,zC]) 1 fl ty kd lb rfl _ hf) ?_;simp only [↓jW,go_sem];exact hK _ _ ⟨congrArg bl (by clear hK;unfold mw jU;simp_all),rfl⟩);exact hK _ _ ⟨congrArg bl (by clear hK;unfold mw jU;simp_all),rfl⟩
 refine dK (by have h:=jv l.ty;rw [aM] at h;exact h) ?_;simp only [↓jW,go_sem];refine ca (fun qZ=>?_) (fun qZ=>?_) <;> simp only [↓jW,go_sem];·refine Cj (oL hG _ (by simp only [cH,dS,sA,sB,pe,sC,pf,pg,aG,aQ,af,ai,zA,zB,decide_true,oP,aO,lg,zC]) 1 fl ty kd lb rfl _ hf) ?_;simp only [↓jW,go_sem];refine ca (fun Kv=>?_) (fun Kv=>?_) <;> simp only [↓jW,go_sem];(·exact hK _ _ ⟨congrArg bl (by clear hK;unfold mw jU;simp_all),rfl⟩);refine ca (fun u4=>?_) (fun u4=>?_) <;> simp only [↓jW,go_sem];(·refine Cj (oL hG _ (by simp only [cH,dS,sA,sB,pe,sC,pf,pg,aG,aQ,af,ai,zA,zB,decide_true,oP,aO,lg,zC]) 1 fl ty kd lb rfl _ hf) ?_;simp only [↓jW,go_sem];exact hK _ _ ⟨congrArg bl (by clear hK;unfold mw jU;simp_all),rfl⟩);exact hK _ _ ⟨congrArg bl (by clear hK;unfold mw jU;simp_all),rfl⟩
 refine ca (fun u4=>?_) (fun u4=>?_) <;> simp only [↓jW,go_sem];·refine Cj (oL hG _ (by simp only [cH,dS,sA,sB,pe,sC,pf,pg,aG,aQ,af,ai,zA,zB,decide_true,oP,aO,lg,zC]) 1 fl ty kd lb rfl _ hf) ?_;simp only [↓jW,go_sem];exact hK _ _ ⟨congrArg bl (by clear hK;unfold mw jU;simp_all),rfl⟩
 exact hK _ _ ⟨congrArg bl (by clear hK;unfold mw jU;simp_all),rfl⟩
end
theorem wV (hG:bB.g=some 0) (b0:bx) (lg:∀ n,3≤n→aK n b0=true) (fl:ByteArray) (ty kd:Int) (lb:Bool) (hf:fl.size≤1048576) (l:Lb):∃ r_,(fun w=>w=bl (rF fl l)) r_∧bI aj 252 [b7 l,.ptr 2 0] ([b0,.box [str fl,num ty,bl lb,num kd],.box [.iU (.func 251) [] [.ptr 1 0]]]) r_ ([b0,.box [str fl,num ty,bl lb,num kd],.box [.iU (.func 251) [] [.ptr 1 0]]]):=by
 refine M7 tt_ok [] 18 [.tmp 3] (fn:=Tryz.f252) Tryz.func252 rfl Tryz.call252 ⟨rfl,rfl,by simp⟩ fun K hK=>?_;have jW:=lg 3 (aB _);simp only [cZ,b7,ax];simp only [↓jW,go_sem];refine dK (je hG _) ?_;simp only [↓jW,go_sem];refine ca (fun RF=>?_) (fun RF=>?_) <;> simp only [↓jW,go_sem];·exact hK _ _ ⟨congrArg bl (by clear hK;unfold rF;simp_all),rfl⟩
 refine Cj (FD hG _ (by simp only [cH,dS,sA,sB,pe,sC,pf,pg,aG,aQ,af,ai,zA,zB,decide_true,oP,aO,lg,zC]) 1 fl ty kd lb rfl _ hf) ?_;repeat' (simp only [↓jW,go_sem];first|refine ca (fun hg=>?_) (fun hg=>?_)|refine dK (je hG _) ?_|(exact hK _ _ ⟨congrArg bl (by clear hK;unfold rF;simp_all),rfl⟩))
section
attribute [local go_sem] au
theorem RG (c:Nat) (b0:bx) (lg:∀ n,3≤n→aK n b0=true) (fl:ByteArray) (ty kd:Int) (lb:Bool) (hf:fl.size≤1048576) (g:FuncId) (q:Lb→Bool) (l:List Lb) (hg:∀ x∈l,∃ r,(fun v=>v=bl (q x)) r∧bI aj g [b7 x,.ptr 2 0] ([b0,.box [str fl,num ty,bl lb,num kd],.box [.iU (.func c) [] [.ptr 1 0]]]) r ([b0,.box [str fl,num ty,bl lb,num kd],.box [.iU (.func c) [] [.ptr 1 0]]])) (hl:l.length≤1048576):∃ r_,(fun w=>∃ k:Int,w=num k∧decide (0≤k)=l.any q) r_∧bI aj 192 [.slice (l.map b7),.iU (.func g) [] [.ptr 2 0]] ([b0,.box [str fl,num ty,bl lb,num kd],.box [.iU (.func c) [] [.ptr 1 0]]]) r_ ([b0,.box [str fl,num ty,bl lb,num kd],.box [.iU (.func c) [] [.ptr 1 0]]]):=by
 refine M7 tt_ok [] 19 [.tmp 4] (fn:=Tryz.f192) Tryz.func192 rfl Tryz.call192 ⟨rfl,rfl,by simp⟩ fun K hK=>?_;have jW:=lg 3 (aB _);simp only [↓jW,go_sem];refine eh tt_ok [] [8] 3 [0,1,7] (fun vs=>((l.length:Int)-Go.Eng.intOf (vs.headD .undef)).toNat) (fun vs=>∃ i:Nat,vs=[num i]∧i≤l.length∧∀ j<i,∀ x,l[j]?=some x→q x=false) (by omega) (by simp only [↓jW,go_sem]) (⟨0,rfl,bj _,fun j hj=>absurd hj (cR j)⟩) fun vs hI Z1 dW=>?_;obtain⟨i,rfl,hi,dN⟩:=hI;simp only [↓jW,go_sem];refine ca (fun iI=>?_) (fun iI=>?_);·(have bL:i<l.length:=by simpa using iI);have hw:=bm i (by omega);obtain⟨x,hx⟩:∃ x,l[i]?=some x:=⟨_,aw bL⟩;simp only [↓jW,hw,ak,hx,b7,ax,ay,aC,go_sem];refine Cj (by have h:=hg x (aE hx);simp only [cZ,b7,ax] at h;exact h) ?_;simp only [↓jW,hw,ak,hx,b7,ax,ay,aC,go_sem];refine ca (fun fT=>?_) (fun fT=>?_);(·(have cg:decide (0≤(i:Int))=l.any q:=by rw [lF hx fT];exact decide_eq_true (gJ i));simp only [↓jW,hw,ak,hx,b7,ax,ay,aC,go_sem];exact hK _ _ ⟨⟨_,rfl,cg⟩,rfl⟩);simp only [↓jW,hw,ak,hx,b7,ax,ay,aC,go_sem];refine dW _ (jd (by omega) (by simp only [↓jW,hw,ak,hx,b7,ax,ay,aC,go_sem]) ?_ ?_) <;> simp only [fY,lk,reduceIte,zE];(·refine⟨i+1,rfl,bL,fun j hj=>?_⟩;(rcases bz j i with h|h);(·exact dN j h);(obtain rfl:j=i:=by omega);intro y hy;rw [hx] at hy;cases hy;exact fT);simp only [Go.Eng.intOf,bh];omega
 have gq:¬ i<l.length:=by simpa using iI
 have cg:decide (0≤(-1:Int))=l.any q:=(any_none fun j hj=>dN j (by omega)).symm ▸ rfl;simp only [↓jW,go_sem];exact hK _ _ ⟨⟨_,rfl,cg⟩,rfl⟩
end
theorem BT (c:Nat) (b0:bx) (lg:∀ n,3≤n→aK n b0=true) (fl:ByteArray) (ty kd:Int) (lb:Bool) (hf:fl.size≤1048576) (g:FuncId) (q:Lb→Bool) (l:List Lb) (hg:∀ x∈l,∃ r,(fun v=>v=bl (q x)) r∧bI aj g [b7 x,.ptr 2 0] ([b0,.box [str fl,num ty,bl lb,num kd],.box [.iU (.func c) [] [.ptr 1 0]]]) r ([b0,.box [str fl,num ty,bl lb,num kd],.box [.iU (.func c) [] [.ptr 1 0]]])) (hl:l.length≤1048576):∃ r_,(fun w=>w=bl (l.any q)) r_∧bI aj 107 [.slice (l.map b7),.iU (.func g) [] [.ptr 2 0]] ([b0,.box [str fl,num ty,bl lb,num kd],.box [.iU (.func c) [] [.ptr 1 0]]]) r_ ([b0,.box [str fl,num ty,bl lb,num kd],.box [.iU (.func c) [] [.ptr 1 0]]]):=by refine M7 tt_ok [] 9 [.tmp 4] (fn:=Tryz.f107) Tryz.func107 rfl Tryz.call107 ⟨rfl,rfl,by simp⟩ fun K hK=>?_;have jW:=lg 3 (aB _);simp only [↓jW,go_sem];refine cS (RG c b0 lg fl ty kd lb hf g q l hg hl) ?_;rintro _ ⟨k,rfl,hk⟩;simp only [↓jW,go_sem];exact hK _ _ ⟨congrArg bl hk,rfl⟩
end
section
theorem wW (x:Ex) (fl:ByteArray) (ty:Int) (lb:Bool) (kd:Int):oH x fl ty lb kd=(!(q1 x fl||q2 x fl||q3 x fl||q4 x fl) && !(q5 x||q6 x kd) && !(q7 x ty||q8 x lb||q9 x kd) && !(x.labels.any (mw fl))):=by unfold oH;cases q1 x fl <;> cases q2 x fl <;> cases q3 x fl <;> cases q4 x fl <;> cases q5 x <;> cases q6 x kd <;> cases q7 x ty <;> cases q8 x lb <;> cases q9 x kd <;> rfl
section
attribute [local go_sem] aD cJ au dh
theorem Vu (hG:bB.g=some 0) (x:Ex) (fl:ByteArray) (ty kd:Int) (lb:Bool) (hf:fl.size≤1048576) (hl:x.labels.length≤1048576) (po : -1≤kd∧kd≤100):Cn 188 [bH x,.agg [str fl,num ty,bl lb,num kd]] (bl (oH x fl ty lb kd)):=by
 refine gy tt_ok [3,4,5,8,11,12,30000] 100 [.tmp 4] (fn:=Tryz.f188) Tryz.func188 rfl Tryz.call188 ⟨rfl,rfl,by simp⟩ fun K hK=>?_;simp only [bk,aX];simp only [go_sem];refine dK (by have h:=Vt x fl ty kd lb hl po;rw [bk] at h;simp only [aX] at h;exact h) ?_;simp only [go_sem];refine fZ tt_ok [3,4,5,8,11,12,30000] [11] 3 [2,3,4,5,6] (fun vs=>vs=[bl (q1 x fl||q2 x fl||q3 x fl||q4 x fl)]) (fun Z1 dW=>?_) ?_;·simp only [go_sem];refine fZ tt_ok [3,4,5,8,11,12,30000] [11] 3 [2,3,4,5,6] (fun vs=>vs=[bl (q1 x fl)]) (fun Z2 pP=>?_) ?_;(·simp only [go_sem];refine nk tt_ok ?_;simp only [go_sem];refine ca (fun BU=>?_) (fun BU=>?_) <;> simp only [go_sem];(·refine Cj (oL hG _ rfl 1 fl ty kd lb rfl _ hf) ?_;simp only [go_sem];refine pP _ (gP (by omega) (by simp only [go_sem]) ?_);simp only [fY,lk,reduceIte,zE];exact congrArg (fun b=>[bl b]) (by clear hK dW pP;unfold q1;simp_all [jU] <;> (intros;omega)));refine pP _ (gP (by omega) (by simp only [go_sem]) ?_);simp only [fY,lk,reduceIte,zE];exact congrArg (fun b=>[bl b]) (by clear hK dW pP;unfold q1;simp_all [jU] <;> (intros;omega)));intro vs hJ;obtain rfl:=hJ;simp only [go_sem];refine ca (fun j0=>?_) (fun j0=>?_) <;> simp only [go_sem];(·refine dW _ (gP (by omega) (by simp only [go_sem]) ?_);simp only [fY,lk,reduceIte,zE];exact congrArg (fun b=>[bl b]) (by clear hK dW;first|(simp only [*,aY,aR,aP,aO,aU,aT,bg,bf,ba,a6,bu];done)|(unfold q4;simp only [*,aY,aR,aP,aO,aU,aT,bg,bf,ba,a6,bu];done)|(unfold q4;simp_all)));refine fZ tt_ok [3,4,5,8,11,12,30000] [11] 3 [2,3,4,5,6] (fun vs=>vs=[bl (q2 x fl)]) (fun Z3 z1=>?_) ?_;(·simp only [go_sem];refine nk tt_ok ?_;simp only [go_sem];refine ca (fun RH=>?_) (fun RH=>?_) <;> simp only [go_sem];(·refine Cj (oL hG _ rfl 1 fl ty kd lb rfl _ hf) ?_;simp only [go_sem];refine z1 _ (gP (by omega) (by simp only [go_sem]) ?_);simp only [fY,lk,reduceIte,zE];exact congrArg (fun b=>[bl b]) (by clear hK dW z1;unfold q2;simp_all [jU] <;> (intros;omega)));refine z1 _ (gP (by omega) (by simp only [go_sem]) ?_);simp only [fY,lk,reduceIte,zE];exact congrArg (fun b=>[bl b]) (by clear hK dW z1;unfold q2;simp_all [jU] <;> (intros;omega)));intro vs hJ;obtain rfl:=hJ;simp only [go_sem];refine ca (fun j0=>?_) (fun j0=>?_) <;> simp only [go_sem];(·refine dW _ (gP (by omega) (by simp only [go_sem]) ?_);simp only [fY,lk,reduceIte,zE];exact congrArg (fun b=>[bl b]) (by clear hK dW;first|(simp only [*,aY,aR,aP,aO,aU,aT,bg,bf,ba,a6,bu];done)|(unfold q4;simp only [*,aY,aR,aP,aO,aU,aT,bg,bf,ba,a6,bu];done)|(unfold q4;simp_all)));refine fZ tt_ok [3,4,5,8,11,12,30000] [11] 3 [2,3,4,5,6] (fun vs=>vs=[bl (q3 x fl)]) (fun Z4 L7=>?_) ?_;(·simp only [go_sem];refine nk tt_ok ?_;simp only [go_sem];refine ca (fun ae2=>?_) (fun ae2=>?_) <;> simp only [go_sem];(·refine Cj (oL hG _ rfl 1 fl ty kd lb rfl _ hf) ?_;simp only [go_sem];refine L7 _ (gP (by omega) (by simp only [go_sem]) ?_);simp only [fY,lk,reduceIte,zE];exact congrArg (fun b=>[bl b]) (by clear hK dW L7;unfold q3;simp_all [jU] <;> (intros;omega)));refine L7 _ (gP (by omega) (by simp only [go_sem]) ?_);simp only [fY,lk,reduceIte,zE];exact congrArg (fun b=>[bl b]) (by clear hK dW L7;unfold q3;simp_all [jU] <;> (intros;omega)));intro vs hJ;obtain rfl:=hJ;simp only [go_sem];refine ca (fun j0=>?_) (fun j0=>?_) <;> simp only [go_sem];(·refine dW _ (gP (by omega) (by simp only [go_sem]) ?_);simp only [fY,lk,reduceIte,zE];exact congrArg (fun b=>[bl b]) (by clear hK dW;first|(simp only [*,aY,aR,aP,aO,aU,aT,bg,bf,ba,a6,bu];done)|(unfold q4;simp only [*,aY,aR,aP,aO,aU,aT,bg,bf,ba,a6,bu];done)|(unfold q4;simp_all)));refine ca (fun ae3=>?_) (fun ae3=>?_) <;> simp only [go_sem];(·refine Cj (oL hG _ rfl 1 fl ty kd lb rfl _ hf) ?_;simp only [go_sem];refine dW _ (gP (by omega) (by simp only [go_sem]) ?_);simp only [fY,lk,reduceIte,zE];exact congrArg (fun b=>[bl b]) (by clear hK dW;first|(simp only [*,aY,aR,aP,aO,aU,aT,bg,bf,ba,a6,bu];done)|(unfold q4;simp only [*,aY,aR,aP,aO,aU,aT,bg,bf,ba,a6,bu];done)|(unfold q4;simp_all)));refine dW _ (gP (by omega) (by simp only [go_sem]) ?_);simp only [fY,lk,reduceIte,zE];exact congrArg (fun b=>[bl b]) (by clear hK dW;first|(simp only [*,aY,aR,aP,aO,aU,aT,bg,bf,ba,a6,bu];done)|(unfold q4;simp only [*,aY,aR,aP,aO,aU,aT,bg,bf,ba,a6,bu];done)|(unfold q4;simp_all))
 intro vs hJ;obtain rfl:=hJ;simp only [go_sem];refine ca (fun j0=>?_) (fun j0=>?_) <;> simp only [go_sem];·exact hK _ (congrArg bl (by clear hK;rw [wW];simp only [*,aY,aR,aP,aO,aU,aT,bg,bf,ba,a6,bu]))
 refine fZ tt_ok [3,4,5,8,11,12,30000] [44] 3 [2,3,4,5,6,11] (fun vs=>vs=[bl (q5 x||q6 x kd)]) (fun Z5 Ox=>?_) ?_;·simp only [go_sem];refine fZ tt_ok [3,4,5,8,11,12,30000] [44] 3 [2,3,4,5,6,11] (fun vs=>vs=[bl (q5 x)]) (fun Z6 Tz=>?_) ?_;(·simp only [go_sem];refine nk tt_ok ?_;repeat' (simp only [go_sem];first|refine ca (fun hg=>?_) (fun hg=>?_)|(refine Tz _ (gP (by omega) (by simp only [go_sem]) ?_);simp only [fY,lk,reduceIte,zE];exact congrArg (fun b=>[bl b]) (by clear hK Ox Tz;unfold q5;simp_all [jU] <;> (intros;omega)))));intro vs hJ;obtain rfl:=hJ;repeat' (simp only [go_sem];first|refine ca (fun hg=>?_) (fun hg=>?_)|(refine Ox _ (gP (by omega) (by simp only [go_sem]) ?_);simp only [fY,lk,reduceIte,zE];exact congrArg (fun b=>[bl b]) (by clear hK Ox;first|(simp only [*,aY,aR,aP,aO,aU,aT,bg,bf,ba,a6,bu];done)|(unfold q6;simp only [*,aY,aR,aP,aO,aU,aT,bg,bf,ba,a6,bu];done)|(unfold q6;simp_all))))
 intro vs hJ;obtain rfl:=hJ;simp only [go_sem];refine ca (fun RI=>?_) (fun RI=>?_) <;> simp only [go_sem];·exact hK _ (congrArg bl (by clear hK;rw [wW];simp only [*,aY,aR,aP,aO,aU,aT,bg,bf,ba,a6,bu]))
 refine fZ tt_ok [3,4,5,8,11,12,30000] [65] 3 [2,3,4,5,6,11,44] (fun vs=>vs=[bl (q7 x ty||q8 x lb||q9 x kd)]) (fun Z7 Kw=>?_) ?_;·simp only [go_sem];refine fZ tt_ok [3,4,5,8,11,12,30000] [65] 3 [2,3,4,5,6,11,44] (fun vs=>vs=[bl (q7 x ty)]) (fun Z8 TA=>?_) ?_;(·simp only [go_sem];refine nk tt_ok ?_;repeat' (simp only [go_sem];first|refine ca (fun hg=>?_) (fun hg=>?_)|(refine TA _ (gP (by omega) (by simp only [go_sem]) ?_);simp only [fY,lk,reduceIte,zE];exact congrArg (fun b=>[bl b]) (by clear hK Kw TA;unfold q7;simp_all [jU] <;> (intros;omega)))));intro vs hJ;obtain rfl:=hJ;simp only [go_sem];refine ca (fun aaz=>?_) (fun aaz=>?_) <;> simp only [go_sem];(·refine Kw _ (gP (by omega) (by simp only [go_sem]) ?_);simp only [fY,lk,reduceIte,zE];exact congrArg (fun b=>[bl b]) (by clear hK Kw;first|(simp only [*,aY,aR,aP,aO,aU,aT,bg,bf,ba,a6,bu];done)|(unfold q9;simp only [*,aY,aR,aP,aO,aU,aT,bg,bf,ba,a6,bu];done)|(unfold q9;simp_all)));refine fZ tt_ok [3,4,5,8,11,12,30000] [65] 3 [2,3,4,5,6,11,44] (fun vs=>vs=[bl (q8 x lb)]) (fun Z9 Xn=>?_) ?_;(·simp only [go_sem];refine nk tt_ok ?_;repeat' (simp only [go_sem];first|refine ca (fun hg=>?_) (fun hg=>?_)|(refine Xn _ (gP (by omega) (by simp only [go_sem]) ?_);simp only [fY,lk,reduceIte,zE];exact congrArg (fun b=>[bl b]) (by clear hK Kw Xn;unfold q8;simp_all [jU] <;> (intros;omega)))));intro vs hJ;obtain rfl:=hJ;repeat' (simp only [go_sem];first|refine ca (fun hg=>?_) (fun hg=>?_)|(refine Kw _ (gP (by omega) (by simp only [go_sem]) ?_);simp only [fY,lk,reduceIte,zE];exact congrArg (fun b=>[bl b]) (by clear hK Kw;first|(simp only [*,aY,aR,aP,aO,aU,aT,bg,bf,ba,a6,bu];done)|(unfold q9;simp only [*,aY,aR,aP,aO,aU,aT,bg,bf,ba,a6,bu];done)|(unfold q9;simp_all))))
 intro vs hJ;obtain rfl:=hJ;simp only [go_sem];refine ca (fun aaz=>?_) (fun aaz=>?_) <;> simp only [go_sem];·exact hK _ (congrArg bl (by clear hK;rw [wW];simp only [*,aY,aR,aP,aO,aU,aT,bg,bf,ba,a6,bu]))
 refine Cj (BT 246 _ (fun n hn=>rfl) fl ty kd lb hf 249 (mw fl) x.labels (fun l _=>RE hG _ (fun n hn=>rfl) fl ty kd lb hf l) hl) ?_;simp only [go_sem];exact hK _ (congrArg bl (by clear hK;rw [wW];simp only [*,aY,aR,aP,aO,aU,aT,bg,bf,ba,a6,bu]))
end
end
section
section
attribute [local go_sem] aD cJ au dh
theorem Io (hG:bB.g=some 0) (x:Ex) (fl:ByteArray) (ty kd:Int) (lb:Bool) (hf:fl.size≤1048576) (hl:x.labels.length≤1048576) (hm:x.mod.size≤1048576):Cn 189 [bH x,.agg [str fl,num ty,bl lb,num kd]] (bl (rK x fl)):=by
 refine gy tt_ok [2,3] 42 [.tmp 4] (fn:=Tryz.f189) Tryz.func189 rfl Tryz.call189 ⟨rfl,rfl,by simp⟩ fun K hK=>?_;simp only [bk,aX];simp only [go_sem];refine fZ tt_ok [2,3] [7] 3 [2,4,5] (fun vs=>vs=[bl (m1 x fl)]) (fun Z1 dW=>?_) ?_;·simp only [go_sem];refine nk tt_ok ?_;simp only [go_sem];refine Cj (FD hG _ rfl 1 fl ty kd lb rfl _ hf) ?_;repeat' (simp only [go_sem];first|refine ca (fun hg=>?_) (fun hg=>?_)|refine dK (xM hG x.mod hm) ?_|(refine dW _ (gP (by omega) (by simp only [go_sem]) ?_);simp only [fY,lk,reduceIte,zE];exact congrArg (fun b=>[bl b]) (by clear hK dW;unfold m1;simp_all [jU] <;> (intros;omega))))
 intro vs hJ;obtain rfl:=hJ;simp only [go_sem];refine ca (fun yK=>?_) (fun yK=>?_) <;> simp only [go_sem];·exact hK _ (congrArg bl (by clear hK;unfold rK;first|(simp only [*,aY,aR,aP,aO,aU,aT,bg,bf,ba,a6];done)|(unfold m3;simp only [*,aY,aR,aP,aO,aU,aT,bg,bf,ba,a6];done)|(unfold m3;simp_all)))
 refine fZ tt_ok [2,3] [7] 3 [2,4,5] (fun vs=>vs=[bl (m2 x fl)]) (fun Z2 pP=>?_) ?_;·simp only [go_sem];refine nk tt_ok ?_;simp only [go_sem];refine Cj (FD hG _ rfl 1 fl ty kd lb rfl _ hf) ?_;repeat' (simp only [go_sem];first|refine ca (fun hg=>?_) (fun hg=>?_)|refine dK (je hG _) ?_|(refine pP _ (gP (by omega) (by simp only [go_sem]) ?_);simp only [fY,lk,reduceIte,zE];exact congrArg (fun b=>[bl b]) (by clear hK pP;unfold m2;simp_all [jU] <;> (intros;omega))))
 intro vs hJ;obtain rfl:=hJ;simp only [go_sem];refine ca (fun yK=>?_) (fun yK=>?_) <;> simp only [go_sem];·exact hK _ (congrArg bl (by clear hK;unfold rK;first|(simp only [*,aY,aR,aP,aO,aU,aT,bg,bf,ba,a6];done)|(unfold m3;simp only [*,aY,aR,aP,aO,aU,aT,bg,bf,ba,a6];done)|(unfold m3;simp_all)))
 refine ca (fun RH=>?_) (fun RH=>?_) <;> simp only [go_sem];·refine dK (je hG _) ?_;simp only [go_sem];refine ca (fun yK=>?_) (fun yK=>?_) <;> simp only [go_sem];(·exact hK _ (congrArg bl (by clear hK;unfold rK;first|(simp only [*,aY,aR,aP,aO,aU,aT,bg,bf,ba,a6];done)|(unfold m3;simp only [*,aY,aR,aP,aO,aU,aT,bg,bf,ba,a6];done)|(unfold m3;simp_all))));refine Cj (BT 251 _ (fun n hn=>rfl) fl ty kd lb hf 252 (rF fl) x.labels (fun l _=>wV hG _ (fun n hn=>rfl) fl ty kd lb hf l) hl) ?_;simp only [go_sem];exact hK _ (congrArg bl (by clear hK;unfold rK;first|(simp only [*,aY,aR,aP,aO,aU,aT,bg,bf,ba,a6];done)|(unfold m3;simp only [*,aY,aR,aP,aO,aU,aT,bg,bf,ba,a6];done)|(unfold m3;simp_all)))
 refine Cj (BT 251 _ (fun n hn=>rfl) fl ty kd lb hf 252 (rF fl) x.labels (fun l _=>wV hG _ (fun n hn=>rfl) fl ty kd lb hf l) hl) ?_;simp only [go_sem];exact hK _ (congrArg bl (by clear hK;unfold rK;first|(simp only [*,aY,aR,aP,aO,aU,aT,bg,bf,ba,a6];done)|(unfold m3;simp only [*,aY,aR,aP,aO,aU,aT,bg,bf,ba,a6];done)|(unfold m3;simp_all)))
end
end
def FE (dP:List (Value×Nat×V)):Prop:=∀ e∈dP,JI .i64 e.1∧∃ (fl:ByteArray) (ty kd:Int) (lb:Bool),e.2.2 = .agg [str fl,num ty,bl lb,num kd]∧fl.size≤1048576
theorem FE.below {dP:List (Value×Nat×V)} (h:FE dP) (n:Nat):(dP.all fun e=>aG n e.2.2)=true:=aZ.2 fun e he=>by obtain⟨-,fl,ty,kd,lb,e1,-⟩:=h e he;rw [e1];rfl
theorem ae4:UC aj 144 3 201 (JI .i64):=Qc kr kr
def s4:Value×Nat×V:=(.int .i64 0,0,.agg [str ⟨#[98]⟩,num 0,bl false,num 0])
def tR:Value×Nat×V:=(.int .i64 1,1,.agg [str ⟨#[120]⟩,num 0,bl false,num 0])
def u5:Value×Nat×V:=(.int .i64 2,2,.agg [str ⟨#[98]⟩,num 0,bl false,num 0])
def wX:Value×Nat×V:=(.int .i64 3,3,.agg [str ⟨#[110]⟩,num 0,bl false,num 0])
def x3:Value×Nat×V:=(.int .i64 4,4,.agg [str ⟨#[109,110]⟩,num (-1),bl false,num 0])
def zf:Value×Nat×V:=(.int .i64 5,5,.agg [str ⟨#[]⟩,num 0,bl true,num 0])
def BV:Value×Nat×V:=(.int .i64 6,6,.agg [str ⟨#[110]⟩,num 0,bl false,num 1])
def CP:Value×Nat×V:=(.int .i64 7,7,.agg [str ⟨#[110]⟩,num 0,bl false,num 1])
def FF:Value×Nat×V:=(.int .i64 8,8,.agg [str ⟨#[116,111]⟩,num 0,bl true,num 1])
def Ip:Value×Nat×V:=(.int .i64 9,9,.agg [str ⟨#[]⟩,num 0,bl true,num 1])
def u6:Value×Nat×V:=(.int .i64 10,10,.agg [str ⟨#[110]⟩,num 0,bl false,num 2])
def x4:Value×Nat×V:=(.int .i64 11,11,.agg [str ⟨#[]⟩,num 1,bl false,num 1])
def BW:Value×Nat×V:=(.int .i64 12,12,.agg [str ⟨#[]⟩,num 1,bl false,num 3])
def FG:Value×Nat×V:=(.int .i64 13,13,.agg [str ⟨#[118]⟩,num 1,bl true,num 1])
def Kx:Value×Nat×V:=(.int .i64 14,14,.agg [str ⟨#[]⟩,num 1,bl false,num (-1)])
def RJ:Value×Nat×V:=(.int .i64 15,15,.agg [str ⟨#[110,120]⟩,num 1,bl false,num 3])
def aaA:Value×Nat×V:=(.int .i64 16,16,.agg [str ⟨#[110]⟩,num 0,bl false,num (-1)])
def iK:List (Value×Nat×V):=[s4,tR,u5,wX,x3,zf,BV,CP,FF,Ip,u6,x4,BW,FG,Kx,RJ,aaA]
theorem BX:FE iK:=fun e he=>by simp only [iK,cI,iM,or_false] at he;rcases he with rfl|rfl|rfl|rfl|rfl|rfl|rfl|rfl|rfl|rfl|rfl|rfl|rfl|rfl|rfl|rfl|rfl <;> exact⟨⟨_,rfl⟩,_,_,_,_,rfl,by decide⟩
theorem NW {mem:List bx} {b:Nat} (hm:mem[b]?=some (.map iK 17)) (n:Int) :
  ∃ (fl:ByteArray) (ty kd:Int) (lb ok:Bool),kB aj mem 144 (.mp b) (num n) true=some (.eg [.agg [str fl,num ty,bl lb,num kd],bl ok])∧fl.size≤1048576∧(-1≤kd∧kd≤100) ∧
   ((ok=true∧km n=some ⟨fl,ty,lb,kd⟩)∨(ok=false∧km n=none)):=by
 rcases JJ ae4 (k:=.int .i64 n) ⟨n,rfl⟩ rfl hm (fun e he=>(BX e he).1) (z:=.agg [str ⟨#[]⟩,num 0,bl false,num 0]) kr true with ⟨h1,h2⟩|⟨e,he,hk,h1⟩
 ·refine⟨_,_,_,_,_,h1,by decide,by decide,.inr ⟨rfl,?_⟩⟩;have dL:∀ j:Int,(∃ e∈iK,e.1 = .int .i64 j)→n≠j:=fun j ⟨e,he,hj⟩ hn=>h2 e he (by rw [hj,hn]);unfold km
  rw [if_neg (dL 0 ⟨s4,by simp [iK],rfl⟩),if_neg (dL 1 ⟨tR,by simp [iK],rfl⟩),if_neg (dL 2 ⟨u5,by simp [iK],rfl⟩),if_neg (dL 3 ⟨wX,by simp [iK],rfl⟩),if_neg (dL 4 ⟨x3,by simp [iK],rfl⟩),if_neg (dL 5 ⟨zf,by simp [iK],rfl⟩),
   if_neg (dL 6 ⟨BV,by simp [iK],rfl⟩),if_neg (dL 7 ⟨CP,by simp [iK],rfl⟩),if_neg (dL 8 ⟨FF,by simp [iK],rfl⟩),if_neg (dL 9 ⟨Ip,by simp [iK],rfl⟩),if_neg (dL 10 ⟨u6,by simp [iK],rfl⟩),if_neg (dL 11 ⟨x4,by simp [iK],rfl⟩),
   if_neg (dL 12 ⟨BW,by simp [iK],rfl⟩),if_neg (dL 13 ⟨FG,by simp [iK],rfl⟩),if_neg (dL 14 ⟨Kx,by simp [iK],rfl⟩),if_neg (dL 15 ⟨RJ,by simp [iK],rfl⟩),if_neg (dL 16 ⟨aaA,by simp [iK],rfl⟩)]
 unfold iK at he;simp only [cI,iM,or_false] at he;rcases he with rfl|rfl|rfl|rfl|rfl|rfl|rfl|rfl|rfl|rfl|rfl|rfl|rfl|rfl|rfl|rfl|rfl <;> (cases hk;exact⟨_,_,_,_,_,h1,by decide,by decide,.inl ⟨rfl,rfl⟩⟩)
section
theorem aaB (n:Nat):(65536<(n:Int))=(65536<n):=by rw [eq_iff_iff];omega
theorem x5 {α:Type} (f:α→Int) {l:List α} {i:Nat} {u:α} (h:l[i]?=some u):cy f (l.drop i)=if f u=0 then cy f (l.drop (i+1)) else f u:=by have h1:=az.1 h;rw [dT h1.1,h1.2];rfl
theorem NY (x:Lb):Cn 191 [b7 x] (str x.name):=by refine gy tt_ok [] 5 [.tmp 2] (fn:=Tryz.f191) Tryz.func191 rfl Tryz.call191 ⟨rfl,rfl,by simp⟩ fun K hK=>?_;simp only [cZ,b7,ax];simp only [go_sem];exact hK _ rfl
section
attribute [local go_sem] au ak b7 ax ay aC
theorem RL (g:FuncId) (l:List Lb) (hg:∀ x∈l,Cn g [b7 x] (str (Lb.name x))) (hl:l.length≤1048576):Cn 190 [.slice (l.map b7),.sc (.func (.func g) #[] #[])] (num (iJ (l.map Lb.name))):=by
 refine gy tt_ok [] 33 [.tmp 4] (fn:=Tryz.f190) Tryz.func190 rfl Tryz.call190 ⟨rfl,rfl,by simp⟩ fun K hK=>?_;simp only [go_sem];refine eh tt_ok [] [5] 0 [0,1] (fun vs=>((l.length:Int)-Go.Eng.intOf (vs.headD .undef)).toNat) (fun vs=>∃ i:Nat,vs=[num i]∧1≤i∧(1<i→i≤l.length)∧iJ (l.map Lb.name)=iJ ((l.map Lb.name).drop (i-1))) (by omega) (by simp only [go_sem]) (⟨1,rfl,aB _,fun h=>absurd h (by decide),rfl⟩) fun vs hI Z1 dW=>?_;obtain⟨i,rfl,hi,hle,hinv⟩:=hI;simp only [go_sem];refine ca (fun jZ=>?_) (fun jZ=>?_);·(have bL:i<l.length:=by simpa using jZ);obtain⟨x,hx⟩:∃ x,l[i-1]?=some x:=⟨_,aw (by omega)⟩;obtain⟨y,hy⟩:∃ y,l[i]?=some y:=⟨_,aw bL⟩;have hw:=bm i (by omega);(have jY:IntKind.i64.wrap ((i:Int)-1)=((i-1:Nat):Int):=by rw [IntWalk.i64_in _ (by omega)];omega);have js:iJ ((l.map Lb.name).drop (i-1))=if xP (Lb.name x) (Lb.name y)=0 then iJ ((l.map Lb.name).drop i) else xP (Lb.name x) (Lb.name y):=Fz hi (by rw [ak,hx];rfl) (by rw [ak,hy];rfl);simp only [hw,jY,hx,hy,go_sem];refine fL tt_ok cu [pN,pN,pN,pN,pR,pR,pN,pN,pN,pN,pR,pR,pN,pN,pN] 0 kr ?_;simp only [hw,jY,hx,hy,go_sem];refine y6 (by have h:=hg x (aE hx);simp only [cZ,b7,ax] at h;exact h) ?_;simp only [hw,jY,hx,hy,go_sem];refine y6 (by have h:=hg y (aE hy);simp only [cZ,b7,ax] at h;exact h) ?_;simp only [hw,jY,hx,hy,go_sem];refine y6 (BQ _ _) ?_;simp only [hw,jY,hx,hy,go_sem];refine ca (fun oD=>?_) (fun oD=>?_);(·(have cg:5=iJ (l.map Lb.name):=by rw [hinv,js,aeW (of_decide_eq_true oD)];rfl);simp only [hw,jY,hx,hy,go_sem];exact hK _ (congrArg num cg));simp only [hw,jY,hx,hy,go_sem];refine ca (fun BS=>?_) (fun BS=>?_);(·(have cg:1=iJ (l.map Lb.name):=by rw [hinv,js,aeX (of_decide_eq_true BS)];rfl);simp only [hw,jY,hx,hy,go_sem];exact hK _ (congrArg num cg));have qy:xP (Lb.name x) (Lb.name y)=0:=aeY (of_decide_eq_false oD) (of_decide_eq_false BS);simp only [hw,jY,hx,hy,go_sem];refine dW _ (jd (by omega) (by simp only [hw,jY,hx,hy,go_sem]) ?_ ?_) <;> simp only [fY,lk,reduceIte,zE];(·exact⟨i+1,rfl,by omega,fun _=>bL,by rw [hinv,js,if_pos qy];rfl⟩);simp only [Go.Eng.intOf,bh];omega
 have gq:¬ i<l.length:=by simpa using jZ
 have cg:(0:Int)=iJ (l.map Lb.name):=by rw [hinv];exact (zZ (by rw [au];omega)).symm
 simp only [go_sem];exact hK _ (congrArg num cg)
end
section
attribute [local go_sem] aD cJ au dh
theorem Iq (hG:bB.g=some 0) (b0 b1 b3 b4 b5 b6:bx) (hb:∀ n,7≤n→aK n b0=true∧aK n b1=true∧aK n b3=true∧aK n b4=true∧aK n b5=true∧aK n b6=true) (x:Ex) (hw:x.wt≤1048576):∃ r_,(fun w=>w=num (oI x)) r_∧bI aj 105 [bH x,.mp 2] ([b0,b1,.map iK 17,b3,b4,b5,b6]) r_ ([b0,b1,.map iK 17,b3,b4,b5,b6]):=by
 refine M7 tt_ok [4,11] 77 [.tmp 4] (fn:=Tryz.f105) Tryz.func105 rfl Tryz.call105 ⟨rfl,rfl,by simp⟩ fun K hK=>?_;have lg:=fun n h=>(hb n h).1;have nN:=fun n h=>(hb n h).2.1;have jW:=fun n h=>(hb n h).2.2.1;have tS:=fun n h=>(hb n h).2.2.2.1;have tT:=fun n h=>(hb n h).2.2.2.2.1;have tU:=fun n h=>(hb n h).2.2.2.2.2;have fK:∀ n,(iK.all fun e=>aG n e.2.2)=true:=fun n=>BX.below n;have xe:=x.xR;have hml:=x.mod_lt;have hwb:=x.gI;have Pa:=x.Bv;simp only [bk,aX];obtain⟨fl,ty,kd,lb,ok,gB,hf,po,L8⟩:=NW (mem:=[b0,b1,.map iK 17,b3,b4,b5,b6,.box [num x.kind,str x.mod,str x.name,str x.text,num x.num,.slice (cX x.types),.slice (x.labels.map b7),.slice (oF x.kids)]]) (b:=2) rfl x.kind;have lD:aj.underlying 9=some .string:=kr;have sl:∀ (a:ByteArray) (ty:TypeId),iq aj (Builtin.len_ #[9] ty) [.sc (.string a)]=some (num a.size):=fun a ty=>gi (P:=aj) (tt:=tt) (T:=9) a lD ty;simp only [↓lg,↓nN,↓jW,↓tS,↓tT,↓tU,fK,zC,gB,sl,go_sem];refine ca (fun rD=>?_) (fun rD=>?_);·(have cg:1=oI x:=by (rcases L8 with h|h);(·rw [h.1] at rD;cases rD);unfold oI;rw [h.2]);simp only [↓lg,↓nN,↓jW,↓tS,↓tT,↓tU,fK,zC,gB,sl,go_sem];exact hK _ _ ⟨congrArg num cg,rfl⟩
 have Mu:km x.kind=some ⟨fl,ty,lb,kd⟩:=by (rcases L8 with h|h);(·exact h.2);rw [h.1] at rD;cases rD
 have fO:oI x=(if oH x fl ty lb kd=false then 1 else if 32<x.labels.length∨8<x.types.length∨65536<x.text.size then 7 else if rK x fl=true then 4 else if iJ (x.labels.map Lb.name)≠0 then iJ (x.labels.map Lb.name) else if x.kind=15∧x.name=x.text then 5 else cy mg x.own):=by unfold oI;rw [Mu]
 simp only [↓lg,↓nN,↓jW,↓tS,↓tT,↓tU,fK,zC,gB,sl,go_sem];refine dK (by have h:=Vu hG x fl ty kd lb hf (by omega) po;rw [bk] at h;simp only [aX] at h;exact h) ?_;simp only [↓lg,↓nN,↓jW,↓tS,↓tT,↓tU,fK,zC,gB,sl,go_sem];refine ca (fun Ky=>?_) (fun Ky=>?_);·(have cg:1=oI x:=by rw [fO,if_pos (by simpa using Ky)]);simp only [↓lg,↓nN,↓jW,↓tS,↓tT,↓tU,fK,zC,gB,sl,go_sem];exact hK _ _ ⟨congrArg num cg,rfl⟩
 have rE:oH x fl ty lb kd=true:=by simpa using Ky
 rw [rE,if_neg (by simp)] at fO;simp only [↓lg,↓nN,↓jW,↓tS,↓tT,↓tU,fK,zC,gB,sl,go_sem];refine fZ tt_ok [4,11] [27] 9 [2,4,5,18] (fun vs=>vs=[bl (decide (32<x.labels.length)||decide (8<x.types.length)||decide (65536<x.text.size))]) (fun Z1 dW=>?_) ?_;·simp only [↓lg,↓nN,↓jW,↓tS,↓tT,↓tU,fK,zC,gB,sl,go_sem];refine nk tt_ok ?_;repeat' (simp only [↓lg,↓nN,↓jW,↓tS,↓tT,↓tU,fK,zC,gB,sl,go_sem];first|refine ca (fun hg=>?_) (fun hg=>?_)|(refine dW _ (gP (by omega) (by simp only [↓lg,↓nN,↓jW,↓tS,↓tT,↓tU,fK,zC,gB,sl,go_sem]) ?_);simp only [fY,lk,reduceIte,zE];exact congrArg (fun b=>[bl b]) (by clear hK dW;clear fO L8 gB;simp_all [Xm,ae0,aaB] <;> (intros;omega))))
 intro vs hJ;obtain rfl:=hJ;simp only [↓lg,↓nN,↓jW,↓tS,↓tT,↓tU,fK,zC,gB,sl,go_sem];refine ca (fun oD=>?_) (fun oD=>?_);·(have kO:32<x.labels.length∨8<x.types.length∨65536<x.text.size:=by simpa [or_assoc] using oD);(have cg:7=oI x:=by rw [fO,if_pos kO]);simp only [↓lg,↓nN,↓jW,↓tS,↓tT,↓tU,fK,zC,gB,sl,go_sem];exact hK _ _ ⟨congrArg num cg,rfl⟩
 have kO:¬ (32<x.labels.length∨8<x.types.length∨65536<x.text.size):=by intro h;(have h2:(decide (32<x.labels.length)||decide (8<x.types.length)||decide (65536<x.text.size))=true:=by simpa [or_assoc] using h);rw [oD] at h2;cases h2
 rw [if_neg kO] at fO;simp only [↓lg,↓nN,↓jW,↓tS,↓tT,↓tU,fK,zC,gB,sl,go_sem];refine dK (by have h:=Io hG x fl ty kd lb hf (by omega) (by omega);rw [bk] at h;simp only [aX] at h;exact h) ?_;simp only [↓lg,↓nN,↓jW,↓tS,↓tT,↓tU,fK,zC,gB,sl,go_sem];refine ca (fun RI=>?_) (fun RI=>?_);·(have cg:4=oI x:=by rw [fO,if_pos RI]);simp only [↓lg,↓nN,↓jW,↓tS,↓tT,↓tU,fK,zC,gB,sl,go_sem];exact hK _ _ ⟨congrArg num cg,rfl⟩
 rw [if_neg (by rw [RI];simp)] at fO;simp only [↓lg,↓nN,↓jW,↓tS,↓tT,↓tU,fK,zC,gB,sl,go_sem];refine dK (RL 191 x.labels (fun l _=>NY l) (by omega)) ?_;simp only [↓lg,↓nN,↓jW,↓tS,↓tT,↓tU,fK,zC,gB,sl,go_sem];refine ca (fun RM=>?_) (fun RM=>?_);·(have dL:iJ (x.labels.map Lb.name)≠0:=by simpa using RM);(have cg:iJ (x.labels.map Lb.name)=oI x:=by rw [fO,if_pos dL]);simp only [↓lg,↓nN,↓jW,↓tS,↓tT,↓tU,fK,zC,gB,sl,go_sem];exact hK _ _ ⟨congrArg num cg,rfl⟩
 have akq:iJ (x.labels.map Lb.name)=0:=by simpa using RM
 rw [if_neg (by simp [akq])] at fO;simp only [↓lg,↓nN,↓jW,↓tS,↓tT,↓tU,fK,zC,gB,sl,go_sem];refine fZ tt_ok [4,11] [63] 9 [2,4,18,27,44,52] (fun vs=>vs=[bl (decide (x.kind=15)&&decide (x.name=x.text))]) (fun Z2 pP=>?_) ?_;·simp only [↓lg,↓nN,↓jW,↓tS,↓tT,↓tU,fK,zC,gB,sl,go_sem];refine nk tt_ok ?_;repeat' (simp only [↓lg,↓nN,↓jW,↓tS,↓tT,↓tU,fK,zC,gB,sl,go_sem];first|refine ca (fun hg=>?_) (fun hg=>?_)|(refine pP _ (gP (by omega) (by simp only [↓lg,↓nN,↓jW,↓tS,↓tT,↓tU,fK,zC,gB,sl,go_sem]) ?_);simp only [fY,lk,reduceIte,zE];exact congrArg (fun b=>[bl b]) (by clear hK pP;clear fO L8 gB;simp_all)))
 intro vs hJ;obtain rfl:=hJ;simp only [↓lg,↓nN,↓jW,↓tS,↓tT,↓tU,fK,zC,gB,sl,go_sem];refine ca (fun Fq=>?_) (fun Fq=>?_);·(have cg:5=oI x:=by rw [fO,if_pos (by simpa using Fq)]);simp only [↓lg,↓nN,↓jW,↓tS,↓tT,↓tU,fK,zC,gB,sl,go_sem];exact hK _ _ ⟨congrArg num cg,rfl⟩
 rw [if_neg (by simpa using Fq)] at fO;simp only [↓lg,↓nN,↓jW,↓tS,↓tT,↓tU,fK,zC,gB,sl,go_sem];refine dK (by have h:=LN x (by have:=x.wI;omega);rw [bk] at h;simp only [aX] at h;exact⟨_,rfl,h⟩) ?_;have W8:=ch Ty.size Ty.size_pos x.own;have hlen:(cX x.own).length=x.own.length:=aD _;have y5:∀ u∈x.own,u.wt<x.wt:=fun u hu=>Ex.Ke hu;obtain⟨ps,nZ⟩:∃ ps,ps=x.own:=⟨_,rfl⟩;rw [← nZ] at W8 y5 Pa ⊢;simp only [↓lg,↓nN,↓jW,↓tS,↓tT,↓tU,fK,zC,gB,sl,go_sem];refine eh tt_ok [4,11] [67] 9 [18,27,44,52,63,65,66] (fun vs=>((ps.length:Int)-Go.Eng.intOf (vs.headD .undef)).toNat) (fun vs=>∃ i:Nat,vs=[num i]∧i≤ps.length∧cy mg ps=cy mg (ps.drop i)) (by omega) (by simp only [↓lg,↓nN,↓jW,↓tS,↓tT,↓tU,fK,zC,gB,sl,go_sem]) (⟨0,rfl,bj _,rfl⟩) fun vs hI Z3 z1=>?_;obtain⟨i,rfl,hi,hinv⟩:=hI;simp only [↓lg,↓nN,↓jW,↓tS,↓tT,↓tU,fK,zC,gB,sl,go_sem];refine ca (fun aaC=>?_) (fun aaC=>?_);·(have bL:i<ps.length:=by simpa using aaC);obtain⟨u,hu⟩:∃ u,ps[i]?=some u:=⟨_,aw bL⟩;have fM:=bm i (by omega);have oN:=x5 mg hu;simp only [↓lg,↓nN,↓jW,↓tS,↓tT,↓tU,fK,zC,fM,bn,hu,aM,ax,gB,sl,go_sem];refine dK (by have h:=rf hG u (by have:=u.fF;have:=y5 u (aE hu);omega) (Ty.aet (by have:=y5 u (aE hu);omega));rw [aM] at h;simp only [ax] at h;exact⟨_,rfl,h⟩) ?_;simp only [↓lg,↓nN,↓jW,↓tS,↓tT,↓tU,fK,zC,fM,bn,hu,aM,ax,gB,sl,go_sem];refine ca (fun aaD=>?_) (fun aaD=>?_);(·(have dL:mg u≠0:=by simpa using aaD);(have cg:mg u=oI x:=by rw [fO,← nZ,hinv,oN,if_neg dL]);simp only [↓lg,↓nN,↓jW,↓tS,↓tT,↓tU,fK,zC,fM,bn,hu,aM,ax,gB,sl,go_sem];exact hK _ _ ⟨congrArg num cg,rfl⟩);(have hz:mg u=0:=by simpa using aaD);simp only [↓lg,↓nN,↓jW,↓tS,↓tT,↓tU,fK,zC,fM,bn,hu,aM,ax,gB,sl,go_sem];refine z1 _ (jd (by omega) (by simp only [↓lg,↓nN,↓jW,↓tS,↓tT,↓tU,fK,zC,fM,bn,hu,aM,ax,gB,sl,go_sem]) ?_ ?_) <;> simp only [fY,lk,reduceIte,zE];(·exact⟨i+1,rfl,bL,by rw [hinv,oN,if_pos hz]⟩);simp only [Go.Eng.intOf,bh];omega
 have gq:¬ i<ps.length:=by simpa using aaC
 have cg:0=oI x:=by rw [fO,← nZ,hinv,dI (by omega)];rfl
 simp only [↓lg,↓nN,↓jW,↓tS,↓tT,↓tU,fK,zC,gB,sl,go_sem];exact hK _ _ ⟨congrArg num cg,rfl⟩
end
end
theorem akr (B0 B1:bx):dU aj [B0,B1,.map [] 0] 144 (.mp 2) (num 0) (.agg [str ⟨#[98]⟩,num 0,bl false,num 0])=some [B0,B1,.map [s4] 1]:=kr
theorem aks (B0 B1:bx):dU aj [B0,B1,.map [s4] 1] 144 (.mp 2) (num 1) (.agg [str ⟨#[120]⟩,num 0,bl false,num 0])=some [B0,B1,.map [s4,tR] 2]:=kr
theorem akt (B0 B1:bx):dU aj [B0,B1,.map [s4,tR] 2] 144 (.mp 2) (num 2) (.agg [str ⟨#[98]⟩,num 0,bl false,num 0])=some [B0,B1,.map [s4,tR,u5] 3]:=kr
theorem aku (B0 B1:bx):dU aj [B0,B1,.map [s4,tR,u5] 3] 144 (.mp 2) (num 3) (.agg [str ⟨#[110]⟩,num 0,bl false,num 0])=some [B0,B1,.map [s4,tR,u5,wX] 4]:=kr
theorem akv (B0 B1:bx):dU aj [B0,B1,.map [s4,tR,u5,wX] 4] 144 (.mp 2) (num 4) (.agg [str ⟨#[109,110]⟩,num (-1),bl false,num 0])=some [B0,B1,.map [s4,tR,u5,wX,x3] 5]:=kr
theorem akw (B0 B1:bx):dU aj [B0,B1,.map [s4,tR,u5,wX,x3] 5] 144 (.mp 2) (num 5) (.agg [str ⟨#[]⟩,num 0,bl true,num 0])=some [B0,B1,.map [s4,tR,u5,wX,x3,zf] 6]:=kr
theorem akx (B0 B1:bx):dU aj [B0,B1,.map [s4,tR,u5,wX,x3,zf] 6] 144 (.mp 2) (num 6) (.agg [str ⟨#[110]⟩,num 0,bl false,num 1])=some [B0,B1,.map [s4,tR,u5,wX,x3,zf,BV] 7]:=kr
theorem aky (B0 B1:bx):dU aj [B0,B1,.map [s4,tR,u5,wX,x3,zf,BV] 7] 144 (.mp 2) (num 7) (.agg [str ⟨#[110]⟩,num 0,bl false,num 1])=some [B0,B1,.map [s4,tR,u5,wX,x3,zf,BV,CP] 8]:=kr
theorem akz (B0 B1:bx):dU aj [B0,B1,.map [s4,tR,u5,wX,x3,zf,BV,CP] 8] 144 (.mp 2) (num 8) (.agg [str ⟨#[116,111]⟩,num 0,bl true,num 1])=some [B0,B1,.map [s4,tR,u5,wX,x3,zf,BV,CP,FF] 9]:=kr
theorem akA (B0 B1:bx):dU aj [B0,B1,.map [s4,tR,u5,wX,x3,zf,BV,CP,FF] 9] 144 (.mp 2) (num 9) (.agg [str ⟨#[]⟩,num 0,bl true,num 1])=some [B0,B1,.map [s4,tR,u5,wX,x3,zf,BV,CP,FF,Ip] 10]:=kr
theorem ae5 (B0 B1:bx):dU aj [B0,B1,.map [s4,tR,u5,wX,x3,zf,BV,CP,FF,Ip] 10] 144 (.mp 2) (num 10) (.agg [str ⟨#[110]⟩,num 0,bl false,num 2])=some [B0,B1,.map [s4,tR,u5,wX,x3,zf,BV,CP,FF,Ip,u6] 11]:=kr
theorem ae6 (B0 B1:bx):dU aj [B0,B1,.map [s4,tR,u5,wX,x3,zf,BV,CP,FF,Ip,u6] 11] 144 (.mp 2) (num 11) (.agg [str ⟨#[]⟩,num 1,bl false,num 1])=some [B0,B1,.map [s4,tR,u5,wX,x3,zf,BV,CP,FF,Ip,u6,x4] 12]:=kr
theorem ae7 (B0 B1:bx):dU aj [B0,B1,.map [s4,tR,u5,wX,x3,zf,BV,CP,FF,Ip,u6,x4] 12] 144 (.mp 2) (num 12) (.agg [str ⟨#[]⟩,num 1,bl false,num 3])=some [B0,B1,.map [s4,tR,u5,wX,x3,zf,BV,CP,FF,Ip,u6,x4,BW] 13]:=kr
theorem ae8 (B0 B1:bx):dU aj [B0,B1,.map [s4,tR,u5,wX,x3,zf,BV,CP,FF,Ip,u6,x4,BW] 13] 144 (.mp 2) (num 13) (.agg [str ⟨#[118]⟩,num 1,bl true,num 1])=some [B0,B1,.map [s4,tR,u5,wX,x3,zf,BV,CP,FF,Ip,u6,x4,BW,FG] 14]:=kr
theorem ae9 (B0 B1:bx):dU aj [B0,B1,.map [s4,tR,u5,wX,x3,zf,BV,CP,FF,Ip,u6,x4,BW,FG] 14] 144 (.mp 2) (num 14) (.agg [str ⟨#[]⟩,num 1,bl false,num (-1)])=some [B0,B1,.map [s4,tR,u5,wX,x3,zf,BV,CP,FF,Ip,u6,x4,BW,FG,Kx] 15]:=kr
theorem afa (B0 B1:bx):dU aj [B0,B1,.map [s4,tR,u5,wX,x3,zf,BV,CP,FF,Ip,u6,x4,BW,FG,Kx] 15] 144 (.mp 2) (num 15) (.agg [str ⟨#[110,120]⟩,num 1,bl false,num 3])=some [B0,B1,.map [s4,tR,u5,wX,x3,zf,BV,CP,FF,Ip,u6,x4,BW,FG,Kx,RJ] 16]:=kr
theorem Xo (B0 B1:bx):dU aj [B0,B1,.map [s4,tR,u5,wX,x3,zf,BV,CP,FF,Ip,u6,x4,BW,FG,Kx,RJ] 16] 144 (.mp 2) (num 16) (.agg [str ⟨#[110]⟩,num 0,bl false,num (-1)])=some [B0,B1,.map [s4,tR,u5,wX,x3,zf,BV,CP,FF,Ip,u6,x4,BW,FG,Kx,RJ,aaA] 17]:=kr
theorem RO (B0 B1:bx) (hb:∀ n,2≤n→aK n B0=true∧aK n B1=true):bI aj 103 [] [B0,B1] (.mp 2) [B0,B1,.map iK 17]:=by refine ov tt_ok (fn:=Tryz.f103) 3 (by simp only [af,ai];decide) Tryz.func103 rfl Tryz.call103 ?_;simp only [cZ,cO,Tryz.ntmps103,af,ai,zA,zF,aH,aI];refine mJ tt_ok 20 [2] [] rfl rfl fun K hK=>?_;simp only [cZ,go_sem];refine hK _ _ rfl ?_;simp only [ji,zA,zE];refine mJ tt_ok 20 (2::(rp 19 1 [])) [] rfl rfl fun K hK=>?_;refine nj 7 fun K1 ff=>?_;simp only [AX,akr,aks,akt,go_sem];refine ff _ ?_;refine nj 7 fun K1 ff=>?_;simp only [AX,aku,akv,akw,go_sem];refine ff _ ?_;refine nj 7 fun K1 ff=>?_;simp only [AX,akx,aky,akz,akA,go_sem];refine ff _ ?_;refine nj 7 fun K1 ff=>?_;simp only [AX,ae5,ae6,ae7,go_sem];refine ff _ ?_;refine nj 7 fun K1 ff=>?_;simp only [AX,ae8,ae9,afa,Xo,go_sem];refine ff _ ?_;simp only [AX,Xo,go_sem];refine hK _ _ rfl ?_;simp only [ji,zA,zE];refine cn ⟨.inl rfl,rfl,rfl,?_,rfl⟩;have h1:=hb 3 (by omega);have h2:=BX.below 3;show (aK 3 B0&&(aK 3 B1&&((iK.all fun e=>aG 3 e.2.2)&&true)))=true;rw [h1.1,h1.2,h2];rfl
theorem RP (e:Ex):xd e=if decide (4096<(e.size:Int))||decide (32<(e.depth:Int)) then 7 else cy oI e.nodes:=by unfold xd;by_cases h1:4096<e.size <;> by_cases h2:32<e.depth <;> simp [h1,h2] <;> (intros;omega)
theorem wY (hG:bB.g=some 0) (e:Ex) (he:e.wt≤1048576):b8 aj 42 [bH e] (num (xd e)):=by
 have hbw:=e.gI;have h18:=DG e (by omega);have h57:=Kf e.dv e (aB _) (by omega);have ZQ:=fun B0 B1 B2 B3 h=>HP e [B0,B1,B2,B3] h;have hP:∀ v∈e.nodes,v.wt≤1048576:=fun v hv=>by have:=Ex.qp hv;omega
 refine jL tt_ok (fn:=Tryz.f42) Tryz.func42 rfl Tryz.call42 ?_;simp only [cZ,cO,Tryz.ntmps42,af,ai,zA,zF,aH,aI];rw [bk] at h18 h57 ZQ ⊢;simp only [aX] at h18 h57 ZQ ⊢;refine aq tt_ok fun K hK=>?_;simp only [go_sem];refine hK _ ?_;refine bE ?_;have res:xd e=if decide (4096<(e.size:Int))||decide (32<(e.depth:Int)) then 7 else cy oI e.nodes:=RP e;cases c1:decide (4096<(e.size:Int)) with|true =>rw [c1] at res;refine aq tt_ok fun K hK=>?_;simp only [c1,go_sem];refine .inl ⟨_,_,by simp only [c1,go_sem,al],h18,?_⟩;(try simp only [c1,go_sem]);refine hK _ ?_;refine bd rfl ?_;refine aq tt_ok fun K hK=>?_;simp only [go_sem];refine hK _ ?_;refine cn ⟨.inl rfl,?_⟩;rw [res];rfl|false =>rw [c1] at res;cases c2:decide (32<(e.depth:Int)) with|true =>rw [c2] at res;refine aq tt_ok fun K hK=>?_;simp only [c1,go_sem];refine .inl ⟨_,_,by simp only [c1,go_sem,al],h18,?_⟩;(try simp only [c1,go_sem]);refine .inl ⟨_,_,by simp only [c2,go_sem,al],h57,?_⟩;(try simp only [c2,go_sem]);refine hK _ ?_;refine bd rfl ?_;refine aq tt_ok fun K hK=>?_;simp only [go_sem];refine hK _ ?_;refine cn ⟨.inl rfl,?_⟩;rw [res];rfl|false =>rw [c2] at res;refine aq tt_ok fun K hK=>?_;simp only [c1,go_sem];refine .inl ⟨_,_,by simp only [c1,go_sem,al],h18,?_⟩;(try simp only [c1,go_sem]);refine .inl ⟨_,_,by simp only [c2,go_sem,al],h57,?_⟩;(try simp only [c2,go_sem]);refine hK _ ?_;refine bd rfl (cw ?_);show ek _ _ _ _ _ _;refine aq tt_ok fun K hK=>?_;simp only [go_sem];(refine .inr <| .inl ⟨_,_,RO _ _ (fun n hn=>⟨rfl,rfl⟩),?_⟩);(try simp only [go_sem]);refine hK _ ?_;refine bE ?_;refine aq tt_ok fun K hK=>?_;simp only [go_sem];(refine .inr <| .inl ⟨_,_,ZQ _ _ _ _ rfl,?_⟩);(try simp only [go_sem]);refine hK _ ?_;refine bU (Bw (t:=e) (B:=1048576) (fun s:Int=>[.box (aX e),.box [num s],.map iK 17,.box [.mp 2],.box (aX e)]) 0 5 4 rfl (fun _=>rfl) (by omega) (fun _=>rfl) (fun _=>rfl) rfl rfl rfl (fun s u=>if decide (oI u=0)=true then (s,none) else (oI u,some .ret)) (by omega) (by omega) (fun v=>v.wt≤1048576) hP ?_ ?_);(·intro s u hu hm l LR LB hLR hLB;obtain⟨_,rfl,hn⟩:=Iq hG (.box (aX e)) (.box [num s]) (.box [.mp 2]) (.box (aX e)) LB (.box (aX u)) (fun n hn=>⟨rfl,rfl,by simp only [aK,cH,dS,aG,aO,decide_eq_true_eq];omega,rfl,yA (by omega) hLB,rfl⟩) u hm;rw [bk] at hn ⊢;simp only [aX] at hn;simp only [cZ,o7,aX,bw,bo];refine a7 tt_ok fun K hK=>?_;simp only [go_sem];refine hK _ ?_;refine⟨rfl,rfl,bU ?_⟩;simp only [bw,bo];refine aq tt_ok fun K hK=>?_;simp only [go_sem];(refine .inr <| .inl ⟨_,_,hn,?_⟩);(try simp only [go_sem]);refine hK _ ?_;refine bE ?_;cases c3:decide (oI u=0) with|true =>refine a7 tt_ok fun K hK=>?_;simp only [c3,go_sem];refine hK _ ?_;refine bd rfl (cw ?_);exact⟨rfl,rfl,rfl⟩|false =>refine a7 tt_ok fun K hK=>?_;simp only [c3,go_sem];refine hK _ ?_;refine bd rfl ?_;refine aq tt_ok fun K hK=>?_;simp only [go_sem];refine hK _ ?_;exact cn ⟨rfl,rfl,rfl⟩);rw [sZ];simp only [bu,bF,if_false] at res;rw [res];cases c4:decide (cy oI e.nodes=0) with|true =>have e0:cy oI e.nodes=0:=of_decide_eq_true c4;simp only [if_true];show ek _ _ _ _ _ _;refine aq tt_ok fun K hK=>?_;simp only [go_sem];refine hK _ ?_;refine cn ⟨.inl rfl,?_⟩;rw [e0];rfl|false =>simp only [bF,if_false];exact cn ⟨.inl rfl,rfl⟩
end Go.Proofs.YtfbbfmcggbapoaaGreatDoor
end
