import Derived.Test.YtfbbfmcggbapoaaGreatDoorK4
import Derived.Sort.Walk0
import Derived.Shelf.Strconv.Itoa3
import Derived.Lib.Walk
import Derived.Lib.Small
import Derived.Lib.AppendIntMem
open Array renaming size_replicate→auQ,toArray_toList→cr,toList_inj→aiS
open Bool renaming and_eq_true→aJ,and_false→bx,and_self→nX,and_true→aU,false_and→bw,false_eq_true→bu,false_or→bX,not_false→a8,not_true→bG,or_false→bT,or_self→cE,or_true→ca,true_and→a6,true_or→cf
open ByteArray renaming ext→atL
open Function renaming comp_def→auF
open Go.Proofs.Tryz renaming prog→aj
open Int renaming cast_ofNat_Int→dY,le_refl→bY,natCast_nonneg→fP,toNat_natCast→ru,toNat_one→OL,toNat_zero→bp
open List renaming all_append→o7,all_cons→cI,all_eq_true→aN,all_flatMap→auC,all_nil→dM,append_assoc→al,append_nil→ah,cons_append→aw,drop_drop→aup,drop_eq_getElem_cons→dW,drop_eq_nil_of_le→eH,drop_length→auB,drop_zero→xU,eq_nil_of_length_eq_zero→auy,flatMap_append→lN,flatMap_cons→ab,flatMap_nil→ag,getElem?_append_left→bh,getElem?_append_right→aX,getElem?_cons_succ→cO,getElem?_cons_zero→aF,getElem?_eq_getElem→au,getElem?_eq_some_iff→aA,getElem?_map→aq,headD_cons→cg,length_append→ae,length_cons→af,length_drop→e8,length_eq_zero_iff→cb,length_map→ax,length_nil→ai,length_take→lg,length_zipWith→aue,lt_irrefl→atW,lt_trans→auk,map_cons→bm,map_drop→auj,mem_append_left→dD,mem_append_right→eP,mem_cons→b8,mem_cons_of_mem→bj,mem_cons_self→cV,mem_flatMap→e9,mem_iff_getElem?→bB,mem_map_of_mem→aud,mem_of_getElem?→aE,mem_of_mem_drop→atN,nil_append→aC,not_mem_nil→ef,replicate_succ→aG,replicate_zero→aH,set_append_right→ic,set_cons_succ→mb,set_cons_zero→ma,tail_cons→qL,take_add_one→bH,take_append_drop→nB,take_left→qK,take_length→az,take_of_length_le→dX
open Nat renaming add_comm→atG,add_sub_cancel_left→dQ,le_refl→ay,lt_or_ge→bS,not_lt_zero→iH,pos_of_ne_zero→auH,sub_self→eI,zero_le→ck
open Option renaming getD_none→at0,isNone_none→ac6,map_eq_some_iff→aY
open Option.some renaming injEq→aB
set_option linter.all false
section
namespace Go.Proofs.YtfbbfmcggbapoaaGreatDoor
open Go.Eng
variable [ba]
set_option maxHeartbeats 4000000
set_option maxRecDepth 100000
section
structure Lin {α:Type} (lt:α→α→Bool):Prop where
 irrefl:∀ x,lt x x=false
 trans:∀ x y z,lt x y=true→lt y z=true→lt x z=true
 tri:∀ x y,lt x y=false→lt y x=false→x=y
section
variable {α:Type} [DecidableEq α] {lt:α→α→Bool}
end
end
section
attribute [local irreducible] runM fq oS cY kP vN C0
theorem Bk {α:Type} (l:List α) (f:α→V) (size:Nat) (hs:∀ a,(f a).cells.length=size) (i:Nat) (hi:i≤l.length) (mem:List bf):cutAt mem size (i:Int) none (.slice (l.map f))=some (.slice ((l.drop i).map f)):=by
 unfold cutAt;have h1:jZ (l.map f) (i:Int).toNat size=true:=by unfold jZ;split;(·rename_i h;rw [aq,aY] at h;obtain⟨t,-,rfl⟩:=h;simp [hs]);rfl
 dsimp only;rw [if_pos ⟨fP _,by simpa using hi,by simp,h1⟩];congr 2;rw [← auj,ru];refine dX ?_;simp only [at0,ax,e8];omega
theorem JM (a b:ByteArray):zM a b=decide (a.data.toList<b.data.toList):=by unfold zM;rw [Proofs.bytesLess_eq,ByteArray.toList_eq,ByteArray.toList_eq]
theorem LN:Lin zM:=by
 refine⟨fun x=>?_,fun x y z h1 h2=>?_,fun x y h1 h2=>?_⟩;·rw [JM];exact decide_eq_false (atW _)
 ·rw [JM] at *;exact decide_eq_true (auk (of_decide_eq_true h1) (of_decide_eq_true h2))
 rw [JM] at h1 h2;have h1:=of_decide_eq_false h1;have h2:=of_decide_eq_false h2;have:=List.le_antisymm (List.not_lt.1 h2) (List.not_lt.1 h1);exact atL (aiS.1 this)
end
section
def WX (x:Ex):Prop:=∀ v O,O.length+x.pr.length≤34359738368→∃ r m,WR O x.pr [] r m∧bo aj 45 [.ptr 0 0,br x] (bM 129 v O []) r m
theorem wex {x:Ex} (h:WX x) {v:Nat} {O:List UInt8} (hO:O.length+x.pr.length≤34359738368) (l:List bf):∃ r m,WR O x.pr l r m∧bo aj 45 [.ptr 0 0,.agg [num x.kind,str x.mod,str x.name,str x.text,num x.num,.slice (x.types.map bk),.slice (x.labels.map cq),.slice (x.kids.map br)]] (.nk 129 1 v O.length :: .n7 5 v O :: l) r m:=by have h:=h v O hO;simp only [bn,aP,aQ,bK] at h;exact tm h (by simp [aI,aV]) _
theorem afP (x:Ex):Cn 198 [.agg [num x.kind,str x.mod,str x.name,str x.text,num x.num,.slice (x.types.map bk),.slice (x.labels.map cq),.slice (x.kids.map br)]] (num x.lvl):=by have h:=Rx x;simp only [bn,aP,aQ,bK] at h;exact h
def iI:List (List UInt8)→List ByteArray→List UInt8
 | _,[]=>[]
 | P,s :: r=>if s=⟨#[]⟩ then P.headD []++iI P.tail r else bt s++iI P r
def n4:List ByteArray→Nat
 | []=>0
 | s :: r=>if s=⟨#[]⟩ then n4 r+1 else n4 r
theorem jR (P:List (List UInt8)) (r:List ByteArray):iI P (⟨#[]⟩ :: r)=P.headD []++iI P.tail r:=by rw [iI,if_pos rfl]
theorem eC {P:List (List UInt8)} {s:ByteArray} {r:List ByteArray} (h:¬ s=⟨#[]⟩):iI P (s :: r)=bt s++iI P r:=by rw [iI,if_neg h]
theorem jS (r:List ByteArray):n4 (⟨#[]⟩ :: r)=n4 r+1:=by rw [n4,if_pos rfl]
theorem eD {s:ByteArray} {r:List ByteArray} (h:¬ s=⟨#[]⟩):n4 (s :: r)=n4 r:=by rw [n4,if_neg h]
theorem RA {s:ByteArray} (h:¬ s=⟨#[]⟩):0<s.size:=auH fun e=>h (aaO e)
theorem EO {α:Type} {l:List α} {i:Nat} {x:α} (h:l[i]?=some x):l.drop i=x :: l.drop (i+1):=by obtain⟨h1,h2⟩:=aA.1 h;rw [dW h1,h2]
section
attribute [local go_sem] ax bM
theorem sI (x:Ex) (hX:WX x) (least:Int) (v:Nat) (O:List UInt8) (hO:O.length+(sG x.lvl least x.pr).length≤34359738368):∃ r_ m_,(WR O (sG x.lvl least x.pr) []) r_ m_∧bo aj 115 [.ptr 0 0,.agg [num x.kind,str x.mod,str x.name,str x.text,num x.num,.slice (x.types.map bk),.slice (x.labels.map cq),.slice (x.kids.map br)],num least] (bM 129 v O []) r_ m_:=by
 refine uJ tt_ok [] 22 [] (2) (ay _) (fn:=Tryz.f115) Tryz.func115 rfl Tryz.call115 ⟨rfl,rfl,by simp⟩ fun K hK=>?_;simp only [bM];simp only [go_sem];refine ep (afP x) ?_;simp only [go_sem];refine cC (fun kh=>?_) (fun kh=>?_);·(have hle:least≤x.lvl:=by simpa using kh);(have hp:sG x.lvl least x.pr=x.pr:=by unfold sG;rw [if_pos hle]);rw [hp] at hO;simp only [go_sem];refine cW (wex hX (by omega) _) ?_;rintro _ _ ⟨rfl,O2,v2,sH,rfl⟩;simp only [go_sem];exact hK _ _ ⟨rfl,_,_,by rw [hp];first|exact ke|(simp only [*,ab,ag,ah,aK,al,aw,aC]),rfl⟩
 have hle:¬ least≤x.lvl:=by simpa using kh
 have hp:sG x.lvl least x.pr=[40]++x.pr++[41]:=by unfold sG;rw [if_neg hle]
 have fJ:=hO;rw [hp] at fJ;simp only [ab,ag,ah,aK,ae,af,ai] at fJ;simp only [go_sem];refine cW (ld (cy [⟨#[40]⟩] (by simp) (iE (by decide) lh) _ _ (by simp only [ab,ag,ah,aK,ae,af,ai];omega)) _ 1 rfl rfl (fun _=>rfl) rfl) ?_;rintro _ _ ⟨rfl,O3,v3,tp,rfl⟩;have B4:=congrArg List.length tp;simp only [ab,ag,ah,aK,ae,af,ai] at B4;simp only [go_sem];refine cW (wex hX (by omega) _) ?_;rintro _ _ ⟨rfl,O4,v4,Ct,rfl⟩;have Fq:=congrArg List.length Ct;simp only [ab,ag,ah,aK,ae,af,ai] at Fq;simp only [go_sem];refine cW (ld (cy [⟨#[41]⟩] (by simp) (iE (by decide) lh) _ _ (by simp only [ab,ag,ah,aK,ae,af,ai];omega)) _ 2 rfl rfl (fun _=>rfl) rfl) ?_;rintro _ _ ⟨rfl,O5,v5,Ru,rfl⟩;have OT:=congrArg List.length Ru;simp only [ab,ag,ah,aK,ae,af,ai] at OT;simp only [go_sem];exact hK _ _ ⟨rfl,_,_,by rw [hp];first|exact ke|(simp only [*,ab,ag,ah,aK,al,aw,aC]),rfl⟩
theorem kT (ks:List Ex) (zf:ks.length≤1048576) (hW:∀ k∈ks,WX k) (l:List ByteArray) (hl:l.length≤1048576) (hc:n4 l≤ks.length) (v:Nat) (O:List UInt8) (hO:O.length+(iI (ks.map Ex.pr) l).length≤34359738368):∃ r_ m_,(WR O (iI (ks.map Ex.pr) l) [.rows 0 1 (l.map str)]) r_ m_∧bo aj 116 [.ptr 0 0,.slice (ks.map br),.ms 2 0 0 l.length] (bM 129 v O [.rows 0 1 (l.map str)]) r_ m_:=by
 refine uJ tt_ok [] 28 [] (3) (ay _) (fn:=Tryz.f116) Tryz.func116 rfl Tryz.call116 ⟨rfl,rfl,by simp⟩ fun K hK=>?_;simp only [bM];simp only [go_sem];refine nM tt_ok [] (fun a:Nat×Nat×List UInt8×List Ex=>[(0,.ptr 0 0),(1,.slice (a.2.2.2.map br)),(8,.ms 2 0 0 l.length),(9,num l.length),(10,num a.1)]) (fun a:Nat×Nat×List UInt8×List Ex=>bM 129 a.2.1 a.2.2.1 [.rows 0 1 (l.map str)]) (fun a=>l.length-a.1) (fun a=>a.1≤l.length∧a.2.2.1++iI (a.2.2.2.map Ex.pr) (l.drop a.1)=O++iI (ks.map Ex.pr) l∧(∀ k∈a.2.2.2,WX k)∧n4 (l.drop a.1)≤a.2.2.2.length∧a.2.2.2.length≤1048576) ((0,v,O,ks)) 3 (eU (by omega) (by simp only [dY,go_sem] <;> rfl)) (⟨ck _,by rw [xU],hW,by rw [xU];exact hc,zf⟩) ?_;rintro⟨i,va,Oa,K⟩ ⟨hi,mo,NL,EP,RB⟩;try dsimp only at hi mo NL EP RB
 try dsimp only [bM]
 intro Z1 fh;simp only [go_sem];refine cC (fun lI=>?_) (fun lI=>?_);·(have bQ:i<l.length:=by simpa using lI);have hw:=bN i (by omega);obtain⟨s,NM⟩:∃ x,l[i]?=some x:=⟨_,au bQ⟩;(have dO:(i:Int)<(l.length:Int):=by omega);rw [EO NM] at mo EP;have uq:=congrArg List.length mo;rw [ae,ae] at uq;simp only [hw,aq,NM,dO,dZ,go_sem];refine cC (fun sJ=>?_) (fun sJ=>?_);(·have NN:s=⟨#[]⟩:=of_decide_eq_true sJ;subst NN;rw [jR] at mo uq;rw [jS] at EP;(obtain⟨k,K2,rfl⟩:∃ k K2,K=k :: K2:=by cases K with|nil=>simp at EP|cons k K2=>exact⟨k,K2,rfl⟩);have hWk:=NL k (cV ..);have XR:((k :: K2).map Ex.pr).headD []=k.pr:=rfl;have OS:((k :: K2).map Ex.pr).tail=K2.map Ex.pr:=rfl;rw [XR,OS] at mo uq;rw [ae] at uq;(have hcut:∀ mem,cutAt mem 8 1 none (.slice (.agg [num k.kind,str k.mod,str k.name,str k.text,num k.num,.slice (k.types.map bk),.slice (k.labels.map cq),.slice (k.kids.map br)] :: K2.map br))=some (.slice (K2.map br)):=fun mem=>by have h:=Bk (k :: K2) br 8 xv 1 (by simp) mem;simp only [bm,bn,aP,aQ,bK] at h;exact h);simp only [hw,aq,NM,dO,dZ,hcut,bm,aF,bY,bp,bn,aP,aQ,bK,go_sem];refine cW (wex hWk (by omega) _) ?_;rintro _ _ ⟨rfl,Oy,vy,jb,rfl⟩;simp only [hw,aq,NM,dO,dZ,hcut,bm,aF,bY,bp,bn,aP,aQ,bK,go_sem];refine fh _ ⟨(i+1,vy,Oy,K2),?_,?_,eU (by omega) (by simp only [hw,go_sem])⟩;(·exact⟨bQ,by rw [← mo,jb];simp only [cP,ab,ag,ah,aK,al],by first|exact fun k hk=>NL k (bj _ hk)|exact NL,by first|exact EP|(simp only [af] at EP;dsimp only;omega),by first|exact RB|(simp only [af] at RB;dsimp only;omega)⟩);dsimp only;omega);have NN:¬ s=⟨#[]⟩:=of_decide_eq_false sJ;rw [eC NN] at mo uq;rw [eD NN] at EP;obtain⟨K2,rfl⟩:∃ y,y=K:=⟨_,rfl⟩;rw [ae] at uq;simp only [hw,aq,NM,dO,dZ,go_sem];refine cW (ld (cy [s] (by simp) (iE (RA NN) lh) _ _ (by simp only [ab,ag,ah,aK,ae,af,ai];omega)) _ 1 rfl rfl (fun _=>rfl) rfl) ?_;rintro _ _ ⟨rfl,Oy,vy,jb,rfl⟩;simp only [hw,aq,NM,dO,dZ,go_sem];refine fh _ ⟨(i+1,vy,Oy,K2),?_,?_,eU (by omega) (by simp only [hw,go_sem])⟩;(·exact⟨bQ,by rw [← mo,jb];simp only [cP,ab,ag,ah,aK,al],by first|exact fun k hk=>NL k (bj _ hk)|exact NL,by first|exact EP|(simp only [af] at EP;dsimp only;omega),by first|exact RB|(simp only [af] at RB;dsimp only;omega)⟩);dsimp only;omega
 have jL:¬ i<l.length:=by simpa using lI
 have kz:i=l.length:=by omega
 rw [kz,auB] at mo;have hOf:Oa=O++iI (ks.map Ex.pr) l:=by rw [← mo];simp [iI]
 simp only [go_sem];exact hK _ _ ⟨rfl,_,_,hOf,rfl⟩
theorem Bl (ks:List Ex) (zf:ks.length≤1048576) (hW:∀ k∈ks,WX k) (l:List ByteArray) (hl:l.length≤1048576) (hc:n4 l≤ks.length) (v:Nat) (O:List UInt8) (hO:O.length+(iI (ks.map Ex.pr) l).length≤34359738368):∃ r_ m_,(WR O (iI (ks.map Ex.pr) l) []) r_ m_∧bo aj 116 [.ptr 0 0,.slice (ks.map br),.slice (l.map str)] (bM 129 v O []) r_ m_:=by
 refine uJ tt_ok [] 28 [] (2) (ay _) (fn:=Tryz.f116) Tryz.func116 rfl Tryz.call116 ⟨rfl,rfl,by simp⟩ fun K hK=>?_;simp only [bM];simp only [go_sem];refine nM tt_ok [] (fun a:Nat×Nat×List UInt8×List Ex=>[(0,.ptr 0 0),(1,.slice (a.2.2.2.map br)),(8,.slice (l.map str)),(9,num l.length),(10,num a.1)]) (fun a:Nat×Nat×List UInt8×List Ex=>bM 129 a.2.1 a.2.2.1 []) (fun a=>l.length-a.1) (fun a=>a.1≤l.length∧a.2.2.1++iI (a.2.2.2.map Ex.pr) (l.drop a.1)=O++iI (ks.map Ex.pr) l∧(∀ k∈a.2.2.2,WX k)∧n4 (l.drop a.1)≤a.2.2.2.length∧a.2.2.2.length≤1048576) ((0,v,O,ks)) 2 (eU (by omega) (by simp only [dY,go_sem] <;> rfl)) (⟨ck _,by rw [xU],hW,by rw [xU];exact hc,zf⟩) ?_;rintro⟨i,va,Oa,K⟩ ⟨hi,mo,NL,EP,RB⟩;try dsimp only at hi mo NL EP RB
 try dsimp only [bM]
 intro Z1 fh;simp only [go_sem];refine cC (fun lI=>?_) (fun lI=>?_);·(have bQ:i<l.length:=by simpa using lI);have hw:=bN i (by omega);obtain⟨s,NM⟩:∃ x,l[i]?=some x:=⟨_,au bQ⟩;(have dO:(i:Int)<(l.length:Int):=by omega);rw [EO NM] at mo EP;have uq:=congrArg List.length mo;rw [ae,ae] at uq;simp only [hw,aq,NM,dO,dZ,go_sem];refine cC (fun sJ=>?_) (fun sJ=>?_);(·have NN:s=⟨#[]⟩:=of_decide_eq_true sJ;subst NN;rw [jR] at mo uq;rw [jS] at EP;(obtain⟨k,K2,rfl⟩:∃ k K2,K=k :: K2:=by cases K with|nil=>simp at EP|cons k K2=>exact⟨k,K2,rfl⟩);have hWk:=NL k (cV ..);have XR:((k :: K2).map Ex.pr).headD []=k.pr:=rfl;have OS:((k :: K2).map Ex.pr).tail=K2.map Ex.pr:=rfl;rw [XR,OS] at mo uq;rw [ae] at uq;(have hcut:∀ mem,cutAt mem 8 1 none (.slice (.agg [num k.kind,str k.mod,str k.name,str k.text,num k.num,.slice (k.types.map bk),.slice (k.labels.map cq),.slice (k.kids.map br)] :: K2.map br))=some (.slice (K2.map br)):=fun mem=>by have h:=Bk (k :: K2) br 8 xv 1 (by simp) mem;simp only [bm,bn,aP,aQ,bK] at h;exact h);simp only [hw,aq,NM,dO,dZ,hcut,bm,aF,bY,bp,bn,aP,aQ,bK,go_sem];refine cW (wex hWk (by omega) _) ?_;rintro _ _ ⟨rfl,Oy,vy,jb,rfl⟩;simp only [hw,aq,NM,dO,dZ,hcut,bm,aF,bY,bp,bn,aP,aQ,bK,go_sem];refine fh _ ⟨(i+1,vy,Oy,K2),?_,?_,eU (by omega) (by simp only [hw,go_sem])⟩;(·exact⟨bQ,by rw [← mo,jb];simp only [cP,ab,ag,ah,aK,al],by first|exact fun k hk=>NL k (bj _ hk)|exact NL,by first|exact EP|(simp only [af] at EP;dsimp only;omega),by first|exact RB|(simp only [af] at RB;dsimp only;omega)⟩);dsimp only;omega);have NN:¬ s=⟨#[]⟩:=of_decide_eq_false sJ;rw [eC NN] at mo uq;rw [eD NN] at EP;obtain⟨K2,rfl⟩:∃ y,y=K:=⟨_,rfl⟩;rw [ae] at uq;simp only [hw,aq,NM,dO,dZ,go_sem];refine cW (ld (cy [s] (by simp) (iE (RA NN) lh) _ _ (by simp only [ab,ag,ah,aK,ae,af,ai];omega)) _ 0 rfl rfl (fun _=>rfl) rfl) ?_;rintro _ _ ⟨rfl,Oy,vy,jb,rfl⟩;simp only [hw,aq,NM,dO,dZ,go_sem];refine fh _ ⟨(i+1,vy,Oy,K2),?_,?_,eU (by omega) (by simp only [hw,go_sem])⟩;(·exact⟨bQ,by rw [← mo,jb];simp only [cP,ab,ag,ah,aK,al],by first|exact fun k hk=>NL k (bj _ hk)|exact NL,by first|exact EP|(simp only [af] at EP;dsimp only;omega),by first|exact RB|(simp only [af] at RB;dsimp only;omega)⟩);dsimp only;omega
 have jL:¬ i<l.length:=by simpa using lI
 have kz:i=l.length:=by omega
 rw [kz,auB] at mo;have hOf:Oa=O++iI (ks.map Ex.pr) l:=by rw [← mo];simp [iI]
 simp only [go_sem];exact hK _ _ ⟨rfl,_,_,hOf,rfl⟩
end
end
section
theorem X0 {ls:List Lb} {P:List (List UInt8)} {g:Lb→List UInt8→List UInt8} {i:Nat} {x:List UInt8} (h:(List.zipWith g ls P)[i]?=some x):∃ l p,ls[i]?=some l∧P[i]?=some p∧x=g l p:=by rw [List.getElem?_zipWith] at h;cases h1:ls[i]? with|none=>rw [h1] at h;cases h|some l =>cases h2:P[i]? with|none=>rw [h1,h2] at h;cases h|some p=>rw [h1,h2] at h;cases h;exact⟨l,p,rfl,rfl,rfl⟩
theorem RC {ks:List Ex} {i:Nat} {p:List UInt8} (h:(ks.map Ex.pr)[i]?=some p):∃ k,ks[i]?=some k∧p=k.pr:=by rw [aq,aY] at h;obtain⟨k,hk,rfl⟩:=h;exact⟨k,hk,rfl⟩
theorem wE {ks:List Ex} {i:Nat} {k:Ex} (h:ks[i]?=some k):((ks.drop i).map Ex.pr).headD []=k.pr:=by rw [EO h];rfl
theorem LO (ks:List Ex) (i:Nat) (hi:i≤ks.length) (mem:List bf):cutAt mem 8 (i:Int) none (.slice (ks.map br))=some (.slice ((ks.drop i).map br)):=Bk ks br 8 xv i hi mem
section
attribute [local go_sem] ax aq bM cq aD aQ bD aw aC
theorem JN (ls:List Lb) (ks:List Ex) (VR:ls.length≤1048576) (zf:ks.length≤1048576) (hW:∀ k∈ks,WX k) (i:Nat) (a:Lb) (k:Ex) (yW:ls[i]?=some a) (B5:ks[i]?=some k) (hn:0<a.name.size) (v:Nat) (O:List UInt8) (hO:O.length+(bt a.name++[58,32]++k.pr).length≤34359738368):∃ r_ m_,(WR O (bt a.name++[58,32]++k.pr) [.box [.ptr 0 0],.box [.slice (ls.map cq)],.box [.slice (ks.map br)]]) r_ m_∧bo aj 197 [num i,.ptr 2 0,.ptr 4 0,.ptr 3 0] (bM 129 v O [.box [.ptr 0 0],.box [.slice (ls.map cq)],.box [.slice (ks.map br)]]) r_ m_:=by
 refine uJ tt_ok [] 16 [] (5) (ay _) (fn:=Tryz.f197) Tryz.func197 rfl Tryz.call197 ⟨rfl,rfl,by simp⟩ fun K hK=>?_;simp only [bM];have bQ:=(aA.1 yW).1;have dO:(i:Int)<(ls.length:Int):=by omega
 have hik:=(aA.1 B5).1;have hcut:=LO ks i (by omega);have fJ:=hO;simp only [ab,ag,ah,aK,ae,af,ai] at fJ;have dy:¬ a.name=⟨#[]⟩:=by intro e;rw [e] at hn;exact absurd hn (by decide)
 have CI:(ks.drop i).length=ks.length-i:=e8;have sK:iI ((ks.drop i).map Ex.pr) [a.name,⟨#[58,32]⟩,⟨#[]⟩]=bt a.name++[58,32]++k.pr:=by rw [eC dy,eC (by decide),jR,iI];rw [wE B5];simp only [cP,ab,ag,ah,aK,al]
 simp only [yW,dO,hcut,go_sem];refine ga tt_ok cB [pR,pR,pN,jC [1,2],pR,pN,jC [4,5],ql [4,5,6],jC [4,5,6,7],ql [4,5,6,7,8],⟨.z,0,[],[0,1,2,3,4,5,6,7,8,9],[]⟩] 0 kr ?_;simp only [yW,dO,hcut,go_sem];refine xq (tm (Bl (ks.drop i) (by omega) (fun k hk=>hW k (atN hk)) [a.name,⟨#[58,32]⟩,⟨#[]⟩] (by simp) (by rw [eD dy,eD (by decide),jS,n4];omega) _ _ (by rw [sK];simp only [ab,ag,ah,aK,ae,af,ai];omega)) (by simp [aI,aV]) _) ?_;rintro _ _ ⟨rfl,O1,v1,ke,rfl⟩;rw [sK] at ke;have nn:=congrArg List.length ke;simp only [ab,ag,ah,aK,ae,af,ai] at nn;simp only [yW,dO,hcut,go_sem];exact hK _ _ ⟨rfl,_,_,ke,rfl⟩
end
section
attribute [local go_sem] ax aq bM bn aP aQ bK
theorem RD (x:Ex) (zf:x.kids.length≤1048576) (i:Nat) (k:Ex) (yW:x.kids[i]?=some k) (hX:WX k) (v:Nat) (O:List UInt8) (hO:O.length+k.pr.length≤34359738368):∃ r_ m_,(WR O k.pr [.box [.ptr 0 0],.box [num x.kind,str x.mod,str x.name,str x.text,num x.num,.slice (x.types.map bk),.slice (x.labels.map cq),.slice (x.kids.map br)]]) r_ m_∧bo aj 119 [num i,.ptr 2 0,.ptr 3 0] (bM 129 v O [.box [.ptr 0 0],.box [num x.kind,str x.mod,str x.name,str x.text,num x.num,.slice (x.types.map bk),.slice (x.labels.map cq),.slice (x.kids.map br)]]) r_ m_:=by
 refine uJ tt_ok [] 11 [] (4) (ay _) (fn:=Tryz.f119) Tryz.func119 rfl Tryz.call119 ⟨rfl,rfl,by simp⟩ fun K hK=>?_;simp only [bM];have bQ:=(aA.1 yW).1;have dO:(i:Int)<(x.kids.length:Int):=by omega
 simp only [yW,dO,go_sem];refine ga tt_ok cB [pR,pN,jC [1],pN,jC [1,2,3],jC [1,2,3,4],⟨.z,0,[],[0,1,2,3,4,5],[]⟩] 0 kr ?_;simp only [yW,dO,go_sem];refine xq (wex hX (by omega) _) ?_;rintro _ _ ⟨rfl,O1,v1,ke,rfl⟩;simp only [yW,dO,go_sem];exact hK _ _ ⟨rfl,_,_,ke,rfl⟩
end
section
attribute [local go_sem] ax aq bM cq aD aQ bD aw aC
theorem VS (x:Ex) (VR:x.labels.length≤1048576) (zf:x.kids.length≤1048576) (hW:∀ k∈x.kids,WX k) (i:Nat) (a:Lb) (k:Ex) (yW:x.labels[i]?=some a) (B5:x.kids[i+1]?=some k) (hn:0<a.name.size) (YM:0<a.var.size) (v:Nat) (O:List UInt8) (hO:O.length+(bt a.name++[32]++bt a.var++[32,61,62,32]++k.pr).length≤34359738368):∃ r_ m_,(WR O (bt a.name++[32]++bt a.var++[32,61,62,32]++k.pr) [.box [.ptr 0 0],.box [num x.kind,str x.mod,str x.name,str x.text,num x.num,.slice (x.types.map bk),.slice (x.labels.map cq),.slice (x.kids.map br)]]) r_ m_∧bo aj 201 [num i,.ptr 2 0,.ptr 3 0] (bM 129 v O [.box [.ptr 0 0],.box [num x.kind,str x.mod,str x.name,str x.text,num x.num,.slice (x.types.map bk),.slice (x.labels.map cq),.slice (x.kids.map br)]]) r_ m_:=by
 refine uJ tt_ok [] 24 [] (4) (ay _) (fn:=Tryz.f201) Tryz.func201 rfl Tryz.call201 ⟨rfl,rfl,by simp⟩ fun K hK=>?_;simp only [bM];have bQ:=(aA.1 yW).1;have dO:(i:Int)<(x.labels.length:Int):=by omega
 have hik:=(aA.1 B5).1;have hw:=bN i (by omega);have hcut:=LO x.kids (i+1) (by omega);have fJ:=hO;simp only [ab,ag,ah,aK,ae,af,ai] at fJ;have dy:¬ a.name=⟨#[]⟩:=by intro e;rw [e] at hn;exact absurd hn (by decide)
 have hnv:¬ a.var=⟨#[]⟩:=by intro e;rw [e] at YM;exact absurd YM (by decide)
 have CI:(x.kids.drop (i+1)).length=x.kids.length-(i+1):=e8;have sK:iI ((x.kids.drop (i+1)).map Ex.pr) [a.name,⟨#[32]⟩,a.var,⟨#[32,61,62,32]⟩,⟨#[]⟩]=bt a.name++[32]++bt a.var++[32,61,62,32]++k.pr:=by rw [eC dy,eC (by decide),eC hnv,eC (by decide),jR,iI];rw [wE B5];simp only [cP,ab,ag,ah,aK,al]
 simp only [yW,dO,hw,hcut,go_sem];refine ga tt_ok cB [pR,pN,jC [1],pN,ql [3],jC [1,2,3,4],pN,jC [6],pN,jC [6,7,8],ql [6,7,8,9],jC [6,7,8,9,10],pN,jC [12],pN,jC [12,13,14],ql [12,13,14,15],jC [12,13,14,15,16],ql [6,7,8,9,10,11,12,13,14,15,16,17],⟨.z,0,[],[0,1,2,3,4,5,6,7,8,9,10,11,12,13,14,15,16,17,18],[]⟩] 0 kr ?_;simp only [yW,dO,hw,hcut,go_sem];refine xq (tm (Bl (x.kids.drop (i+1)) (by omega) (fun k hk=>hW k (atN hk)) [a.name,⟨#[32]⟩,a.var,⟨#[32,61,62,32]⟩,⟨#[]⟩] (by simp) (by rw [eD dy,eD (by decide),eD hnv,eD (by decide),jS,n4];omega) _ _ (by rw [sK];simp only [ab,ag,ah,aK,ae,af,ai];omega)) (by simp [aI,aV]) _) ?_;rintro _ _ ⟨rfl,O1,v1,ke,rfl⟩;rw [sK] at ke;have nn:=congrArg List.length ke;simp only [ab,ag,ah,aK,ae,af,ai] at nn;simp only [yW,dO,hw,hcut,go_sem];exact hK _ _ ⟨rfl,_,_,ke,rfl⟩
end
theorem afQ {ls:List Lb} {ks:List Ex} (VR:ls.length≤1048576) (zf:ks.length≤1048576) (hW:∀ k∈ks,WX k) (hn:∀ a∈ls,0<a.name.size):∀ (i:Nat) (x:List UInt8),(List.zipWith (fun (l:Lb) p=>bt l.name++[58,32]++p) ls (ks.map Ex.pr))[i]?=some x→∀ v O,O.length+x.length≤34359738368→∃ r m,WR O x [.box [.ptr 0 0],.box [.slice (ls.map cq)],.box [.slice (ks.map br)]] r m∧bo aj 197 (num i :: [.ptr 2 0,.ptr 4 0,.ptr 3 0]) (bM 129 v O [.box [.ptr 0 0],.box [.slice (ls.map cq)],.box [.slice (ks.map br)]]) r m:=by intro i x hx v O hO;obtain⟨l,p,h1,h2,rfl⟩:=X0 hx;obtain⟨k,h3,rfl⟩:=RC h2;exact JN ls ks VR zf hW i l k h1 h3 (hn l (aE h1)) v O hO
def mG (ls:List Lb) (i:Nat):Nat:=((ls.take i).filter Lb.opt).length
theorem NO {ls:List Lb} {i:Nat} {a:Lb} (h:ls[i]?=some a):mG ls (i+1)=mG ls i+(if a.opt=true then 1 else 0):=by unfold mG;rw [bH,h,List.filter_append,ae];cases ho:a.opt <;> simp [ho]
theorem VT (ls:List Lb) (i:Nat):mG ls i≤gF ls:=by unfold mG gF;exact (List.Sublist.filter _ (List.take_sublist i ls)).length_le
theorem RE:∀ (ls:List Lb) (P:List (List UInt8)),(Fp ls P).length=ls.length
 | [],_=>rfl
 | l :: r,P=>by unfold Fp;split <;> simp [RE r]
theorem RF:∀ (ls:List Lb) (P:List (List UInt8)) (i:Nat) (x:List UInt8),(Fp ls P)[i]?=some x→∃ l,ls[i]?=some l∧x=if l.opt=true then bt l.name++[58,32]++l.ty.pr++[32,61,32]++(P.drop (mG ls i)).headD [] else bt l.name++[58,32]++l.ty.pr
 | [],P,i,x,h=>by simp [Fp] at h
 | l :: r,P,0,x,h=>by
  refine⟨l,rfl,?_⟩
  unfold Fp at h
  split at h <;> (simp only [aF,aB] at h;subst h) <;> simp [mG, *]
 | l :: r,P,i+1,x,h=>by
  unfold Fp at h
  by_cases ho:l.opt=true
  ·rw [if_pos ho,cO] at h
   obtain⟨a,h1,h2⟩:=RF r P.tail i x h
   refine⟨a,h1,?_⟩
   have e:mG (l :: r) (i+1)=mG r i+1:=by simp [mG,ho]
   rw [h2,e]
   cases P <;> simp
  rw [if_neg ho,cO] at h
  obtain⟨a,h1,h2⟩:=RF r P i x h
  refine⟨a,h1,?_⟩
  have e:mG (l :: r) (i+1)=mG r i:=by simp [mG,ho]
  rw [h2,e]
def LP (x:Ex) (i:Nat):List V:=[.slice ((x.kids.drop (mG x.labels i)).map br)]
theorem Dl (ls:List Lb) (ks:List Ex) (VR:ls.length≤1048576) (zf:ks.length≤1048576) (hlk:ls.length≤ks.length) (hW:∀ k∈ks,WX k) (hn:∀ a∈ls,0<a.name.size) (v:Nat) (O:List UInt8) (hO:O.length+(VB ls (ks.map Ex.pr)).length≤34359738368):∃ r_ m_,(WR O (VB ls (ks.map Ex.pr)) []) r_ m_∧bo aj 114 [.ptr 0 0,.slice (ls.map cq),.slice (ks.map br)] (bM 129 v O []) r_ m_:=by refine uJ tt_ok [] 11 [] (2) (ay _) (fn:=Tryz.f114) Tryz.func114 rfl Tryz.call114 ⟨rfl,rfl,by simp⟩ fun K hK=>?_;simp only [bM];simp only [ax,bM,go_sem];refine cW (wf3 (xD 197 [.ptr 2 0,.ptr 4 0,.ptr 3 0] (List.zipWith (fun (l:Lb) p=>bt l.name++[58,32]++p) ls (ks.map Ex.pr)) _ (by rw [aue,ax];omega) VR ⟨#[44,32]⟩ (by decide) [.ptr 0 0] [.slice (ls.map cq)] (fun _=>[.slice (ks.map br)]) rfl rfl rfl (fun _=>rfl) (afQ VR zf hW hn) _ _ hO) rfl rfl rfl _) ?_;rintro _ _ ⟨rfl,O1,v1,ke,rfl⟩;simp only [ax,bM,go_sem];exact hK _ _ ⟨rfl,_,_,ke,rfl⟩
section
attribute [local go_sem] ax aq bM LP cq aD aQ bD aw aC
theorem JO (x:Ex) (VR:x.labels.length≤1048576) (zf:x.kids.length≤1048576) (hW:∀ k∈x.kids,WX k) (hoc:gF x.labels≤x.kids.length) (i:Nat) (a:Lb) (yW:x.labels[i]?=some a) (hn:0<a.name.size) (hT:WT a.ty) (v:Nat) (O:List UInt8) (hO:O.length+(if a.opt=true then bt a.name++[58,32]++a.ty.pr++[32,61,32]++((x.kids.map Ex.pr).drop (mG x.labels i)).headD [] else bt a.name++[58,32]++a.ty.pr).length≤34359738368):∃ r_ m_,(WR O (if a.opt=true then bt a.name++[58,32]++a.ty.pr++[32,61,32]++((x.kids.map Ex.pr).drop (mG x.labels i)).headD [] else bt a.name++[58,32]++a.ty.pr) [.box [.ptr 0 0],.box [num x.kind,str x.mod,str x.name,str x.text,num x.num,.slice (x.types.map bk),.slice (x.labels.map cq),.slice (x.kids.map br)],.box (LP x (i+1))]) r_ m_∧bo aj 199 [num i,.ptr 2 0,.ptr 3 0,.ptr 4 0] (bM 129 v O [.box [.ptr 0 0],.box [num x.kind,str x.mod,str x.name,str x.text,num x.num,.slice (x.types.map bk),.slice (x.labels.map cq),.slice (x.kids.map br)],.box (LP x i)]) r_ m_:=by
 refine uJ tt_ok [] 34 [] (5) (ay _) (fn:=Tryz.f199) Tryz.func199 rfl Tryz.call199 ⟨rfl,rfl,by simp⟩ fun K hK=>?_;simp only [bM,LP];have bQ:=(aA.1 yW).1;have dO:(i:Int)<(x.labels.length:Int):=by omega
 have mc:=NO yW;have mf:=VT x.labels (i+1);have fJ:O.length+((bt a.name).length+(2+a.ty.pr.length))≤34359738368:=by revert hO;split <;> (intro hO;simp only [ae,af,ai] at hO;omega)
 simp only [yW,dO,go_sem];refine ga tt_ok cB [pR,pN,jC [1],pN,jC [1,2,3],ql [1,2,3,4],jC [1,2,3,4,5],ql [1,2,3,4,5,6],⟨.z,0,[],[0,1,2,3,4,5,6,7],[]⟩] 0 kr ?_;simp only [yW,dO,go_sem];refine xq (tm (nP [a.name,⟨#[58,32]⟩] (by simp) (iE hn (iE (by decide) lh)) _ _ (by simp only [ab,ag,ah,aK,ae,af,ai];omega)) rfl _) ?_;rintro _ _ ⟨rfl,O1,v1,ke,rfl⟩;have nn:=congrArg List.length ke;simp only [ab,ag,ah,aK,ae,af,ai] at nn;simp only [yW,dO,go_sem];refine ga tt_ok cB [pR,pN,jC [1],pN,jC [1,2,3],ql [1,2,3,4],jC [1,2,3,4,5],⟨.z,0,[],[0,1,2,3,4,5,6],[]⟩] 0 kr ?_;simp only [yW,dO,go_sem];refine xq (Hv (hT) (by omega) _) ?_;rintro _ _ ⟨rfl,O2,v2,sH,rfl⟩;have zJ:=congrArg List.length sH;simp only [ab,ag,ah,aK,ae,af,ai] at zJ;simp only [yW,dO,go_sem];refine cC (fun qD=>?_) (fun qD=>?_)
 ·have jv:a.opt=true:=qD;rw [if_pos jv] at hO mc;obtain⟨k,B5⟩:∃ k,x.kids[mG x.labels i]?=some k:=⟨_,au (by omega)⟩;have XR:((x.kids.map Ex.pr).drop (mG x.labels i)).headD []=k.pr:=by rw [← auj];exact wE B5
  rw [XR] at hO;have fg:=hO;simp only [ab,ag,ah,aK,ae,af,ai] at fg;have sK:iI ((x.kids.drop (mG x.labels i)).map Ex.pr) [⟨#[32,61,32]⟩,⟨#[]⟩]=[32,61,32]++k.pr:=by rw [eC (by decide),jR,iI];rw [wE B5];simp only [cP,ab,ag,ah,aK,al]
  have hcut:∀ mem,cutAt mem 8 1 none (.slice ((x.kids.drop (mG x.labels i)).map br))=some (.slice ((x.kids.drop (mG x.labels i+1)).map br)):=fun mem=>by have h:=LO (x.kids.drop (mG x.labels i)) 1 (by rw [e8];omega) mem;rw [aup] at h;exact h
  have hzk:LP x (i+1)=[.slice ((x.kids.drop (mG x.labels i+1)).map br)]:=by unfold LP;rw [mc]
  simp only [hcut,yW,dO,go_sem];refine cW (ld (kT (x.kids.drop (mG x.labels i)) (by rw [e8];omega) (fun k hk=>hW k (atN hk)) [⟨#[32,61,32]⟩,⟨#[]⟩] (by simp) (by rw [eD (by decide),jS,n4];rw [e8];omega) _ _ (by rw [sK];simp only [ab,ag,ah,aK,ae,af,ai];omega)) _ 3 rfl rfl (fun _=>rfl) rfl) ?_;rintro _ _ ⟨rfl,O3,v3,tp,rfl⟩;rw [sK] at tp;have B4:=congrArg List.length tp;simp only [ab,ag,ah,aK,ae,af,ai] at B4;simp only [hcut,yW,dO,go_sem]
  first
   | exact hK _ _ ⟨rfl,O3,v3,by rw [if_pos jv,XR,tp,sH,ke];simp only [cP,ab,ag,ah,aK,al],by rw [hzk];rfl⟩
   | exact hK _ _ ⟨rfl,O2,v2,by rw [if_neg jv,sH,ke];simp only [cP,ab,ag,ah,aK,al],by rw [hzk];rfl⟩
 have jv:¬ a.opt=true:=by rw [show a.opt=false from qD];decide
 rw [if_neg jv] at mc;have hzk:LP x (i+1)=LP x i:=by unfold LP;rw [mc];rfl
 simp only [yW,dO,go_sem]
 first
  | exact hK _ _ ⟨rfl,O3,v3,by rw [if_pos jv,XR,tp,sH,ke];simp only [cP,ab,ag,ah,aK,al],by rw [hzk];rfl⟩
  | exact hK _ _ ⟨rfl,O2,v2,by rw [if_neg jv,sH,ke];simp only [cP,ab,ag,ah,aK,al],by rw [hzk];rfl⟩
end
end
section
def ed (x:Ex):Nat:=if x.kind=5 then x.labels.length else if x.kind=6 then 1 else if x.kind=7 then 1 else if x.kind=8 then gF x.labels+1 else if x.kind=9 then x.labels.length+1 else if x.kind=10 then 2
 else if x.kind=11 then 1 else if x.kind=12 then 3 else if x.kind=13 then x.labels.length+1 else if x.kind=15 then 3 else if x.kind=16 then 1 else 0
structure OU (x:Ex):Prop where
 k0:0≤x.kind
 k1:x.kind≤16
 lt:x.types.length≤1048576
 ll:x.labels.length≤1048576
 lk:x.kids.length≤1048576
 ln:∀ a∈x.labels,0<a.name.size
 lv:x.kind=13→∀ a∈x.labels,0<a.var.size
 nm:x.kind=3∨x.kind=4∨x.kind=6∨x.kind=7∨x.kind=10∨x.kind=15∨x.kind=16→0<x.name.size
 tx:x.kind=15→0<x.text.size
 ts:x.text.size≤1048576
 b0:x.kind=2→x.num=0∨x.num=1
 n0 : -9223372036854775808≤x.num
 n1:x.num≤9223372036854775807
 ty:11≤x.kind→x.kind≤15→∃ a r,x.types=a :: r
 kd:ed x≤x.kids.length
 wt:∀ t∈x.types,WT t
 wl:x.kind=8→∀ a∈x.labels,WT a.ty
theorem kd1 {l:List Ex} (h:1≤l.length):∃ a r,l=a :: r:=by cases l with|nil=>simp at h|cons a r=>exact⟨a,r,rfl⟩
theorem kd2 {l:List Ex} (h:2≤l.length):∃ a b r,l=a :: b :: r:=by match l,h with|[],h=>simp at h|[_],h=>simp at h|a :: b :: r,_=>exact⟨a,b,r,rfl⟩
theorem kd3 {l:List Ex} (h:3≤l.length):∃ a b c r,l=a :: b :: c :: r:=by match l,h with|[],h=>simp at h|[_],h=>simp at h|[_,_],h=>simp at h|a :: b :: c :: r,_=>exact⟨a,b,c,r,rfl⟩
theorem X1:(0:Int)≤1:=by decide
theorem LQ {s:ByteArray} (h:0<s.size):¬ s=⟨#[]⟩:=by intro e;rw [e] at h;exact absurd h (by decide)
theorem RG (ls:List Lb):mG ls ls.length=gF ls:=by unfold mG gF;rw [az]
theorem aa5 {x:Ex} (hx:OU x) (hk:x.kind=8) (hW:∀ k∈x.kids,WX k) (hoc:gF x.labels≤x.kids.length):∀ (i:Nat) (y:List UInt8),(Fp x.labels (x.kids.map Ex.pr))[i]?=some y→∀ v O,O.length+y.length≤34359738368→∃ r m,WR O y [.box [.ptr 0 0],.box [num x.kind,str x.mod,str x.name,str x.text,num x.num,.slice (x.types.map bk),.slice (x.labels.map cq),.slice (x.kids.map br)],.box (LP x (i+1))] r m∧bo aj 199 (num i :: [.ptr 2 0,.ptr 3 0,.ptr 4 0]) (bM 129 v O [.box [.ptr 0 0],.box [num x.kind,str x.mod,str x.name,str x.text,num x.num,.slice (x.types.map bk),.slice (x.labels.map cq),.slice (x.kids.map br)],.box (LP x i)]) r m:=by intro i y hy v O hO;obtain⟨l,h1,rfl⟩:=RF _ _ _ _ hy;exact JO x hx.ll hx.lk hW hoc i l h1 (hx.ln l (aE h1)) (hx.wl hk l (aE h1)) v O hO
theorem aa6 {x:Ex} (hx:OU x) (hk:x.kind=13) (hW:∀ k∈x.kids,WX k) {a:Ex} {r:List Ex} (iO:x.kids=a :: r):∀ (i:Nat) (y:List UInt8),(List.zipWith (fun (l:Lb) p=>bt l.name++[32]++bt l.var++[32,61,62,32]++p) x.labels (r.map Ex.pr))[i]?=some y→∀ v O,O.length+y.length≤34359738368→∃ r m,WR O y [.box [.ptr 0 0],.box [num x.kind,str x.mod,str x.name,str x.text,num x.num,.slice (x.types.map bk),.slice (x.labels.map cq),.slice (x.kids.map br)]] r m∧bo aj 201 (num i :: [.ptr 2 0,.ptr 3 0]) (bM 129 v O [.box [.ptr 0 0],.box [num x.kind,str x.mod,str x.name,str x.text,num x.num,.slice (x.types.map bk),.slice (x.labels.map cq),.slice (x.kids.map br)]]) r m:=by intro i y hy v O hO;obtain⟨l,p,h1,h2,rfl⟩:=X0 hy;obtain⟨k,h3,rfl⟩:=RC h2;exact VS x hx.ll hx.lk hW i l k h1 (by rw [iO];exact h3) (hx.ln l (aE h1)) (hx.lv hk l (aE h1)) v O hO
theorem afS {x:Ex} (hx:OU x) (hW:∀ k∈x.kids,WX k):∀ (i:Nat) (y:List UInt8),(x.kids.map Ex.pr)[i]?=some y→∀ v O,O.length+y.length≤34359738368→∃ r m,WR O y [.box [.ptr 0 0],.box [num x.kind,str x.mod,str x.name,str x.text,num x.num,.slice (x.types.map bk),.slice (x.labels.map cq),.slice (x.kids.map br)]] r m∧bo aj 119 (num i :: [.ptr 2 0,.ptr 3 0]) (bM 129 v O [.box [.ptr 0 0],.box [num x.kind,str x.mod,str x.name,str x.text,num x.num,.slice (x.types.map bk),.slice (x.labels.map cq),.slice (x.kids.map br)]]) r m:=by intro i y hy v O hO;obtain⟨k,h3,rfl⟩:=RC hy;exact RD x hx.lk i k h3 (hW k (aE h3)) v O hO
theorem RH (x:Ex) (hx:OU x) (hk:x.kind=8) (hW:∀ k∈x.kids,WX k) (v:Nat) (O:List UInt8) (hO:O.length+(x.pr).length≤34359738368):∃ r_ m_,(WR O (x.pr) []) r_ m_∧bo aj 117 [.ptr 0 0,.agg [num x.kind,str x.mod,str x.name,str x.text,num x.num,.slice (x.types.map bk),.slice (x.labels.map cq),.slice (x.kids.map br)]] (bM 129 v O []) r_ m_:=by
 refine uJ tt_ok [] 20 [] (2) (ay _) (fn:=Tryz.f117) Tryz.func117 rfl Tryz.call117 ⟨rfl,rfl,by simp⟩ fun K hK=>?_;simp only [bM];have tU:ed x=gF x.labels+1:=by simp [ed,hk]
 have gM:=hx.kd;rw [tU] at gM;have hlk:=hx.lk;obtain⟨k,B5⟩:∃ k,x.kids[gF x.labels]?=some k:=⟨_,au (by omega)⟩;have hpk:(x.kids.map Ex.pr)[gF x.labels]?.getD []=k.pr:=by rw [aq,B5];rfl
 have hp:x.pr=[102,110,40]++(jn [44,32] (Fp x.labels (x.kids.map Ex.pr))++([41,32,61,62,32]++k.pr)):=by rw [← hpk,x.gV];unfold Be gF;simp [hk]
 have fJ:=hO;rw [hp] at fJ;simp only [ab,ag,ah,aK,ae,af,ai] at fJ;have yX:LP x x.labels.length=[.slice ((x.kids.drop (gF x.labels)).map br)]:=by unfold LP;rw [RG]
 have sK:iI ((x.kids.drop (gF x.labels)).map Ex.pr) [⟨#[41,32,61,62,32]⟩,⟨#[]⟩]=[41,32,61,62,32]++k.pr:=by rw [eC (by decide),jR,iI];rw [wE B5];simp only [cP,ab,ag,ah,aK,al]
 simp only [ax,bM,yX,go_sem];refine cW (ld (cy [⟨#[102,110,40]⟩] (by simp) (iE (by decide) lh) _ _ (by simp only [ab,ag,ah,aK,ae,af,ai];omega)) _ 3 rfl rfl (fun _=>rfl) rfl) ?_;rintro _ _ ⟨rfl,O1,v1,ke,rfl⟩;have nn:=congrArg List.length ke;simp only [ab,ag,ah,aK,ae,af,ai] at nn;simp only [ax,bM,yX,go_sem];refine cW (wf3 (xD 199 [.ptr 2 0,.ptr 3 0,.ptr 4 0] (Fp x.labels (x.kids.map Ex.pr)) _ (by rw [RE]) hx.ll ⟨#[44,32]⟩ (by decide) [.ptr 0 0] [num x.kind,str x.mod,str x.name,str x.text,num x.num,.slice (x.types.map bk),.slice (x.labels.map cq),.slice (x.kids.map br)] (LP x) rfl rfl rfl (fun _=>rfl) (aa5 hx hk hW (by omega)) _ _ (by rw [aK];omega)) rfl rfl rfl _) ?_;rintro _ _ ⟨rfl,O2,v2,sH,rfl⟩;have zJ:=congrArg List.length sH;simp only [ab,ag,ah,aK,ae,af,ai] at zJ;simp only [ax,bM,yX,go_sem];refine cW (ld (kT (x.kids.drop (gF x.labels)) (by rw [e8];omega) (fun k hk=>hW k (atN hk)) [⟨#[41,32,61,62,32]⟩,⟨#[]⟩] (by simp) (by rw [eD (by decide),jS,n4];rw [e8];omega) _ _ (by rw [sK];simp only [ab,ag,ah,aK,ae,af,ai];omega)) _ 4 rfl rfl (fun _=>rfl) rfl) ?_;rintro _ _ ⟨rfl,O3,v3,tp,rfl⟩;rw [sK] at tp;have B4:=congrArg List.length tp;simp only [ab,ag,ah,aK,ae,af,ai] at B4;simp only [ax,bM,yX,go_sem];exact hK _ _ ⟨rfl,_,_,by rw [hp,tp,sH,ke];simp only [cP,ab,ag,ah,aK,al],rfl⟩
section
attribute [local go_sem] ax bM iq aF bY bp
theorem RI (x:Ex) (hx:OU x) (hk:x.kind=16) (hW:∀ k∈x.kids,WX k) (v:Nat) (O:List UInt8) (hO:O.length+(x.pr).length≤34359738368):∃ r_ m_,(WR O (x.pr) []) r_ m_∧bo aj 120 [.ptr 0 0,.agg [num x.kind,str x.mod,str x.name,str x.text,num x.num,.slice (x.types.map bk),.slice (x.labels.map cq),.slice (x.kids.map br)]] (bM 129 v O []) r_ m_:=by
 refine uJ tt_ok [] 50 [] (2) (ay _) (fn:=Tryz.f120) Tryz.func120 rfl Tryz.call120 ⟨rfl,rfl,by simp⟩ fun K hK=>?_;simp only [bM];have tU:ed x=1:=by simp [ed,hk]
 have gM:=hx.kd;rw [tU] at gM;have vY:=hx.nm (by omega);have hlk:=hx.lk;obtain⟨a,r,iO⟩:=kd1 gM;have Ei:x.pr=XP x (x.kids.map Ex.pr):=by rw [x.gV];simp [Be,hk]
 have oP:x.kids.map br = .agg [num a.kind,str a.mod,str a.name,str a.text,num a.num,.slice (a.types.map bk),.slice (a.labels.map cq),.slice (a.kids.map br)] :: r.map br:=by rw [iO,bm];simp only [bn,aP,aQ,bK]
 have zf:x.kids.length=r.length+1:=by rw [iO];rfl
 simp only [oP,go_sem];refine ep (yz x.name) ?_;simp only [oP,go_sem];refine cC (fun sJ=>?_) (fun sJ=>?_);·(have h1:x.kids.length=1:=by have h0:=of_decide_eq_true sJ;omega);(have hp:x.pr=bt x.name++([32]++sG a.lvl (rm x.name).2.1 a.pr):=by rw [Ei];unfold XP;rw [if_pos h1,iO];simp);have fJ:=hO;rw [hp] at fJ;simp only [ab,ag,ah,aK,ae,af,ai] at fJ;simp only [oP,go_sem];refine cW (ld (cy [x.name,⟨#[32]⟩] (by simp) (iE vY (iE (by decide) lh)) _ _ (by simp only [ab,ag,ah,aK,ae,af,ai];omega)) _ 2 rfl rfl (fun _=>rfl) rfl) ?_;rintro _ _ ⟨rfl,O2,v2,sH,rfl⟩;have zJ:=congrArg List.length sH;simp only [ab,ag,ah,aK,ae,af,ai] at zJ;simp only [oP,go_sem];refine ga tt_ok cB [pN,pN,jC [1],jC [1,2],jC [1,2,3],pR,jC [5],⟨.z,0,[],[0,1,2,3,4,5,6],[]⟩] 0 kr ?_;simp only [oP,go_sem];refine xq (tm (sI a (hW a (by rw [iO];simp)) (rm x.name).2.1 _ _ (by omega)) (by simp [aI,aV]) _) ?_;rintro _ _ ⟨rfl,O3,v3,tp,rfl⟩;have B4:=congrArg List.length tp;simp only [ae] at B4;simp only [oP,go_sem];exact hK _ _ ⟨rfl,_,_,by rw [hp];simp only [*,ab,ag,ah,aK,al,aw,aC],rfl⟩
 have h1:¬ x.kids.length=1:=fun e=>(of_decide_eq_false sJ) (by omega);obtain⟨b,r2,hr⟩:=kd1 (l:=r) (by omega);subst hr;have hmr:(b :: r2).map br = .agg [num b.kind,str b.mod,str b.name,str b.text,num b.num,.slice (b.types.map bk),.slice (b.labels.map cq),.slice (b.kids.map br)] :: r2.map br:=by rw [bm];simp only [bn,aP,aQ,bK]
 rw [hmr] at oP;have hp:x.pr=sG a.lvl (rm x.name).2.1 a.pr++([32]++(bt x.name++([32]++sG b.lvl (rm x.name).2.2 b.pr))):=by rw [Ei];unfold XP;rw [if_neg h1,iO];simp
 have fJ:=hO;rw [hp] at fJ;simp only [ab,ag,ah,aK,ae,af,ai] at fJ;simp only [hmr,cO,X1,OL,oP,go_sem];refine ga tt_ok cB [pN,pN,jC [1],jC [1,2],jC [1,2,3],pR,jC [5],⟨.z,0,[],[0,1,2,3,4,5,6],[]⟩] 0 kr ?_;simp only [hmr,cO,X1,OL,oP,go_sem];refine xq (tm (sI a (hW a (by rw [iO];simp)) (rm x.name).2.1 _ _ (by omega)) (by simp [aI,aV]) _) ?_;rintro _ _ ⟨rfl,O4,v4,Ct,rfl⟩;have Fq:=congrArg List.length Ct;simp only [ae] at Fq;simp only [hmr,cO,X1,OL,oP,go_sem];refine cW (ld (cy [⟨#[32]⟩,x.name,⟨#[32]⟩] (by simp) (iE (by decide) (iE vY (iE (by decide) lh))) _ _ (by simp only [ab,ag,ah,aK,ae,af,ai];omega)) _ 2 rfl rfl (fun _=>rfl) rfl) ?_;rintro _ _ ⟨rfl,O5,v5,Ru,rfl⟩;have OT:=congrArg List.length Ru;simp only [ab,ag,ah,aK,ae,af,ai] at OT;simp only [hmr,cO,X1,OL,oP,go_sem];refine ga tt_ok cB [pN,pN,jC [1],jC [1,2],jC [1,2,3],pR,jC [5],⟨.z,0,[],[0,1,2,3,4,5,6],[]⟩] 0 kr ?_;simp only [hmr,cO,X1,OL,oP,go_sem];refine xq (tm (sI b (hW b (by rw [iO];simp)) (rm x.name).2.2 _ _ (by omega)) (by simp [aI,aV]) _) ?_;rintro _ _ ⟨rfl,O6,v6,XW,rfl⟩;have T9:=congrArg List.length XW;simp only [ae] at T9;simp only [hmr,cO,X1,OL,oP,go_sem];exact hK _ _ ⟨rfl,_,_,by rw [hp];simp only [*,ab,ag,ah,aK,al,aw,aC],rfl⟩
end
section
attribute [local go_sem] ax bM aF bY bp
theorem RJ (x:Ex) (hx:OU x) (hk3:x.kind=12∨x.kind=15∨x.kind=13) (hW:∀ k∈x.kids,WX k) (v:Nat) (O:List UInt8) (hO:O.length+(x.pr).length≤34359738368):∃ r_ m_,(WR O (x.pr) []) r_ m_∧bo aj 121 [.ptr 0 0,.agg [num x.kind,str x.mod,str x.name,str x.text,num x.num,.slice (x.types.map bk),.slice (x.labels.map cq),.slice (x.kids.map br)]] (bM 129 v O []) r_ m_:=by
 refine uJ tt_ok [] 58 [] (2) (ay _) (fn:=Tryz.f121) Tryz.func121 rfl Tryz.call121 ⟨rfl,rfl,by simp⟩ fun K hK=>?_;simp only [bM];have gM:=hx.kd;have hlk:=hx.lk;obtain⟨t0,ts,JP⟩:=hx.ty (by omega) (by omega);have p9:x.types.map bk = .agg [num t0.kind,str t0.mod,str t0.name,.slice (t0.args.map bk),.slice (t0.bA.map dj)] :: ts.map bk:=by rw [JP,bm];simp only [aT,aD,aQ,bD]
 simp only [p9,go_sem];refine cC (fun VU=>?_) (fun VU=>?_);·(have hk:x.kind=12:=by simpa using VU);(have tU:ed x=3:=by simp [ed,hk]);rw [tU] at gM;obtain⟨a,b,c,r,iO⟩:=kd3 gM;(have hp:x.pr=[105,102]++([91]++(t0.pr++([93]++([32]++(a.pr++([32,116,104,101,110,32]++(b.pr++([32,101,108,115,101,32]++c.pr)))))))):=by rw [x.gV];simp [Be,Cr,kB,hk,iO,JP]);have fJ:=hO;rw [hp] at fJ;simp only [ab,ag,ah,aK,ae,af,ai] at fJ;(have sK:iI (x.kids.map Ex.pr) [⟨#[32]⟩,⟨#[]⟩,⟨#[32,116,104,101,110,32]⟩,⟨#[]⟩,⟨#[32,101,108,115,101,32]⟩,⟨#[]⟩]=[32]++(a.pr++([32,116,104,101,110,32]++(b.pr++([32,101,108,115,101,32]++c.pr)))):=by rw [eC (by decide),jR,eC (by decide),jR,eC (by decide),jR,iI];rw [iO];simp only [cP,bm,cg,qL,ab,ag,ah,aK,al]);simp only [p9,go_sem];refine ga tt_ok cB [pR,pN,jC [1],jC [1,2],jC [1,2,3],⟨.z,0,[],[0,1,2,3,4],[]⟩] 0 kr ?_;simp only [p9,go_sem];refine xq (tm (oD ⟨#[105,102]⟩ (by decide) t0 (hx.wt t0 (by rw [JP];exact cV ..)) _ _ (by simp only [ab,ag,ah,aK,ae,af,ai];omega)) (by simp [aI,aV]) _) ?_;rintro _ _ ⟨rfl,O1,v1,ke,rfl⟩;have nn:=congrArg List.length ke;simp only [ab,ag,ah,aK,ae,af,ai] at nn;simp only [p9,go_sem];refine cW (ld (kT (x.kids) (hx.lk) (hW) [⟨#[32]⟩,⟨#[]⟩,⟨#[32,116,104,101,110,32]⟩,⟨#[]⟩,⟨#[32,101,108,115,101,32]⟩,⟨#[]⟩] (by simp) (by rw [eD (by decide),jS,eD (by decide),jS,eD (by decide),jS,n4];omega) _ _ (by rw [sK];simp only [ab,ag,ah,aK,ae,af,ai];omega)) _ 2 rfl rfl (fun _=>rfl) rfl) ?_;rintro _ _ ⟨rfl,O2,v2,sH,rfl⟩;rw [sK] at sH;have zJ:=congrArg List.length sH;simp only [ab,ag,ah,aK,ae,af,ai] at zJ;simp only [p9,go_sem];exact hK _ _ ⟨rfl,_,_,by rw [hp];simp only [*,ab,ag,ah,aK,al,aw,aC],rfl⟩
 have aqU:¬ x.kind=12:=by simpa using VU
 simp only [p9,go_sem];refine cC (fun mR=>?_) (fun mR=>?_);·(have hk:x.kind=15:=by simpa using mR);(have tU:ed x=3:=by simp [ed,hk]);rw [tU] at gM;obtain⟨a,b,c,r,iO⟩:=kd3 gM;have X2:=LQ (hx.nm (by omega));have htn:=LQ (hx.tx hk);(have hp:x.pr=[102,111,108,100]++([91]++(t0.pr++([93]++([32]++(bt x.name++([44,32]++(bt x.text++([32,105,110,32]++(a.pr++([32,102,114,111,109,32]++(b.pr++([32,61,62,32]++c.pr)))))))))))):=by rw [x.gV];simp [Be,Cr,kB,hk,iO,JP]);have fJ:=hO;rw [hp] at fJ;simp only [ab,ag,ah,aK,ae,af,ai] at fJ;(have sK:iI (x.kids.map Ex.pr) [⟨#[32]⟩,x.name,⟨#[44,32]⟩,x.text,⟨#[32,105,110,32]⟩,⟨#[]⟩,⟨#[32,102,114,111,109,32]⟩,⟨#[]⟩,⟨#[32,61,62,32]⟩,⟨#[]⟩]=[32]++(bt x.name++([44,32]++(bt x.text++([32,105,110,32]++(a.pr++([32,102,114,111,109,32]++(b.pr++([32,61,62,32]++c.pr)))))))):=by rw [eC (by decide),eC X2,eC (by decide),eC htn,eC (by decide),jR,eC (by decide),jR,eC (by decide),jR,iI];rw [iO];simp only [cP,bm,cg,qL,ab,ag,ah,aK,al]);simp only [p9,go_sem];refine ga tt_ok cB [pR,pN,jC [1],jC [1,2],jC [1,2,3],⟨.z,0,[],[0,1,2,3,4],[]⟩] 0 kr ?_;simp only [p9,go_sem];refine xq (tm (oD ⟨#[102,111,108,100]⟩ (by decide) t0 (hx.wt t0 (by rw [JP];exact cV ..)) _ _ (by simp only [ab,ag,ah,aK,ae,af,ai];omega)) (by simp [aI,aV]) _) ?_;rintro _ _ ⟨rfl,O3,v3,tp,rfl⟩;have B4:=congrArg List.length tp;simp only [ab,ag,ah,aK,ae,af,ai] at B4;simp only [p9,go_sem];refine cW (ld (kT (x.kids) (hx.lk) (hW) [⟨#[32]⟩,x.name,⟨#[44,32]⟩,x.text,⟨#[32,105,110,32]⟩,⟨#[]⟩,⟨#[32,102,114,111,109,32]⟩,⟨#[]⟩,⟨#[32,61,62,32]⟩,⟨#[]⟩] (by simp) (by rw [eD (by decide),eD X2,eD (by decide),eD htn,eD (by decide),jS,eD (by decide),jS,eD (by decide),jS,n4];omega) _ _ (by rw [sK];simp only [ab,ag,ah,aK,ae,af,ai];omega)) _ 2 rfl rfl (fun _=>rfl) rfl) ?_;rintro _ _ ⟨rfl,O4,v4,Ct,rfl⟩;rw [sK] at Ct;have Fq:=congrArg List.length Ct;simp only [ab,ag,ah,aK,ae,af,ai] at Fq;simp only [p9,go_sem];exact hK _ _ ⟨rfl,_,_,by rw [hp];simp only [*,ab,ag,ah,aK,al,aw,aC],rfl⟩
 have hk:x.kind=13:=by have h15:¬ x.kind=15:=(by simpa using mR);omega
 simp only [p9,go_sem];refine cC (fun re=>?_) (fun re=>?_);·(have tU:ed x=x.labels.length+1:=by simp [ed,hk]);rw [tU] at gM;obtain⟨a,r,iO⟩:=kd1 (l:=x.kids) (by omega);(have zf:x.kids.length=r.length+1:=by rw [iO];rfl);(have hp:x.pr=[109,97,116,99,104]++([91]++(t0.pr++([93]++([32]++(a.pr++([32,123]++(jn [44,32] (List.zipWith (fun (l:Lb) p=>bt l.name++[32]++bt l.var++[32,61,62,32]++p) x.labels (r.map Ex.pr))++[125]))))))):=by rw [x.gV];simp [Be,Cr,kB,hk,Rp,iO,JP]);have fJ:=hO;rw [hp] at fJ;simp only [ab,ag,ah,aK,ae,af,ai] at fJ;(have sK:iI (x.kids.map Ex.pr) [⟨#[32]⟩,⟨#[]⟩,⟨#[32,123]⟩]=[32]++(a.pr++[32,123]):=by rw [eC (by decide),jR,eC (by decide),iI];rw [iO];simp only [cP,bm,cg,qL,ab,ag,ah,aK,al]);simp only [p9,go_sem];refine ga tt_ok cB [pR,pN,jC [1],jC [1,2],jC [1,2,3],⟨.z,0,[],[0,1,2,3,4],[]⟩] 0 kr ?_;simp only [p9,go_sem];refine xq (tm (oD ⟨#[109,97,116,99,104]⟩ (by decide) t0 (hx.wt t0 (by rw [JP];exact cV ..)) _ _ (by simp only [ab,ag,ah,aK,ae,af,ai];omega)) (by simp [aI,aV]) _) ?_;rintro _ _ ⟨rfl,O5,v5,Ru,rfl⟩;have OT:=congrArg List.length Ru;simp only [ab,ag,ah,aK,ae,af,ai] at OT;simp only [p9,go_sem];refine cW (ld (kT (x.kids) (hx.lk) (hW) [⟨#[32]⟩,⟨#[]⟩,⟨#[32,123]⟩] (by simp) (by rw [eD (by decide),jS,eD (by decide),n4];omega) _ _ (by rw [sK];simp only [ab,ag,ah,aK,ae,af,ai];omega)) _ 2 rfl rfl (fun _=>rfl) rfl) ?_;rintro _ _ ⟨rfl,O6,v6,XW,rfl⟩;rw [sK] at XW;have T9:=congrArg List.length XW;simp only [ab,ag,ah,aK,ae,af,ai] at T9;simp only [p9,go_sem];refine cW (wf2 (tn 201 [.ptr 2 0,.ptr 3 0] (List.zipWith (fun (l:Lb) p=>bt l.name++[32]++bt l.var++[32,61,62,32]++p) x.labels (r.map Ex.pr)) _ (by first|(simp;done)|(rw [aue,ax];omega)) hx.ll ⟨#[44,32]⟩ (by decide) [.ptr 0 0] [num x.kind,str x.mod,str x.name,str x.text,num x.num,.slice (.agg [num t0.kind,str t0.mod,str t0.name,.slice (t0.args.map bk),.slice (t0.bA.map dj)] :: ts.map bk),.slice (x.labels.map cq),.slice (x.kids.map br)] rfl rfl rfl (by have h:=aa6 hx hk hW iO;simp only [p9] at h;exact h) _ _ (by rw [aK];omega)) rfl rfl rfl _) ?_;rintro _ _ ⟨rfl,O7,v7,hO7,rfl⟩;have hl7:=congrArg List.length hO7;simp only [ab,ag,ah,aK,ae,af,ai] at hl7;simp only [p9,go_sem];refine cW (ld (cy [⟨#[125]⟩] (by simp) (iE (by decide) lh) _ _ (by simp only [ab,ag,ah,aK,ae,af,ai];omega)) _ 3 rfl rfl (fun _=>rfl) rfl) ?_;rintro _ _ ⟨rfl,O8,v8,hO8,rfl⟩;have VK:=congrArg List.length hO8;simp only [ab,ag,ah,aK,ae,af,ai] at VK;simp only [p9,go_sem];exact hK _ _ ⟨rfl,_,_,by rw [hp];simp only [*,ab,ag,ah,aK,al,aw,aC],rfl⟩
 exact absurd re (by simp [hk])
end
end
end Go.Proofs.YtfbbfmcggbapoaaGreatDoor
end
section
namespace Go.Proofs.YtfbbfmcggbapoaaGreatDoor
open Go.Proofs Go.Lib Go.RowKit Go.Shelf Go.Sort
set_option maxHeartbeats 6400000
set_option maxRecDepth 100000
def jT:Go.Shelf.Ren:=⟨fun|171=>111|243=>194|246=>253|283=>276|284=>277|285=>278|286=>279|129=>289|317=>288|318=>290|319=>291|320=>292|337=>303|338=>304|n=>n,fun|3=>3|9=>9|2=>2|4=>4|171=>256|0=>0|53=>257|37=>125|5=>5|173=>260|212=>267|51=>268|20=>20|213=>269|46=>209|232=>278|233=>279|n=>n,fun|17=>1|18=>2|19=>3|n=>n⟩
theorem tq:Go.Proofs.LaysM.n171 aj jT := {
 mixed:=kr
 f129:=Tryz.func289.trans (congrArg some kr)
 f171:=Tryz.func111.trans (congrArg some kr)
 f243:=Tryz.func194.trans (congrArg some kr)
 f246:=Tryz.func253.trans (congrArg some kr)
 f283:=Tryz.func276.trans (congrArg some kr)
 f284:=Tryz.func277.trans (congrArg some kr)
 f285:=Tryz.func278.trans (congrArg some kr)
 f286:=Tryz.func279.trans (congrArg some kr)
 f317:=Tryz.func288.trans (congrArg some kr)
 f318:=Tryz.func290.trans (congrArg some kr)
 f319:=Tryz.func291.trans (congrArg some kr)
 f320:=Tryz.func292.trans (congrArg some kr)
 f337:=Tryz.func303.trans (congrArg some kr)
 f338:=Tryz.func304.trans (congrArg some kr)
 t0:=Tryz.underlying0
 a0:=Tryz.isAgg0
 z0:=Tryz.sizeOf0
 v0:=Tryz.zeroValue0
 t2:=Tryz.underlying2
 a2:=Tryz.isAgg2
 z2:=Tryz.sizeOf2
 v2:=Tryz.zeroValue2
 t3:=Tryz.underlying3
 a3:=Tryz.isAgg3
 z3:=Tryz.sizeOf3
 v3:=Tryz.zeroValue3
 t4:=Tryz.underlying4
 a4:=Tryz.isAgg4
 z4:=Tryz.sizeOf4
 v4:=Tryz.zeroValue4
 t5:=Tryz.underlying5
 a5:=Tryz.isAgg5
 z5:=Tryz.sizeOf5
 v5:=Tryz.zeroValue5
 t9:=Tryz.underlying9
 a9:=Tryz.isAgg9
 z9:=Tryz.sizeOf9
 v9:=Tryz.zeroValue9
 t20:=Tryz.underlying20
 a20:=Tryz.isAgg20
 z20:=Tryz.sizeOf20
 v20:=Tryz.zeroValue20
 t37:=Tryz.underlying125
 a37:=Tryz.isAgg125
 z37:=Tryz.sizeOf125
 v37:=Tryz.zeroValue125
 t46:=Tryz.underlying209
 a46:=Tryz.isAgg209
 z46:=Tryz.sizeOf209
 v46:=Tryz.zeroValue209
 t51:=Tryz.underlying268
 a51:=Tryz.isAgg268
 z51:=Tryz.sizeOf268
 v51:=Tryz.zeroValue268
 t53:=Tryz.underlying257
 a53:=Tryz.isAgg257
 z53:=Tryz.sizeOf257
 v53:=Tryz.zeroValue257
 t171:=Tryz.underlying256
 a171:=Tryz.isAgg256
 z171:=Tryz.sizeOf256
 v171:=Tryz.zeroValue256
 t173:=Tryz.underlying260
 a173:=Tryz.isAgg260
 z173:=Tryz.sizeOf260
 v173:=Tryz.zeroValue260
 t212:=Tryz.underlying267
 a212:=Tryz.isAgg267
 z212:=Tryz.sizeOf267
 v212:=Tryz.zeroValue267
 t213:=Tryz.underlying269
 a213:=Tryz.isAgg269
 z213:=Tryz.sizeOf269
 t232:=Tryz.underlying278
 a232:=Tryz.isAgg278
 z232:=Tryz.sizeOf278
 v232:=Tryz.zeroValue278
 t233:=Tryz.underlying279
 a233:=Tryz.isAgg279
 z233:=Tryz.sizeOf279
 v233:=Tryz.zeroValue279
 g17:=kr
 g18:=kr
 g19:=kr
 i0:=kr
 i2:=kr
 i3:=kr
 i4:=kr
 i5:=kr
 i9:=kr
 i20:=kr
 i37:=kr
 i46:=kr
 i51:=kr
 i53:=kr
 i171:=kr
 i173:=kr
 i212:=kr
 i232:=kr
 i233:=kr
 m17:=kr
 m18:=kr
 m19:=kr }
theorem Hz (u:Nat) (h:u<18446744073709551616) (w:World):Calls aj 289 #[.int .u64 u] w fun e w'=>e = .returned (.int .i64 (Lib.bitLen u))∧w'=w :=
 Any.bits_Len64 (P:=aj) (ρ:=jT) { tq with } u w (by omega) (by omega)
theorem HA (x:Nat) (h:x≤64) (w:World):Calls aj 288 #[.int .i64 x] w fun e w'=>e = .returned (.int .i64 (Lib.l10 x))∧w'=w :=
 Any.internal_strconv_log10Pow2 (P:=aj) (ρ:=jT) { tq with } x h w
theorem HB (b:Bool) (w:World):Calls aj 290 #[.bool b] w fun e w'=>e = .returned (.int .i64 (if b then 1 else 0))∧w'=w :=
 Any.internal_strconv_bool2_int (P:=aj) (ρ:=jT) { tq with } b w
def Bm (w:World):Prop:=∀ q,q<20→w.cell? ⟨1,q,none⟩=some (.int .u64 ((10 ^ q:Nat):Int))
theorem wF (u:Nat) (h1:1≤u) (h2:u<18446744073709551616) (w:World) (hp:Bm w):Calls aj 277 #[.int .u64 u] w fun e w'=>e = .returned (.int .i64 (Lib.nDigits u))∧w'=w:=by
 obtain⟨hn,hl⟩:=Lib.numDigits_eq u h1 h2;have h64:Lib.bitLen u≤64:=Lib.bitLen_le u 64 (ay _) h2;have hto:((u:Int)).toNat=u:=by omega
 have hc:=hp (Lib.l10 (Lib.bitLen u)) (by omega);generalize hq:Lib.l10 (Lib.bitLen u)=q at hn hl hc;generalize hT:10 ^ q=T at hn hc;have aqW:q<20:=by omega
 have Hn:=Lib.hid hn;clear hn hp;go_enter Tryz.func277,Tryz.ntmps277
 go_wp2_with (first
  | (go_at_call 289;refine (Hz u h2 _).mono ?_;rintro e w' ⟨rfl,rfl⟩)
  | (go_at_call 288;refine (HA _ h64 _).mono ?_;rintro e w' ⟨rfl,rfl⟩)
  | (go_at_call 290;refine (HB _ _).mono ?_;rintro e w' ⟨rfl,rfl⟩))
 all_goals go_ret
 all_goals (refine⟨?_,rfl⟩;have hn:=Hn.out;congr 2;split at hn <;> simp_all <;> omega)
theorem Bm.alloc {w:World} (h:Bm w) (o:Obj):Bm (w.alloc o):=fun q hq=>by have h1:=h q hq;rw [← h1];have bQ:=World.block_lt_of_cell? w _ h1;unfold World.cell?;rw [Below.heap_alloc w _ _ bQ]
theorem ER (u:Nat) (h1:100≤u) (h2:u<9223372036854775808) (w:World) (hp:Bm w) :
  Calls aj 253 #[.int .i64 u,.int .i64 10] w fun e w'=>e = .returned (.string ⟨(Lib.decDigits u).toArray⟩)∧∃ k os,w'=grow (w.drewN k) os:=by
 have hu:u<18446744073709551616:=by omega
 have alL:Lib.nDigits u≤20:=by have:=Lib.numDigits_eq u (by omega) hu;split at this <;> omega
 have Ls:aj.arrayLen 256=24:=by simp [Program.arrayLen,Tryz.underlying256]
 have uZ:∀ W,(Instr.sliceAt 256 (.pointer (some ⟨w.heap.size,0,none⟩)) (some (.int .i64 1)) (some (.int .i64 (1+(Lib.nDigits u:Int)))) none).run aj W = .ok (.slice (some ⟨w.heap.size,1,none⟩) (Lib.nDigits u) 23) W:=fun W=>by rw [run_sliceAt_array_lh W 256 ⟨w.heap.size,0,none⟩ (by simp [Program.arrayLen,Program.elem,Tryz.underlying256]) .i64 .i64 1 (1+(Lib.nDigits u:Int)) (by omega) (by omega) (by rw [Ls];omega)];go_simp;omega
 have oJ:=Lib.holds_zero w 256 (Lib.nDigits u) (by omega);have iw:(Array.replicate (Lib.nDigits u) (0:UInt8)).size=Lib.nDigits u:=auQ;have hf:=Any.internal_strconv_formatBase10 (P:=aj) (ρ:=jT) { tq with } w.heap.size 1 23 u (Array.replicate (Lib.nDigits u) 0) (w.alloc (.cells Lib.zeros24 256)) oJ (by rw [iw];exact Lib.lt_pow_nDigits u) hu (by rw [iw];omega);rw [iw] at hf;replace hf:Calls aj 278 #[.slice (some ⟨w.heap.size,1,none⟩) (Lib.nDigits u) 23,.int .u64 u] (w.alloc (.cells Lib.zeros24 256)) _:=hf;have aa9:=Lib.hid oJ;clear oJ Ls;go_enter Tryz.func253,Tryz.ntmps253;go_wp2_with (go_at_call 277;refine (wF u (by omega) hu _ (hp.alloc _)).mono ?_;rintro e w' ⟨rfl,rfl⟩);go_at_call 278;refine hf.mono ?_;rintro e w' ⟨rfl,k,v',dk,rfl,hF⟩;have hcv:(convert 125 9 (.slice (some ⟨w.heap.size,1,none⟩) (Lib.nDigits u) 23)).run aj ((putRow (fun (b:UInt8)=>Value.int .u8 (b.toNat:Int)) (w.alloc (.cells Lib.zeros24 256)) w.heap.size 1 dk).drewN k) = .ok (.string ⟨(Lib.decDigits u).toArray⟩) ((putRow (fun (b:UInt8)=>Value.int .u8 (b.toNat:Int)) (w.alloc (.cells Lib.zeros24 256)) w.heap.size 1 dk).drewN k):=by have h:=run_convert_bytes_back (P:=aj) ((putRow (fun (b:UInt8)=>Value.int .u8 (b.toNat:Int)) (w.alloc (.cells Lib.zeros24 256)) w.heap.size 1 dk).drewN k) 125 9 5 ⟨w.heap.size,1,none⟩ 23 (Lib.decDigits u) Tryz.underlying125 Tryz.underlying5 Tryz.underlying9 (fun j hj=>by rw [Lib.row_is_numeral hF j hj,Lib.add_plain,World.cell?_drewN];exact cell?_putRow (fun (b:UInt8)=>Value.int .u8 (b.toNat:Int)) _ w.heap.size 1 _ dk aa9.out (by rw [hF.size,iw]) j (by rw [hF.size];rw [Lib.decDigits_length] at hj;exact hj));rw [Lib.decDigits_length] at h;exact h
 go_wp2;go_ret;obtain⟨os,eo⟩:=Lib.fin_pos w (.cells Lib.zeros24 256) dk k;exact⟨rfl,k,os,eo⟩
theorem JQ (u:Nat) (hu1:1≤u) (h2:u≤9223372036854775808) (w:World) (hp:Bm w) :
  Calls aj 253 #[.int .i64 (-(u:Int)),.int .i64 10] w fun e w'=>e = .returned (.string ⟨(45 :: Lib.decDigits u).toArray⟩)∧∃ k os,w'=grow (w.drewN k) os:=by
 have hu:u<18446744073709551616:=by omega
 have alL:Lib.nDigits u≤20:=by have:=Lib.numDigits_eq u (by omega) hu;split at this <;> omega
 have hwr:IntKind.u64.wrap (-IntKind.u64.wrap (-(u:Int)))=(u:Int):=by rw [IntKind.wrap_u64,IntKind.wrap_u64];omega
 have Ls:aj.arrayLen 256=24:=by simp [Program.arrayLen,Tryz.underlying256]
 have uZ:∀ W,(Instr.sliceAt 256 (.pointer (some ⟨w.heap.size,0,none⟩)) (some (.int .i64 1)) (some (.int .i64 (1+(Lib.nDigits u:Int)))) none).run aj W = .ok (.slice (some ⟨w.heap.size,1,none⟩) (Lib.nDigits u) 23) W:=fun W=>by rw [run_sliceAt_array_lh W 256 ⟨w.heap.size,0,none⟩ (by simp [Program.arrayLen,Program.elem,Tryz.underlying256]) .i64 .i64 1 (1+(Lib.nDigits u:Int)) (by omega) (by omega) (by rw [Ls];omega)];go_simp;omega
 have oJ:=Lib.holds_zero w 256 (Lib.nDigits u) (by omega);have iw:(Array.replicate (Lib.nDigits u) (0:UInt8)).size=Lib.nDigits u:=auQ;have hf:=Any.internal_strconv_formatBase10 (P:=aj) (ρ:=jT) { tq with } w.heap.size 1 23 u (Array.replicate (Lib.nDigits u) 0) (w.alloc (.cells Lib.zeros24 256)) oJ (by rw [iw];exact Lib.lt_pow_nDigits u) hu (by rw [iw];omega);rw [iw] at hf;replace hf:Calls aj 278 #[.slice (some ⟨w.heap.size,1,none⟩) (Lib.nDigits u) 23,.int .u64 u] (w.alloc (.cells Lib.zeros24 256)) _:=hf;have aa9:=Lib.hid oJ;clear oJ Ls;go_enter Tryz.func253,Tryz.ntmps253;go_wp2_with (go_at_call 277;refine (wF u (by omega) hu _ (hp.alloc _)).mono ?_;rintro e w' ⟨rfl,rfl⟩);go_at_call 278;refine hf.mono ?_;rintro e w' ⟨rfl,k,v',dk,rfl,hF⟩;have Fl:((putRow (fun (b:UInt8)=>Value.int .u8 (b.toNat:Int)) (w.alloc (.cells Lib.zeros24 256)) w.heap.size 1 dk).drewN k).cell? ⟨w.heap.size,0,none⟩=some (.int .u8 0):=by rw [World.cell?_drewN,cell?_putRow_other _ _ _ _ _ _ (Or.inr (Or.inl (Nat.zero_lt_one))),World.cell?_alloc_new];exact Lib.zeros24_at 0 (by omega)
 have hf0:((putRow (fun (b:UInt8)=>Value.int .u8 (b.toNat:Int)) (w.alloc (.cells Lib.zeros24 256)) w.heap.size 1 dk).drewN k).frozen? ⟨w.heap.size,0,none⟩=false:=by rw [World.frozen?_drewN,frozen?_putRow];exact World.frozen?_alloc_new _ _ _ _
 have Ls:aj.arrayLen 256=24:=by simp [Program.arrayLen,Tryz.underlying256]
 have aqY:∀ W,(Instr.sliceAt 256 (.pointer (some ⟨w.heap.size,0,none⟩)) none (some (.int .i64 (1+(Lib.nDigits u:Int)))) none).run aj W = .ok (.slice (some ⟨w.heap.size,0,none⟩) (1+Lib.nDigits u) 24) W:=fun W=>by rw [run_sliceAt_array_h W 256 ⟨w.heap.size,0,none⟩ (by simp [Program.arrayLen,Program.elem,Tryz.underlying256]) .i64 (1+(Lib.nDigits u:Int)) (by omega) (by rw [Ls];omega)];go_simp;omega
 clear Ls;have hcv:(convert 125 9 (.slice (some ⟨w.heap.size,0,none⟩) (1+Lib.nDigits u) 24)).run aj (((putRow (fun (b:UInt8)=>Value.int .u8 (b.toNat:Int)) (w.alloc (.cells Lib.zeros24 256)) w.heap.size 1 dk).drewN k).setCell ⟨w.heap.size,0,none⟩ (.int .u8 45)) = .ok (.string ⟨(45 :: Lib.decDigits u).toArray⟩) (((putRow (fun (b:UInt8)=>Value.int .u8 (b.toNat:Int)) (w.alloc (.cells Lib.zeros24 256)) w.heap.size 1 dk).drewN k).setCell ⟨w.heap.size,0,none⟩ (.int .u8 45)):=by have h:=run_convert_bytes_back (P:=aj) (((putRow (fun (b:UInt8)=>Value.int .u8 (b.toNat:Int)) (w.alloc (.cells Lib.zeros24 256)) w.heap.size 1 dk).drewN k).setCell ⟨w.heap.size,0,none⟩ (.int .u8 45)) 125 9 5 ⟨w.heap.size,0,none⟩ 24 (45 :: Lib.decDigits u) Tryz.underlying125 Tryz.underlying5 Tryz.underlying9 (fun j hj=>by rw [Lib.add_plain];cases j with|zero=>exact World.cell?_setCell_same _ _ _ Fl|succ i =>(have hi:i<(Lib.decDigits u).length:=by simpa using hj);rw [World.cell?_setCell_other _ _ _ _ (by simp),List.getElem_cons_succ,Lib.row_is_numeral hF i hi,World.cell?_drewN,show 0+(i+1)=1+i by omega];exact cell?_putRow (fun (b:UInt8)=>Value.int .u8 (b.toNat:Int)) _ w.heap.size 1 _ dk aa9.out (by rw [hF.size,iw]) i (by rw [hF.size];rw [Lib.decDigits_length] at hi;exact hi));rw [af,Lib.decDigits_length,atG] at h;exact h
 go_wp2;go_ret;obtain⟨os,eo⟩:=Lib.fin_neg w (.cells Lib.zeros24 256) dk k (.int .u8 45);exact⟨rfl,k,os,eo⟩
theorem HC (u:Nat) (h:u<100) (w:World):Calls aj 253 #[.int .i64 u,.int .i64 10] w fun e w'=>e = .returned (.string ⟨(Lib.decDigits u).toArray⟩)∧w'=w :=
 Any.internal_strconv_FormatInt_10_small (P:=aj) (ρ:=jT) { tq with } u h w
end Go.Proofs.YtfbbfmcggbapoaaGreatDoor
namespace Go.Proofs.YtfbbfmcggbapoaaGreatDoor
open Go.Eng
open Go.RowKit (Below)
open Go.Sort (grow)
variable [ba]
def jc:List Value:=(List.range 20).map fun q=>.int .u64 ((10 ^ q:Nat):Int)
theorem NP (hP:ba.u4 1=some jc) (n:Int) (h0 : -9223372036854775808≤n) (h1:n≤9223372036854775807):bJ aj 253 [num n,num 10] (str (bs (Lib.itoa n))):=by
 refine⟨Tryz.call253,fun F hg w xs hF hx=>?_⟩;obtain⟨x,ys,rj,hr,AV⟩:=hx.of_cons;obtain⟨y,zs,hys,FM,hz⟩:=AV.of_cons;have Po:=hz.of_nil;subst Po;have e1:=eT hr;have e2:=eT FM;subst e1;subst e2;subst hys;obtain rfl:xs = #[.int .i64 n,.int .i64 10]:=by rw [← cr (xs:=xs),rj]
 have hp:Bm w:=fun q hq=>hF _ _ (hg.t 1 jc q _ hP (by simp [jc,hq]));suffices hs:∃ l:List UInt8,Lib.itoa n=l∧Calls aj 253 #[.int .i64 n,.int .i64 10] w fun e w'=>e = .returned (.string ⟨l.toArray⟩)∧∃ k os,w'=grow (w.drewN k) os by obtain⟨l,hl,hc⟩:=hs;rw [hl];refine hc.mono ?_;rintro e w' ⟨rfl,k,os,rfl⟩;have hb:Below w.heap.size w (grow (w.drewN k) os):=Go.Lib.below_grow _ _ (ay _) _ _;exact⟨F,_,rfl,fun _ _ h=>h,fun ad z hz=>by rw [hb.cell (World.block_lt_of_cell? w ad (hF ad z hz))];exact hF ad z hz,fun _ _ h=>.inl h,⟨hg,.sc _ _⟩,hb⟩
 by_cases hn:n<0;·obtain⟨u,rfl⟩:∃ u:Nat,n = -(u:Int):=⟨n.natAbs,by omega⟩;exact⟨_,Lib.itoa_neg u (by omega),JQ u (by omega) (by omega) w hp⟩
 obtain⟨u,rfl⟩:∃ u:Nat,n=u:=⟨n.toNat,by omega⟩;rcases bS u 100 with hs|hs
 ·exact⟨_,Lib.itoa_nonneg u,(HC u hs w).mono fun e w' h=>⟨h.1,0,#[],by rw [h.2];simp [World.drewN_zero]⟩⟩
 exact⟨_,Lib.itoa_nonneg u,ER u hs (by omega) w hp⟩
theorem RL (hP:ba.u4 1=some jc) (n:Int) (h0 : -9223372036854775808≤n) (h1:n≤9223372036854775807):Cn 194 [num n] (str (bs (Lib.itoa n))):=by refine jq tt_ok [] 5 [.tmp 2] (fn:=Tryz.f194) Tryz.func194 rfl Tryz.call194 ⟨rfl,rfl,by simp⟩ fun K hK=>?_;simp only [go_sem];refine ep (⟨_,rfl,NP hP n h0 h1⟩:∃ r_,(fun w=>w=str (bs (Lib.itoa n))) r_∧_) ?_;simp only [go_sem];exact hK _ rfl
theorem VV (hP:ba.u4 1=some jc) (n:Int) (h0 : -9223372036854775808≤n) (h1:n≤9223372036854775807):Cn 111 [num n] (str (bs (Lib.itoa n))):=by refine jq tt_ok [] 5 [.tmp 2] (fn:=Tryz.f111) Tryz.func111 rfl Tryz.call111 ⟨rfl,rfl,by simp⟩ fun K hK=>?_;simp only [go_sem];refine ep (RL hP n h0 h1) ?_;simp only [go_sem];exact hK _ rfl
end Go.Proofs.YtfbbfmcggbapoaaGreatDoor
end
section
namespace Go.Proofs.YtfbbfmcggbapoaaGreatDoor
open Go.Eng
variable [ba]
open Nat renaming reduceAdd → zA, reduceLT → zB, reduceLeDiff → zC, reduceMul → zD, reduceEqDiff → zE, reduceSub → zF
set_option maxHeartbeats 4000000
set_option maxRecDepth 100000
section
theorem LS (n:Int):0<(bs (Lib.itoa n)).size:=by
 rw [EJ];have h:∀ u,1≤(Lib.decDigits u).length:=fun u=>by rw [Lib.decDigits_length];exact Lib.nDigits_pos u
 unfold Lib.itoa;split;·rw [af];omega
 exact h _
theorem RM (s:ByteArray):0<(bs (LI s)).size:=by rw [EJ];unfold LI;simp
def boB (b:Bool):ByteArray:=if b=true then ⟨#[116,114,117,101]⟩ else ⟨#[102,97,108,115,101]⟩
theorem VW (b:Bool):0<(boB b).size:=by cases b <;> decide
theorem aba (b:Bool):bt (boB b)=if b=true then [116,114,117,101] else [102,97,108,115,101]:=by cases b <;> rfl
theorem abb (b:Bool):Cn 196 [bl b] (str (boB b)):=by
 refine jq tt_ok [] 4 [.tmp 2] (fn:=Tryz.f196) Tryz.func196 rfl Tryz.call196 ⟨rfl,rfl,by simp⟩ fun K hK=>?_;simp only [go_sem];refine cC (fun TX=>?_) (fun TX=>?_);·subst TX;simp only [go_sem];exact hK _ rfl
 subst TX;simp only [go_sem];exact hK _ rfl
theorem afT (b:Bool):Cn 113 [bl b] (str (boB b)):=by refine jq tt_ok [] 5 [.tmp 2] (fn:=Tryz.f113) Tryz.func113 rfl Tryz.call113 ⟨rfl,rfl,by simp⟩ fun K hK=>?_;simp only [go_sem];refine ep (abb b) ?_;simp only [go_sem];exact hK _ rfl
section
attribute [local go_sem] ax bM
theorem JR (hP:ba.u4 1=some jc) (x:Ex) (hx:OU x) (hW:∀ k∈x.kids,WX k) (v:Nat) (O:List UInt8) (hO:O.length+(x.pr).length≤34359738368):∃ r_ m_,(WR O (x.pr) []) r_ m_∧bo aj 45 [.ptr 0 0,br x] (bM 129 v O []) r_ m_:=by
 refine uJ tt_ok [30000] 167 [] (2) (ay _) (fn:=Tryz.f45) Tryz.func45 rfl Tryz.call45 ⟨rfl,rfl,by simp⟩ fun K hK=>?_;simp only [bM];have gM:=hx.kd;have hlk:=hx.lk;simp only [bn,aP,aQ,bK];simp only [go_sem];refine cC (fun kh=>?_) (fun kh=>?_)
 ·have hk:x.kind=0:=by simpa using kh
  have hp:x.pr=bt (bs (Lib.itoa x.num)):=by rw [x.gV];simp [Be,Cr,kB,hk,Hr]
  have fJ:=hO;rw [hp] at fJ;try simp only [ab,ag,ah,aK,ae,af,ai] at fJ
  have hbi:=Hr (Lib.itoa x.num);simp only [go_sem];refine ga tt_ok cB [pR,pN,jC [1],ql [1,2],ql [1,2,3],⟨.z,0,[],[0,1,2,3,4],[]⟩] 0 kr ?_;simp only [go_sem];refine Jn (VV hP x.num hx.n0 hx.n1) ?_;simp only [go_sem];refine xq (tm (nP [(bs (Lib.itoa x.num))] (by simp) (iE (LS _) lh) _ _ (by simp only [ab,ag,ah,aK,ae,af,ai];omega)) rfl _) ?_;rintro _ _ ⟨rfl,O2,v2,sH,rfl⟩;have zJ:=congrArg List.length sH;simp only [ab,ag,ah,aK,ae,af,ai] at zJ;simp only [go_sem]
  first
   | (have LU:=hp;rw [hp] at hK;exact hK _ _ ⟨rfl,_,_,by simp only [*,ab,ag,ah,aK,al,aw,aC],rfl⟩)
   | (refine hK _ _ ⟨rfl,_,_,?_,rfl⟩;assumption)
 have hn0:¬ x.kind=0:=by simpa using kh
 simp only [go_sem];refine cC (fun JS=>?_) (fun JS=>?_)
 ·have hk:x.kind=1:=by simpa using JS
  have hp:x.pr=bt (bs (LI x.text)):=by rw [x.gV];simp [Be,Cr,kB,hk,Hr]
  have fJ:=hO;rw [hp] at fJ;try simp only [ab,ag,ah,aK,ae,af,ai] at fJ
  have hbi:=Hr (LI x.text);simp only [go_sem];refine ga tt_ok cB [pR,pN,jC [1],ql [1,2],ql [1,2,3],⟨.z,0,[],[0,1,2,3,4],[]⟩] 0 kr ?_;simp only [go_sem];refine Jn (Hw x.text hx.ts) ?_;simp only [go_sem];refine xq (tm (nP [(bs (LI x.text))] (by simp) (iE (RM _) lh) _ _ (by simp only [ab,ag,ah,aK,ae,af,ai];omega)) rfl _) ?_;rintro _ _ ⟨rfl,O4,v4,Ct,rfl⟩;have Fq:=congrArg List.length Ct;simp only [ab,ag,ah,aK,ae,af,ai] at Fq;simp only [go_sem]
  first
   | (have LU:=hp;rw [hp] at hK;exact hK _ _ ⟨rfl,_,_,by simp only [*,ab,ag,ah,aK,al,aw,aC],rfl⟩)
   | (refine hK _ _ ⟨rfl,_,_,?_,rfl⟩;assumption)
 have hn1:¬ x.kind=1:=by simpa using JS
 simp only [go_sem];refine cC (fun Ry=>?_) (fun Ry=>?_)
 ·have hk:x.kind=2:=by simpa using Ry
  have hp:x.pr=bt (boB (decide (x.num=1))):=by rw [x.gV];simp [Be,Cr,kB,hk,aba]
  have fJ:=hO;rw [hp] at fJ;try simp only [ab,ag,ah,aK,ae,af,ai] at fJ
  simp only [go_sem];refine ga tt_ok cB [pR,pN,jC [1],ql [1,2],ql [1,2,3],ql [1,2,3,4],⟨.z,0,[],[0,1,2,3,4,5],[]⟩] 0 kr ?_;simp only [go_sem];refine Jn (afT (decide (x.num=1))) ?_;simp only [go_sem];refine xq (tm (nP [(boB (decide (x.num=1)))] (by simp) (iE (VW _) lh) _ _ (by simp only [ab,ag,ah,aK,ae,af,ai];omega)) rfl _) ?_;rintro _ _ ⟨rfl,O6,v6,XW,rfl⟩;have T9:=congrArg List.length XW;simp only [ab,ag,ah,aK,ae,af,ai] at T9;simp only [go_sem]
  first
   | (have LU:=hp;rw [hp] at hK;exact hK _ _ ⟨rfl,_,_,by simp only [*,ab,ag,ah,aK,al,aw,aC],rfl⟩)
   | (refine hK _ _ ⟨rfl,_,_,?_,rfl⟩;assumption)
 have hn2:¬ x.kind=2:=by simpa using Ry
 simp only [go_sem];refine sq tt_ok [30000] ?_;simp only [go_sem];refine cC (fun tJ=>?_) (fun tJ=>?_)
 ·have hk:x.kind=3∨x.kind=4:=by first|exact .inl (by simpa using tJ)|exact .inr (by simpa using tJ)
  have hp:x.pr=Ik x.mod x.name (x.types.map Ty.pr):=by rw [x.gV];rcases hk with hk|hk <;> simp [Be,hk]
  simp only [go_sem];refine cW (tm (EL x.mod x.name (hx.nm (by omega)) x.types hx.lt hx.wt _ _ (by rw [← hp];omega)) (by simp [aI,aV]) _) ?_;rintro _ _ ⟨rfl,O7,v7,hO7,rfl⟩;simp only [go_sem]
  first
   | (have LU:=hp;rw [hp] at hK;exact hK _ _ ⟨rfl,_,_,by simp only [*,ab,ag,ah,aK,al,aw,aC],rfl⟩)
   | (refine hK _ _ ⟨rfl,_,_,?_,rfl⟩;assumption)
 have alM:=of_decide_eq_false tJ;simp only [go_sem];refine cC (fun tJ=>?_) (fun tJ=>?_)
 ·have hk:x.kind=3∨x.kind=4:=by first|exact .inl (by simpa using tJ)|exact .inr (by simpa using tJ)
  have hp:x.pr=Ik x.mod x.name (x.types.map Ty.pr):=by rw [x.gV];rcases hk with hk|hk <;> simp [Be,hk]
  simp only [go_sem];refine cW (tm (EL x.mod x.name (hx.nm (by omega)) x.types hx.lt hx.wt _ _ (by rw [← hp];omega)) (by simp [aI,aV]) _) ?_;rintro _ _ ⟨rfl,O8,v8,hO8,rfl⟩;simp only [go_sem]
  first
   | (have LU:=hp;rw [hp] at hK;exact hK _ _ ⟨rfl,_,_,by simp only [*,ab,ag,ah,aK,al,aw,aC],rfl⟩)
   | (refine hK _ _ ⟨rfl,_,_,?_,rfl⟩;assumption)
 have alM:=of_decide_eq_false tJ;simp only [go_sem];refine cC (fun EM=>?_) (fun EM=>?_)
 ·have hk:x.kind=5:=by simpa using EM
  have tU:ed x=x.labels.length:=by simp [ed,hk]
  rw [tU] at gM;have hp:x.pr=[123]++(VB x.labels (x.kids.map Ex.pr)++[125]):=by rw [x.gV];simp [Be,Cr,kB,hk]
  have fJ:=hO;rw [hp] at fJ;try simp only [ab,ag,ah,aK,ae,af,ai] at fJ
  simp only [go_sem];refine cW (ld (cy [⟨#[123]⟩] (by simp) (iE (by decide) lh) _ _ (by simp only [ab,ag,ah,aK,ae,af,ai];omega)) _ 2 rfl rfl (fun _=>rfl) rfl) ?_;rintro _ _ ⟨rfl,O9,v9,hO9,rfl⟩;have hl9:=congrArg List.length hO9;simp only [ab,ag,ah,aK,ae,af,ai] at hl9;simp only [go_sem];refine cW (tm (Dl x.labels (x.kids) hx.ll (hx.lk) (by omega) (hW) hx.ln _ _ (by omega)) (by simp [aI,aV]) _) ?_;rintro _ _ ⟨rfl,O10,v10,aaT,rfl⟩;have aaU:=congrArg List.length aaT;simp only [ab,ag,ah,aK,ae,af,ai] at aaU;simp only [go_sem];refine cW (ld (cy [⟨#[125]⟩] (by simp) (iE (by decide) lh) _ _ (by simp only [ab,ag,ah,aK,ae,af,ai];omega)) _ 3 rfl rfl (fun _=>rfl) rfl) ?_;rintro _ _ ⟨rfl,O11,v11,NJ,rfl⟩;have Rv:=congrArg List.length NJ;simp only [ab,ag,ah,aK,ae,af,ai] at Rv;simp only [go_sem]
  first
   | (have LU:=hp;rw [hp] at hK;exact hK _ _ ⟨rfl,_,_,by simp only [*,ab,ag,ah,aK,al,aw,aC],rfl⟩)
   | (refine hK _ _ ⟨rfl,_,_,?_,rfl⟩;assumption)
 have hn5:¬ x.kind=5:=by simpa using EM
 simp only [go_sem];refine cC (fun abc=>?_) (fun abc=>?_)
 ·have hk:x.kind=6:=by simpa using abc
  have tU:ed x=1:=by simp [ed,hk]
  rw [tU] at gM;obtain⟨a,r,iO⟩:=kd1 gM;have vY:=hx.nm (by omega);have oP:x.kids.map br = .agg [num a.kind,str a.mod,str a.name,str a.text,num a.num,.slice (a.types.map bk),.slice (a.labels.map cq),.slice (a.kids.map br)] :: r.map br:=by rw [iO,bm];simp only [bn,aP,aQ,bK]
  have hp:x.pr=sG a.lvl 8 a.pr++([46]++bt x.name):=by rw [x.gV];simp [Be,Cr,kB,hk,iO]
  have fJ:=hO;rw [hp] at fJ;try simp only [ab,ag,ah,aK,ae,af,ai] at fJ
  simp only [oP,aF,bY,bp,go_sem];refine ga tt_ok cB [pR,pN,jC [1],jC [1,2],jC [1,2,3],⟨.z,0,[],[0,1,2,3,4],[]⟩] 0 kr ?_;simp only [oP,aF,bY,bp,go_sem];refine xq (tm (sI a (hW a (by rw [iO];simp)) 8 _ _ (by omega)) (by simp [aI,aV]) _) ?_;rintro _ _ ⟨rfl,O12,v12,VL,rfl⟩;have aa0:=congrArg List.length VL;simp only [ae] at aa0;simp only [oP,aF,bY,bp,go_sem];refine cW (ld (cy [⟨#[46]⟩,x.name] (by simp) (iE (by decide) (iE vY lh)) _ _ (by simp only [ab,ag,ah,aK,ae,af,ai];omega)) _ 2 rfl rfl (fun _=>rfl) rfl) ?_;rintro _ _ ⟨rfl,O13,v13,aaV,rfl⟩;have aaW:=congrArg List.length aaV;simp only [ab,ag,ah,aK,ae,af,ai] at aaW;simp only [oP,aF,bY,bp,go_sem]
  first
   | (have LU:=hp;rw [hp] at hK;exact hK _ _ ⟨rfl,_,_,by simp only [*,ab,ag,ah,aK,al,aw,aC],rfl⟩)
   | (refine hK _ _ ⟨rfl,_,_,?_,rfl⟩;assumption)
 have hn6:¬ x.kind=6:=by simpa using abc
 simp only [go_sem];refine cC (fun abd=>?_) (fun abd=>?_)
 ·have hk:x.kind=7:=by simpa using abd
  have tU:ed x=1:=by simp [ed,hk]
  rw [tU] at gM;obtain⟨a,r,iO⟩:=kd1 gM;have X2:=LQ (hx.nm (by omega));have hp:x.pr=[60]++(bt x.name++([58,32]++(a.pr++[62]))):=by rw [x.gV];simp [Be,Cr,kB,hk,iO]
  have fJ:=hO;rw [hp] at fJ;try simp only [ab,ag,ah,aK,ae,af,ai] at fJ
  have sK:iI (x.kids.map Ex.pr) [⟨#[60]⟩,x.name,⟨#[58,32]⟩,⟨#[]⟩,⟨#[62]⟩]=[60]++(bt x.name++([58,32]++(a.pr++[62]))):=by rw [eC (by decide),eC X2,eC (by decide),jR,eC (by decide),iI];rw [iO];simp only [cP,bm,cg,qL,ab,ag,ah,aK,al]
  simp only [go_sem];refine cW (ld (kT (x.kids) (hx.lk) (hW) [⟨#[60]⟩,x.name,⟨#[58,32]⟩,⟨#[]⟩,⟨#[62]⟩] (by simp) (by rw [eD (by decide),eD X2,eD (by decide),jS,eD (by decide),n4];omega) _ _ (by rw [sK];simp only [ab,ag,ah,aK,ae,af,ai];omega)) _ 2 rfl rfl (fun _=>rfl) rfl) ?_;rintro _ _ ⟨rfl,O14,v14,afU,rfl⟩;rw [sK] at afU;have alN:=congrArg List.length afU;simp only [ab,ag,ah,aK,ae,af,ai] at alN;simp only [go_sem]
  first
   | (have LU:=hp;rw [hp] at hK;exact hK _ _ ⟨rfl,_,_,by simp only [*,ab,ag,ah,aK,al,aw,aC],rfl⟩)
   | (refine hK _ _ ⟨rfl,_,_,?_,rfl⟩;assumption)
 have hn7:¬ x.kind=7:=by simpa using abd
 simp only [go_sem];refine cC (fun JT=>?_) (fun JT=>?_)
 ·have hk:x.kind=8:=by simpa using JT
  simp only [go_sem];refine cW (tm (RH x hx hk hW _ _ hO) (by simp [aI,aV]) _) ?_;rintro _ _ ⟨rfl,O15,v15,aq0,rfl⟩;simp only [go_sem]
  first
   | (have LU:=hp;rw [hp] at hK;exact hK _ _ ⟨rfl,_,_,by simp only [*,ab,ag,ah,aK,al,aw,aC],rfl⟩)
   | (refine hK _ _ ⟨rfl,_,_,?_,rfl⟩;assumption)
 have hn8:¬ x.kind=8:=by simpa using JT
 simp only [go_sem];refine cC (fun abe=>?_) (fun abe=>?_)
 ·have hk:x.kind=9:=by simpa using abe
  have tU:ed x=x.labels.length+1:=by simp [ed,hk]
  rw [tU] at gM;obtain⟨a,r,iO⟩:=kd1 (l:=x.kids) (by omega);have zf:x.kids.length=r.length+1:=by rw [iO];rfl
  have oP:x.kids.map br = .agg [num a.kind,str a.mod,str a.name,str a.text,num a.num,.slice (a.types.map bk),.slice (a.labels.map cq),.slice (a.kids.map br)] :: r.map br:=by rw [iO,bm];simp only [bn,aP,aQ,bK]
  have hcut:∀ mem,cutAt mem 8 1 none (.slice (.agg [num a.kind,str a.mod,str a.name,str a.text,num a.num,.slice (a.types.map bk),.slice (a.labels.map cq),.slice (a.kids.map br)] :: r.map br))=some (.slice (r.map br)):=fun mem=>by have h:=LO (a :: r) 1 (by simp) mem;simp only [bm,bn,aP,aQ,bK] at h;exact h
  have hp:x.pr=sG a.lvl 8 a.pr++([40]++(VB x.labels (r.map Ex.pr)++[41])):=by rw [x.gV];simp [Be,Cr,kB,hk,iO]
  have fJ:=hO;rw [hp] at fJ;try simp only [ab,ag,ah,aK,ae,af,ai] at fJ
  simp only [hcut,oP,aF,bY,bp,go_sem];refine ga tt_ok cB [pR,pN,jC [1],jC [1,2],jC [1,2,3],⟨.z,0,[],[0,1,2,3,4],[]⟩] 0 kr ?_;simp only [hcut,oP,aF,bY,bp,go_sem];refine xq (tm (sI a (hW a (by rw [iO];simp)) 8 _ _ (by omega)) (by simp [aI,aV]) _) ?_;rintro _ _ ⟨rfl,O16,v16,alO,rfl⟩;have alP:=congrArg List.length alO;simp only [ae] at alP;simp only [hcut,oP,aF,bY,bp,go_sem];refine cW (ld (cy [⟨#[40]⟩] (by simp) (iE (by decide) lh) _ _ (by simp only [ab,ag,ah,aK,ae,af,ai];omega)) _ 2 rfl rfl (fun _=>rfl) rfl) ?_;rintro _ _ ⟨rfl,O17,v17,alQ,rfl⟩;have alR:=congrArg List.length alQ;simp only [ab,ag,ah,aK,ae,af,ai] at alR;simp only [hcut,oP,aF,bY,bp,go_sem];refine ga tt_ok cB [pR,pN,jC [1],pN,jC [3],jC [3,4],⟨.z,0,[],[0,1,2,3,4,5],[]⟩] 0 kr ?_;simp only [hcut,oP,aF,bY,bp,go_sem];refine xq (tm (Dl x.labels (r) hx.ll (by omega) (by omega) (fun k hk=>hW k (by rw [iO];exact bj _ hk)) hx.ln _ _ (by omega)) (by simp [aI,aV]) _) ?_;rintro _ _ ⟨rfl,O18,v18,alS,rfl⟩;have alT:=congrArg List.length alS;simp only [ab,ag,ah,aK,ae,af,ai] at alT;simp only [hcut,oP,aF,bY,bp,go_sem];refine cW (ld (cy [⟨#[41]⟩] (by simp) (iE (by decide) lh) _ _ (by simp only [ab,ag,ah,aK,ae,af,ai];omega)) _ 3 rfl rfl (fun _=>rfl) rfl) ?_;rintro _ _ ⟨rfl,O19,v19,alU,rfl⟩;have alV:=congrArg List.length alU;simp only [ab,ag,ah,aK,ae,af,ai] at alV;simp only [hcut,oP,aF,bY,bp,go_sem]
  first
   | (have LU:=hp;rw [hp] at hK;exact hK _ _ ⟨rfl,_,_,by simp only [*,ab,ag,ah,aK,al,aw,aC],rfl⟩)
   | (refine hK _ _ ⟨rfl,_,_,?_,rfl⟩;assumption)
 have hn9:¬ x.kind=9:=by simpa using abe
 simp only [go_sem];refine cC (fun RO=>?_) (fun RO=>?_)
 ·have hk:x.kind=10:=by simpa using RO
  have tU:ed x=2:=by simp [ed,hk]
  rw [tU] at gM;obtain⟨a,b,r,iO⟩:=kd2 gM;have X2:=LQ (hx.nm (by omega));have hp:x.pr=[108,101,116,32]++(bt x.name++([32,61,32]++(a.pr++([32,105,110,32]++b.pr)))):=by rw [x.gV];simp [Be,Cr,kB,hk,iO]
  have fJ:=hO;rw [hp] at fJ;try simp only [ab,ag,ah,aK,ae,af,ai] at fJ
  have sK:iI (x.kids.map Ex.pr) [⟨#[108,101,116,32]⟩,x.name,⟨#[32,61,32]⟩,⟨#[]⟩,⟨#[32,105,110,32]⟩,⟨#[]⟩]=[108,101,116,32]++(bt x.name++([32,61,32]++(a.pr++([32,105,110,32]++b.pr)))):=by rw [eC (by decide),eC X2,eC (by decide),jR,eC (by decide),jR,iI];rw [iO];simp only [cP,bm,cg,qL,ab,ag,ah,aK,al]
  simp only [go_sem];refine cW (ld (kT (x.kids) (hx.lk) (hW) [⟨#[108,101,116,32]⟩,x.name,⟨#[32,61,32]⟩,⟨#[]⟩,⟨#[32,105,110,32]⟩,⟨#[]⟩] (by simp) (by rw [eD (by decide),eD X2,eD (by decide),jS,eD (by decide),jS,n4];omega) _ _ (by rw [sK];simp only [ab,ag,ah,aK,ae,af,ai];omega)) _ 2 rfl rfl (fun _=>rfl) rfl) ?_;rintro _ _ ⟨rfl,O20,v20,afV,rfl⟩;rw [sK] at afV;have alW:=congrArg List.length afV;simp only [ab,ag,ah,aK,ae,af,ai] at alW;simp only [go_sem]
  first
   | (have LU:=hp;rw [hp] at hK;exact hK _ _ ⟨rfl,_,_,by simp only [*,ab,ag,ah,aK,al,aw,aC],rfl⟩)
   | (refine hK _ _ ⟨rfl,_,_,?_,rfl⟩;assumption)
 have aq1:¬ x.kind=10:=by simpa using RO
 simp only [go_sem];refine cC (fun RP=>?_) (fun RP=>?_)
 ·have hk:x.kind=11:=by simpa using RP
  have tU:ed x=1:=by simp [ed,hk]
  rw [tU] at gM;obtain⟨a,r,iO⟩:=kd1 gM;obtain⟨t0,ts,JP⟩:=hx.ty (by omega) (by omega);have p9:x.types.map bk = .agg [num t0.kind,str t0.mod,str t0.name,.slice (t0.args.map bk),.slice (t0.bA.map dj)] :: ts.map bk:=by rw [JP,bm];simp only [aT,aD,aQ,bD]
  have hp:x.pr=[40]++(a.pr++([32,58,32]++(t0.pr++[41]))):=by rw [x.gV];simp [Be,Cr,kB,hk,iO,JP]
  have fJ:=hO;rw [hp] at fJ;try simp only [ab,ag,ah,aK,ae,af,ai] at fJ
  have sK:iI (x.kids.map Ex.pr) [⟨#[40]⟩,⟨#[]⟩,⟨#[32,58,32]⟩]=[40]++(a.pr++[32,58,32]):=by rw [eC (by decide),jR,eC (by decide),iI];rw [iO];simp only [cP,bm,cg,qL,ab,ag,ah,aK,al]
  simp only [p9,aF,bY,bp,go_sem];refine cW (ld (kT (x.kids) (hx.lk) (hW) [⟨#[40]⟩,⟨#[]⟩,⟨#[32,58,32]⟩] (by simp) (by rw [eD (by decide),jS,eD (by decide),n4];omega) _ _ (by rw [sK];simp only [ab,ag,ah,aK,ae,af,ai];omega)) _ 2 rfl rfl (fun _=>rfl) rfl) ?_;rintro _ _ ⟨rfl,O21,v21,afW,rfl⟩;rw [sK] at afW;have alX:=congrArg List.length afW;simp only [ab,ag,ah,aK,ae,af,ai] at alX;simp only [p9,aF,bY,bp,go_sem];refine ga tt_ok cB [pR,pN,jC [1],jC [1,2],jC [1,2,3],⟨.z,0,[],[0,1,2,3,4],[]⟩] 0 kr ?_;simp only [p9,aF,bY,bp,go_sem];refine xq (Hv (hx.wt t0 (by rw [JP];exact cV ..)) (by omega) _) ?_;rintro _ _ ⟨rfl,O22,v22,alY,rfl⟩;have alZ:=congrArg List.length alY;simp only [ab,ag,ah,aK,ae,af,ai] at alZ;simp only [p9,aF,bY,bp,go_sem];refine cW (ld (cy [⟨#[41]⟩] (by simp) (iE (by decide) lh) _ _ (by simp only [ab,ag,ah,aK,ae,af,ai];omega)) _ 3 rfl rfl (fun _=>rfl) rfl) ?_;rintro _ _ ⟨rfl,O23,v23,al0,rfl⟩;have al1:=congrArg List.length al0;simp only [ab,ag,ah,aK,ae,af,ai] at al1;simp only [p9,aF,bY,bp,go_sem]
  first
   | (have LU:=hp;rw [hp] at hK;exact hK _ _ ⟨rfl,_,_,by simp only [*,ab,ag,ah,aK,al,aw,aC],rfl⟩)
   | (refine hK _ _ ⟨rfl,_,_,?_,rfl⟩;assumption)
 have aq2:¬ x.kind=11:=by simpa using RP
 simp only [go_sem];refine cC (fun RQ=>?_) (fun RQ=>?_)
 ·have hk:x.kind=14:=by simpa using RQ
  obtain⟨t0,ts,JP⟩:=hx.ty (by omega) (by omega);have p9:x.types.map bk = .agg [num t0.kind,str t0.mod,str t0.name,.slice (t0.args.map bk),.slice (t0.bA.map dj)] :: ts.map bk:=by rw [JP,bm];simp only [aT,aD,aQ,bD]
  obtain⟨q1,pZ⟩:∃ q,(if x.kids=[] then ([]:List UInt8) else [32])=q:=⟨_,rfl⟩;have hp:x.pr=[91]++(t0.pr++([124]++(q1++(jn [44,32] (x.kids.map Ex.pr)++[93])))):=by rw [x.gV,← pZ];by_cases MH:x.kids=[] <;> simp [Be,hk,JP,kB,MH,jn]
  have fJ:=hO;rw [hp] at fJ;simp only [ab,ag,ah,aK,ae,af,ai] at fJ;simp only [p9,aF,bY,bp,go_sem];refine cW (ld (cy [⟨#[91]⟩] (by simp) (iE (by decide) lh) _ _ (by simp only [ab,ag,ah,aK,ae,af,ai];omega)) _ 2 rfl rfl (fun _=>rfl) rfl) ?_;rintro _ _ ⟨rfl,OA,vA,JU,rfl⟩;have VX:=congrArg List.length JU;simp only [ab,ag,ah,aK,ae,af,ai] at VX;simp only [p9,aF,bY,bp,go_sem];refine ga tt_ok cB [pR,pN,jC [1],jC [1,2],jC [1,2,3],⟨.z,0,[],[0,1,2,3,4],[]⟩] 0 kr ?_;simp only [p9,aF,bY,bp,go_sem];refine xq (Hv (hx.wt t0 (by rw [JP];exact cV ..)) (by omega) _) ?_;rintro _ _ ⟨rfl,OB,vB,VY,rfl⟩;have hlB:=congrArg List.length VY;simp only [ab,ag,ah,aK,ae,af,ai] at hlB;simp only [p9,aF,bY,bp,go_sem];refine cW (ld (cy [⟨#[124]⟩] (by simp) (iE (by decide) lh) _ _ (by simp only [ab,ag,ah,aK,ae,af,ai];omega)) _ 3 rfl rfl (fun _=>rfl) rfl) ?_;rintro _ _ ⟨rfl,OC,vC,B6,rfl⟩;have NQ:=congrArg List.length B6;simp only [ab,ag,ah,aK,ae,af,ai] at NQ;simp only [p9,aF,bY,bp,go_sem];refine sk (n:=167) tt_ok [30000] (fun a:Nat×List UInt8=>[(2,.ptr 2 0),(3,.ptr 3 0)]) (fun a:Nat×List UInt8=>bM 129 a.1 a.2 [.box [.ptr 0 0],.box [num x.kind,str x.mod,str x.name,str x.text,num x.num,.slice (.agg [num t0.kind,str t0.mod,str t0.name,.slice (t0.args.map bk),.slice (t0.bA.map dj)] :: ts.map bk),.slice (x.labels.map cq),.slice (x.kids.map br)]]) 4 (fun a=>a.2=O++([91]++(t0.pr++([124]++q1)))) (fun Z1 fh=>?_) ?_;·simp only [p9,aF,bY,bp,go_sem];refine cC (fun RR=>?_) (fun RR=>?_);(·(have MH:¬ x.kids=[]:=fun e=>by have h0:=of_decide_eq_true RR;rw [e] at h0;simp at h0);rw [if_neg MH] at pZ;have BW:=congrArg List.length pZ;simp only [ab,ag,ah,aK,ae,af,ai] at BW;simp only [p9,aF,bY,bp,go_sem];refine cW (ld (cy [⟨#[32]⟩] (by simp) (iE (by decide) lh) _ _ (by simp only [ab,ag,ah,aK,ae,af,ai];omega)) _ 4 rfl rfl (fun _=>rfl) rfl) ?_;rintro _ _ ⟨rfl,Oy,vy,jb,rfl⟩;have Bj:=congrArg List.length jb;simp only [ab,ag,ah,aK,ae,af,ai] at Bj;simp only [p9,aF,bY,bp,go_sem];refine fh _ ⟨(vy,Oy),?_,eU (by omega) (by simp only [p9,aF,bY,bp,go_sem])⟩;dsimp only;rw [jb,B6,VY,JU,← pZ];simp only [cP,ab,ag,ah,aK,al]);have MH:x.kids=[]:=auy (by have h0:=of_decide_eq_false RR;omega);rw [if_pos MH] at pZ;obtain⟨Oy,jb⟩:∃ y,y=OC:=⟨_,rfl⟩;obtain⟨vy,NH⟩:∃ y,y=vC:=⟨_,rfl⟩;rw [← jb,← NH];simp only [p9,aF,bY,bp,go_sem];refine fh _ ⟨(vy,Oy),?_,eU (by omega) (by simp only [p9,aF,bY,bp,go_sem])⟩;dsimp only;rw [jb,B6,VY,JU,← pZ];simp only [cP,ab,ag,ah,aK,al]
  rintro⟨vb,Ob⟩ nZ;dsimp only at nZ;have zK:=congrArg List.length nZ;simp only [ab,ag,ah,aK,ae,af,ai] at zK;dsimp only [bM];simp only [p9,aF,bY,bp,go_sem];refine cW (wf2 (tn 119 [.ptr 2 0,.ptr 3 0] (x.kids.map Ex.pr) _ (by first|(simp;done)|(rw [aue,ax];omega)) hx.lk ⟨#[44,32]⟩ (by decide) [.ptr 0 0] [num x.kind,str x.mod,str x.name,str x.text,num x.num,.slice (.agg [num t0.kind,str t0.mod,str t0.name,.slice (t0.args.map bk),.slice (t0.bA.map dj)] :: ts.map bk),.slice (x.labels.map cq),.slice (x.kids.map br)] rfl rfl rfl (by have h:=afS hx hW;simp only [p9] at h;exact h) _ _ (by rw [aK];omega)) rfl rfl rfl _) ?_;rintro _ _ ⟨rfl,O28,v28,al2,rfl⟩;have al3:=congrArg List.length al2;simp only [ab,ag,ah,aK,ae,af,ai] at al3;simp only [p9,aF,bY,bp,go_sem];refine cW (ld (cy [⟨#[93]⟩] (by simp) (iE (by decide) lh) _ _ (by simp only [ab,ag,ah,aK,ae,af,ai];omega)) _ 2 rfl rfl (fun _=>rfl) rfl) ?_;rintro _ _ ⟨rfl,O29,v29,al4,rfl⟩;have al5:=congrArg List.length al4;simp only [ab,ag,ah,aK,ae,af,ai] at al5;simp only [p9,aF,bY,bp,go_sem]
  first
   | (have LU:=hp;rw [hp] at hK;exact hK _ _ ⟨rfl,_,_,by simp only [*,ab,ag,ah,aK,al,aw,aC],rfl⟩)
   | (refine hK _ _ ⟨rfl,_,_,?_,rfl⟩;assumption)
 have aq3:¬ x.kind=14:=by simpa using RQ
 simp only [go_sem];refine cC (fun RS=>?_) (fun RS=>?_)
 ·have hk:x.kind=16:=by simpa using RS
  simp only [go_sem];refine cW (tm (RI x hx hk hW _ _ hO) (by simp [aI,aV]) _) ?_;rintro _ _ ⟨rfl,O30,v30,aq4,rfl⟩;simp only [go_sem]
  first
   | (have LU:=hp;rw [hp] at hK;exact hK _ _ ⟨rfl,_,_,by simp only [*,ab,ag,ah,aK,al,aw,aC],rfl⟩)
   | (refine hK _ _ ⟨rfl,_,_,?_,rfl⟩;assumption)
 have aq5:¬ x.kind=16:=by simpa using RS
 simp only [go_sem];refine cW (tm (RJ x hx (by have:=hx.k0;have:=hx.k1;omega) hW _ _ hO) (by simp [aI,aV]) _) ?_;rintro _ _ ⟨rfl,O31,v31,aq6,rfl⟩;simp only [go_sem]
 first
  | (have LU:=hp;rw [hp] at hK;exact hK _ _ ⟨rfl,_,_,by simp only [*,ab,ag,ah,aK,al,aw,aC],rfl⟩)
  | (refine hK _ _ ⟨rfl,_,_,?_,rfl⟩;assumption)
end
theorem HD (hP:ba.u4 1=some jc) (P:Ex→Prop) (hX:∀ x,P x→OU x∧∀ k∈x.kids,P k):∀ (N:Nat) (x:Ex),x.size≤N→P x→WX x
 | 0,x,h,_=>absurd x.size_pos (by omega)
 | N+1,x,h,hx=>by
  obtain⟨h1,h2⟩:=hX x hx
  refine JR hP x h1 fun k hk=>HD hP P hX N k ?_ (h2 k hk)
  have hs:=x.jt
  obtain⟨i,hi⟩:=bB.1 hk
  have:=bU Ex.size hi
  omega
end
section
theorem uS (a b:ByteArray):(T7 a b=true∧a≠b∧T7 b a=false∧xt a b = -1)∨(a=b∧T7 b a=false∧xt a b=0)∨(T7 b a=true∧a≠b∧xt a b=1):=by
 unfold xt;rw [QS,QS];by_cases h1:a.data.toList<b.data.toList;·(have dy:a≠b:=fun e=>by subst e;exact atW _ h1);have h2:¬ b.data.toList<a.data.toList:=fun h2=>atW _ (auk h1 h2);exact .inl ⟨decide_eq_true h1,dy,decide_eq_false h2,by rw [if_pos (decide_eq_true h1)]⟩
 by_cases he:a=b;·subst he;exact .inr (.inl ⟨rfl,decide_eq_false h1,by rw [if_neg (by simpa using h1),if_pos rfl]⟩)
 have dy:a.data.toList≠b.data.toList:=fun e=>he (by cases a;cases b;congr 1;exact aiS.1 e);have h2:b.data.toList<a.data.toList:=Std.lt_of_le_of_ne h1 dy.symm;exact .inr (.inr ⟨decide_eq_true h2,he,by rw [if_neg (by simpa using h1),if_neg he]⟩)
theorem afY {a b:ByteArray} (h:xt a b=0):Fm a b=5:=by
 rcases uS a b with ⟨-,-,-,h4⟩|⟨h1,-,-⟩|⟨-,-,h4⟩
 ·rw [h] at h4;cases h4
 ·unfold Fm;rw [if_pos h1]
 rw [h] at h4;cases h4
theorem afZ {a b:ByteArray} (h:0<xt a b):Fm a b=1:=by
 rcases uS a b with ⟨-,-,-,h4⟩|⟨-,-,h4⟩|⟨h1,h2,-⟩
 ·rw [h4] at h;exact absurd h (by decide)
 ·rw [h4] at h;exact absurd h (by decide)
 unfold Fm;rw [if_neg h2,if_pos h1]
theorem af0 {a b:ByteArray} (h:¬ xt a b=0) (h':¬ 0<xt a b):Fm a b=0:=by
 rcases uS a b with ⟨-,h2,h3,-⟩|⟨-,-,h4⟩|⟨-,-,h4⟩
 ·unfold Fm;rw [if_neg h2,if_neg (by rw [h3];simp)]
 ·exact absurd h4 h
 rw [h4] at h';exact absurd (by decide) h'
theorem RT {ns:List ByteArray} {i:Nat} {a b:ByteArray} (hi:1≤i) (ha:ns[i-1]?=some a) (hb:ns[i]?=some b):kA (ns.drop (i-1))=if Fm a b=0 then kA (ns.drop i) else Fm a b:=by have h1:=(aA.1 ha);have h2:=(aA.1 hb);rw [dW h1.1,h1.2,show i-1+1=i by omega,dW h2.1,h2.2];rfl
theorem LV {ns:List ByteArray} {i:Nat} (h:ns.length≤i+1):kA (ns.drop i)=0:=by cases hd:ns.drop i with|nil=>rfl|cons a r =>have:=congrArg List.length hd;rw [e8,af] at this;have:r=[]:=cb.1 (by omega);subst this;rfl
theorem yA:∀ (a b:List UInt8),Lib.compareBytes a b=if Op.bytesLess a b=true then -1 else if a=b then 0 else 1
 | [],[]=>by simp [Lib.compareBytes,Op.bytesLess]
 | [],_ :: _=>by simp [Lib.compareBytes,Op.bytesLess]
 | _ :: _,[]=>by simp [Lib.compareBytes,Op.bytesLess]
 | a :: l1,b :: l2=>by
  have ih:=yA l1 l2
  unfold Lib.compareBytes Op.bytesLess
  by_cases h1:a<b
  ·simp [h1]
  by_cases h2:b<a
  ·have dy:a≠b:=fun e=>by subst e;exact UInt8.lt_irrefl _ h2
   simp [h1,h2,dy]
  have e:a=b:=UInt8.le_antisymm (UInt8.not_lt.1 h2) (UInt8.not_lt.1 h1)
  subst e
  simp [h1,ih]
theorem VZ (s t:ByteArray):∃ r,(fun v=>v=num (xt s t)) r∧rL aj 283 [str s,str t] r:=by
 refine⟨_,rfl,(show rL aj 283 [str s,str t] (kf (.int .i64 (xt s t))) from Qu (P:=aj) (fn:=Tryz.f283) (ext:=Extern.BytealgCompare.compare) Tryz.func283 kr rfl kr kr (l:=[.string s,.string t]) rfl fun w=>?_)⟩;have h:=Lib.run_compareString (P:=aj) s t w;rw [h];congr 2;rw [yA];unfold xt T7;rw [← ByteArray.toList_eq,← ByteArray.toList_eq];by_cases hl:Op.bytesLess s.toList t.toList=true;·rw [if_pos hl,if_pos hl]
 rw [if_neg hl,if_neg hl];by_cases he:s=t;·rw [if_pos he,if_pos (by rw [he])]
 rw [if_neg he,if_neg fun e=>he (by have h:=dZ s t;rw [e] at h;simpa using h)]
theorem V0 (s t:ByteArray):Cn 271 [str s,str t] (num (xt s t)):=by refine jq tt_ok [] 8 [.tmp 4] (fn:=Tryz.f271) Tryz.func271 rfl Tryz.call271 ⟨rfl,rfl,by simp⟩ fun K hK=>?_;simp only [go_sem];refine cN (VZ _ _) ?_;rintro _ rfl;simp only [go_sem];exact hK _ rfl
theorem Bn (s t:ByteArray):Cn 241 [str s,str t] (num (xt s t)):=by refine jq tt_ok [] 8 [.tmp 4] (fn:=Tryz.f241) Tryz.func241 rfl Tryz.call241 ⟨rfl,rfl,by simp⟩ fun K hK=>?_;simp only [go_sem];refine ep (V0 _ _) ?_;simp only [go_sem];exact hK _ rfl
theorem NR (hG:ba.g=some 0) (x:Fd):Cn 175 [dj x] (bl (!dz x.name)):=by refine jq tt_ok [] 7 [.tmp 2] (fn:=Tryz.f175) Tryz.func175 rfl Tryz.call175 ⟨rfl,rfl,by simp⟩ fun K hK=>?_;simp only [cP,cw,aD];simp only [go_sem];refine ep (iA hG _) ?_;simp only [go_sem];exact hK _ rfl
theorem JV (x:Fd):Cn 235 [dj x] (bl (x.opt)):=by refine jq tt_ok [] 5 [.tmp 2] (fn:=Tryz.f235) Tryz.func235 rfl Tryz.call235 ⟨rfl,rfl,by simp⟩ fun K hK=>?_;simp only [cP,cw,aD];simp only [go_sem];exact hK _ rfl
theorem NS (x:Fd):Cn 178 [dj x] (str x.name):=by refine jq tt_ok [] 5 [.tmp 2] (fn:=Tryz.f178) Tryz.func178 rfl Tryz.call178 ⟨rfl,rfl,by simp⟩ fun K hK=>?_;simp only [cP,cw,aD];simp only [go_sem];exact hK _ rfl
section
attribute [local go_sem] c7
theorem RU (g:FuncId) (q:Fd→Bool) (l:List Fd) (hg:∀ x∈l,Cn g [dj x] (bl (q x))) (hl:l.length≤1048576):∃ r_,(fun w=>∃ k:Int,w=num k∧decide (0≤k)=l.any q) r_∧bJ aj 181 [.slice (iB l),.sc (.func (.func g) #[] #[])] r_:=by
 refine jq tt_ok [] 19 [.tmp 4] (fn:=Tryz.f181) Tryz.func181 rfl Tryz.call181 ⟨rfl,rfl,by simp⟩ fun K hK=>?_;simp only [go_sem];refine iz tt_ok [] [8] 0 [0,1,7] (fun vs=>((l.length:Int)-Go.Eng.intOf (vs.headD .undef)).toNat) (fun vs=>∃ i:Nat,vs=[num i]∧i≤l.length∧∀ j<i,∀ x,l[j]?=some x→q x=false) (by omega) (by simp only [go_sem]) (⟨0,rfl,ck _,fun j hj=>absurd hj (iH j)⟩) fun vs hI Z1 fh=>?_;obtain⟨i,rfl,hi,ff⟩:=hI;simp only [go_sem];refine cC (fun kh=>?_) (fun kh=>?_);·(have bQ:i<l.length:=by simpa using kh);have hw:=bN i (by omega);obtain⟨x,hx⟩:∃ x,l[i]?=some x:=⟨_,au bQ⟩;simp only [cP,hw,cu,hx,cw,aD,go_sem];refine ep (by have h:=hg x (aE hx);simp only [cP,cw,aD] at h;exact h) ?_;simp only [cP,hw,cu,hx,cw,aD,go_sem];refine cC (fun gh=>?_) (fun gh=>?_);(·(have cX:decide (0≤(i:Int))=l.any q:=by rw [qx hx gh];exact decide_eq_true (fP i));simp only [cP,hw,cu,hx,cw,aD,go_sem];exact hK _ ⟨_,rfl,cX⟩);simp only [cP,hw,cu,hx,cw,aD,go_sem];refine fh _ (oU (by omega) (by simp only [cP,hw,cu,hx,cw,aD,go_sem]) ?_ ?_) <;> simp only [lS,lk,reduceIte,zE];(·refine⟨i+1,rfl,bQ,fun j hj=>?_⟩;(rcases bS j i with h|h);(·exact ff j h);(obtain rfl:j=i:=by omega);intro y hy;rw [hx] at hy;cases hy;exact gh);simp only [Go.Eng.intOf,cg];omega
 have jL:¬ i<l.length:=by simpa using kh
 have cX:decide (0≤(-1:Int))=l.any q:=(any_none fun j hj=>ff j (by omega)).symm ▸ rfl;simp only [go_sem];exact hK _ ⟨_,rfl,cX⟩
end
theorem Bo (g:FuncId) (q:Fd→Bool) (l:List Fd) (hg:∀ x∈l,Cn g [dj x] (bl (q x))) (hl:l.length≤1048576):Cn 93 [.slice (iB l),.sc (.func (.func g) #[] #[])] (bl (l.any q)):=by refine jq tt_ok [] 9 [.tmp 4] (fn:=Tryz.f93) Tryz.func93 rfl Tryz.call93 ⟨rfl,rfl,by simp⟩ fun K hK=>?_;simp only [go_sem];refine cF (RU g q l hg hl) ?_;rintro _ ⟨k,rfl,hk⟩;simp only [go_sem];exact hK _ (congrArg bl hk)
section
attribute [local go_sem] c7 cu cw aD
theorem RV (g:FuncId) (l:List Fd) (hg:∀ x∈l,Cn g [dj x] (str (Fd.name x))) (hl:l.length≤1048576):Cn 177 [.slice (iB l),.sc (.func (.func g) #[] #[])] (num (kA (l.map Fd.name))):=by
 refine jq tt_ok [] 33 [.tmp 4] (fn:=Tryz.f177) Tryz.func177 rfl Tryz.call177 ⟨rfl,rfl,by simp⟩ fun K hK=>?_;simp only [go_sem];refine iz tt_ok [] [5] 0 [0,1] (fun vs=>((l.length:Int)-Go.Eng.intOf (vs.headD .undef)).toNat) (fun vs=>∃ i:Nat,vs=[num i]∧1≤i∧(1<i→i≤l.length)∧kA (l.map Fd.name)=kA ((l.map Fd.name).drop (i-1))) (by omega) (by simp only [go_sem]) (⟨1,rfl,ay _,fun h=>absurd h (by decide),rfl⟩) fun vs hI Z1 fh=>?_;obtain⟨i,rfl,hi,hle,hinv⟩:=hI;simp only [go_sem];refine cC (fun lG=>?_) (fun lG=>?_);·(have bQ:i<l.length:=by simpa using lG);obtain⟨x,hx⟩:∃ x,l[i-1]?=some x:=⟨_,au (by omega)⟩;obtain⟨y,hy⟩:∃ y,l[i]?=some y:=⟨_,au bQ⟩;have hw:=bN i (by omega);(have pK:IntKind.i64.wrap ((i:Int)-1)=((i-1:Nat):Int):=by rw [IntWalk.i64_in _ (by omega)];omega);have kN:kA ((l.map Fd.name).drop (i-1))=if Fm (Fd.name x) (Fd.name y)=0 then kA ((l.map Fd.name).drop i) else Fm (Fd.name x) (Fd.name y):=RT hi (by rw [aq,hx];rfl) (by rw [aq,hy];rfl);simp only [cP,hw,pK,hx,hy,go_sem];refine ga tt_ok cB [pN,pN,pN,pN,pR,pR,pN,pN,pN,pN,pR,pR,pN,pN,pN] 0 kr ?_;simp only [cP,hw,pK,hx,hy,go_sem];refine Jn (by have h:=hg x (aE hx);simp only [cP,cw,aD] at h;exact h) ?_;simp only [cP,hw,pK,hx,hy,go_sem];refine Jn (by have h:=hg y (aE hy);simp only [cP,cw,aD] at h;exact h) ?_;simp only [cP,hw,pK,hx,hy,go_sem];refine Jn (Bn _ _) ?_;simp only [cP,hw,pK,hx,hy,go_sem];refine cC (fun qD=>?_) (fun qD=>?_);(·(have cX:5=kA (l.map Fd.name):=by rw [hinv,kN,afY (of_decide_eq_true qD)];rfl);simp only [cP,hw,pK,hx,hy,go_sem];exact hK _ (congrArg num cX));simp only [cP,hw,pK,hx,hy,go_sem];refine cC (fun xG=>?_) (fun xG=>?_);(·(have cX:1=kA (l.map Fd.name):=by rw [hinv,kN,afZ (of_decide_eq_true xG)];rfl);simp only [cP,hw,pK,hx,hy,go_sem];exact hK _ (congrArg num cX));have rl:Fm (Fd.name x) (Fd.name y)=0:=af0 (of_decide_eq_false qD) (of_decide_eq_false xG);simp only [cP,hw,pK,hx,hy,go_sem];refine fh _ (oU (by omega) (by simp only [cP,hw,pK,hx,hy,go_sem]) ?_ ?_) <;> simp only [lS,lk,reduceIte,zE];(·exact⟨i+1,rfl,by omega,fun _=>bQ,by rw [hinv,kN,if_pos rl];rfl⟩);simp only [Go.Eng.intOf,cg];omega
 have jL:¬ i<l.length:=by simpa using lG
 have cX:(0:Int)=kA (l.map Fd.name):=by rw [hinv];exact (LV (by rw [ax];omega)).symm
 simp only [go_sem];exact hK _ (congrArg num cX)
end
end
theorem ci0 (n:Nat):((n:Int)=0)=(n=0):=by rw [eq_iff_iff];omega
theorem ci1 (n:Nat):((n:Int)=1)=(n=1):=by rw [eq_iff_iff];omega
def af1 (t:Ty) (ao:Bool):Bool :=
  (decide (t.kind=8) || !ao) &&
  (if t.kind=0∨t.kind=1∨t.kind=2∨t.kind=3∨t.kind=4 then jJ t.mod&&jJ t.name&&decide (t.args.length=0)&&decide (t.bA.length=0)
   else if t.kind=5 then jJ t.mod&&jJ t.name&&decide (t.args.length=1)&&decide (t.bA.length=0)
   else if t.kind=6∨t.kind=7 then jJ t.mod&&jJ t.name&&decide (t.args.length=0)
   else if t.kind=8 then jJ t.mod&&jJ t.name&&decide (t.args.length=1)
   else if t.kind=9 then jJ t.mod&&decide (t.args.length=0)&&decide (t.bA.length=0)
   else if t.kind=10 then decide (t.bA.length=0) else false)
theorem abf (t:Ty):Vt t=af1 t (t.bA.any Fd.opt):=rfl
theorem NT (t:Ty) (hl:t.bA.length≤1048576):Cn 171 [bk t] (bl (Vt t)):=by refine jq tt_ok [] 106 [.tmp 2] (fn:=Tryz.f171) Tryz.func171 rfl Tryz.call171 ⟨rfl,rfl,by simp⟩ fun K hK=>?_;have lP:=abf t;have IA:=Bo 235 Fd.opt t.bA (fun x _=>JV x) hl;obtain⟨ao,hao⟩:∃ b,t.bA.any Fd.opt=b:=⟨_,rfl⟩;obtain⟨em,hem⟩:∃ b,decide (t.mod=⟨#[]⟩)=b:=⟨_,rfl⟩;obtain⟨en,Cf⟩:∃ b,decide (t.name=⟨#[]⟩)=b:=⟨_,rfl⟩;obtain⟨na,ub⟩:∃ b,t.args.length=b:=⟨_,rfl⟩;obtain⟨nf,hnf⟩:∃ b,t.bA.length=b:=⟨_,rfl⟩;rw [hao] at lP IA;unfold af1 jJ at lP;rw [hem,Cf,ub,hnf] at lP;obtain⟨k,hk⟩:∃ k,t.kind=k:=⟨_,rfl⟩;rw [hk] at lP;rw [lP] at hK;clear hao lP;simp only [aT,aD];rw [hk];clear hk;simp only [c7,aS,dZ,hem,Cf,ub,hnf,go_sem];refine ga tt_ok cB [pN,pR,pN,pN,pR,pN,pN,pR,pN,pN,pR,pN,pN,pN,pN,pN] 0 kr ?_;repeat' (simp only [c7,aS,dZ,hem,Cf,ub,hnf,go_sem];first|refine cC (fun hg=>?_) (fun hg=>?_)|refine ep (IA) ?_|(exact hK _ (congrArg bl (by clear hK IA hem Cf ub hnf;simp_all [ci0,ci1]))))
theorem X3 (n:Nat):(32<(n:Int))=(32<n):=by rw [eq_iff_iff];omega
theorem af2 (n:Nat):(8<(n:Int))=(8<n):=by rw [eq_iff_iff];omega
theorem abg (t:Ty):tj t=if Vt t=false then 1 else if 32<t.bA.length∨8<t.args.length then 7
 else if (t.kind=9∧Ni t.name=false)∨(t.kind=10∧(rf t.mod=false∨jx t.name=false)) then 4
 else if (t.bA.any fun x=>!dz x.name)=true then 4 else kA (t.bA.map Fd.name):=rfl
theorem HE (hG:ba.g=some 0) (t:Ty) (hl:t.bA.length≤1048576) (hm:t.mod.size≤1048576):Cn 89 [bk t] (num (tj t)):=by refine jq tt_ok [] 50 [.tmp 2] (fn:=Tryz.f89) Tryz.func89 rfl Tryz.call89 ⟨rfl,rfl,by simp⟩ fun K hK=>?_;have hS:=NT t hl;rw [aT] at hS;simp only [aD] at hS;obtain⟨sb,hsb⟩:∃ b,b=Vt t:=⟨_,rfl⟩;obtain⟨nb,rl⟩:∃ b,b=t.bA.any (fun x=>!dz x.name):=⟨_,rfl⟩;have htn:=abg t;have hA:=Bo 175 (fun x=>!dz x.name) t.bA (fun x _=>NR hG x) hl;have hI:=RV 178 t.bA (fun x _=>NS x) hl;rw [← hsb] at htn hS;rw [← rl] at htn hA;clear hsb rl;simp only [aT,aD];simp only [c7,aS,go_sem];refine ep (hS) ?_;repeat' (simp only [c7,aS,go_sem];first|refine cC (fun hg=>?_) (fun hg=>?_)|refine ep (G1 _) ?_|refine ep (xu hG t.mod hm) ?_|refine ep (pL _) ?_|refine ep (hA) ?_|refine ep (hI) ?_|(exact hK _ (congrArg num (by clear hK hA hI hS;rw [htn];clear htn;simp_all [X3,af2] <;> (intro h;omega)))))
section
section
variable {σ:Type} {M:σ→List bf} {n k k1 k2:Nat}
theorem RW (hn:∀ s,(M s).length=n) (hk:k<n) (ib:k1<n) (jI:k2<n) (h1:∀ s,(M s)[k1]?=some (.box [.jK k])) (h2:∀ s,(M s)[k2]?=some (.box [.ia (.func 170) [] [.ptr k1 0,.ptr k2 0]])) (hb:∀ s,(M s).all (aL n)=true)
  (step:σ→Ty→σ×Bool) (G:σ→Prop) (hG:∀ s u,G s→(step s u).2=true→G (step s u).1) {B:Nat} (hB:B≤1048576) (Pd:Ty→Prop) (hy:∀ s u,G s→u.size≤B→Pd u→Ih aj k [bk u] (M s) (step s u).2 (M (step s u).1)) :
  ∀ (N:Nat) (t:Ty) (s:σ),G s→(∀ v∈t.nodes,Pd v)→t.size≤N→N≤B→bo aj 170 [bk t,.ptr k1 0,.ptr k2 0] (M s) (bl (dr step s t.nodes).2) (M (dr step s t.nodes).1):=by
 have g0:∀ s (l:List bf),(M s++l)[n]?=l[0]?:=fun s l=>by rw [aX (by rw [hn];exact ay _),hn,eI]
 have g1:∀ s (l:List bf),(M s++l)[n+1]?=l[1]?:=fun s l=>by rw [aX (by rw [hn];omega),hn,dQ]
 have XK:∀ s (l:List bf),(M s++l)[k1]?=some (.box [.jK k]):=fun s l=>by rw [bh (by rw [hn];exact ib)];exact h1 s
 have gk2:∀ s (l:List bf),(M s++l)[k2]?=some (.box [.ia (.func 170) [] [.ptr k1 0,.ptr k2 0]]):=fun s l=>by rw [bh (by rw [hn];exact jI)];exact h2 s
 have gs:∀ s (l:List bf) X,(M s++l).set n X=M s++l.set 0 X:=fun s l X=>by rw [ic _ _ (by rw [hn];exact ay _),hn,eI]
 have gt:∀ s (l:List bf),(M s++l).take n=M s:=fun s l=>by rw [← hn s,qK]
 have XL:∀ s,(M s).take n=M s:=fun s=>by rw [dX (by rw [hn];exact ay _)]
 have fy:∀ s u (l:List bf),G s→u.size≤B→Pd u→Ih aj k [bk u] (M s++l) (step s u).2 (M (step s u).1++l):=fun s u l hg hu hp=>by refine (hy s u hg hu hp).frame (by rw [hn];exact hk) ?_ (by rw [hn];exact hb s) (by rw [hn,hn]) (by rw [hn];exact hb _) l;rw [aT];simp [aI,aV,aD]
 intro N;induction N with|zero=>intro t s hg hP h;have:=t.size_pos;omega|succ N ih =>intro t s hg hP hN hNB;have qU:=t.fZ;have oW:=t.dG;have Q5:=ct Ty.size Ty.size_pos t.parts;have dy:=t.dU;have hp:=xw t (by omega);have Q9:=fun l=>fy s t l hg (by omega) (hP t (by rw [t.dU];simp));(have XM:∀ u s (l:List bf),G s→(∀ v∈u.nodes,Pd v)→u.size≤N→bo aj 170 [bk u,.ptr k1 0,.ptr k2 0] (M s++l) (bl (dr step s u.nodes).2) (M (dr step s u.nodes).1++l):=fun u s l hg hq hu=>by refine (ih u s hg hq hu (by omega)).frame ?_ (by rw [hn];exact hb s) rfl (by rw [hn,hn]) (by rw [hn];exact hb _) l;rw [aT,hn];simp [aI,aV,aD,ib,jI]);simp only [aT,aD] at XM;refine nI tt_ok (fn:=Tryz.f170) n (by rw [hn];exact ay _) Tryz.func170 rfl Tryz.call170 ?_;simp only [cP,cK,Tryz.ntmps170,af,ai,zA,zF,aG,aH];rw [aT] at hp Q9 ⊢;simp only [aD] at hp Q9 ⊢;refine ak tt_ok fun K hK=>?_;simp only [hn,go_sem];refine hK _ ?_;refine bc ?_;refine ak tt_ok fun K hK=>?_;simp only [XK,g0,hn,go_sem];refine .inl ⟨_,_,Q9 _,?_⟩;(try simp only [go_sem]);refine hK _ ?_;cases Ra:(step s t).2 with|false =>refine aO rfl ?_;refine ak tt_ok fun K hK=>?_;simp only [go_sem];refine hK _ ?_;refine bE ⟨.inl rfl,?_⟩;(have uo:dr step s t.nodes=((step s t).1,false):=by rw [dy];simp [dr,Ra]);rw [uo];exact⟨rfl,rfl,by dsimp only;rw [gt];exact hb _,(gt _ _).symm⟩|true =>refine aO rfl (bZ ?_);show dS _ _ _ _ _ _;refine bc ?_;refine ak tt_ok fun K hK=>?_;simp only [XK,g0,hn,go_sem];refine .inl ⟨_,_,by simp only [aS,go_sem,az],hp,?_⟩;(try simp only [aS,go_sem]);refine hK _ ?_;obtain⟨ps,AY⟩:∃ ps,ps=t.parts:=⟨_,rfl⟩;rw [← AY] at oW Q5 dy ⊢;have hPp:∀ u∈ps,∀ v∈u.nodes,Pd v:=fun u hu v hv=>hP v (by rw [dy];exact bj _ (e9.2 ⟨u,hu,hv⟩));refine bC (cR (fun N st=>∃ (i:Nat) (s':σ),G s'∧N=ps.length-i∧i≤ps.length∧dr step s (t :: (ps.take i).flatMap Ty.nodes)=(s',true) ∧ st = { fr:=[.undef,.ptr k1 0,.ptr k2 0,.undef,.undef,.undef,.undef,.undef,.undef,.undef,.undef,.undef,.slice (cM ps),num ps.length,num i]++List.replicate 8 .undef,mem:=M s' }) ps.length ?_ ?_);(·refine⟨n,(false::true::true::(rp 9 false [true,true,true])),by rw [hn];exact ay _,by simp only [bg,aI,aV,aL,zB,ib,jI,gG],by dsimp only;rw [gt];exact hb _,0,(step s t).1,hG s t hg Ra,by omega,by omega,by simp [dr,Ra],?_⟩;dsimp only;rw [gt];rfl);rintro N' st ⟨i,s',FQ,rfl,hi,Rb,rfl⟩;simp only [cP,aG,aH];by_cases bQ:i<ps.length;(·have hd:=gx bQ;refine ak tt_ok fun K hK=>?_;simp only [aS,hd,go_sem];refine hK _ ?_;refine bc (aO rfl (bZ ?_));refine bc (bC ?_);obtain⟨u,hu⟩:∃ u,ps[i]?=some u:=⟨_,au bQ⟩;have hus:=bU Ty.size hu;have jj:=fun l=>XM u s' l FQ (hPp u (aE hu)) (by omega);(have uf:(ps.take (i+1)).flatMap Ty.nodes=(ps.take i).flatMap Ty.nodes++u.nodes:=by rw [bH,hu];simp);(have Lt:dr step s (t :: (ps.take (i+1)).flatMap Ty.nodes)=dr step s' u.nodes:=by rw [uf,← aw,iY,Rb];simp);refine ak tt_ok fun K hK=>?_;simp only [dF,hu,aT,aD,hn,g0,gs,go_sem];refine hK _ ?_;refine ak tt_ok fun K hK=>?_;simp only [gk2,g0,hn,go_sem];(refine .inr <| .inl ⟨_,_,jj _,?_⟩);(try simp only [go_sem]);refine hK _ ?_;cases Rc:(dr step s' u.nodes).2 with|false =>refine aO rfl ?_;refine ak tt_ok fun K hK=>?_;simp only [go_sem];refine hK _ ?_;refine bE ⟨.inl rfl,?_⟩;(have uo:dr step s t.nodes=((dr step s' u.nodes).1,false):=by (have A4:ps.flatMap Ty.nodes=(ps.take (i+1)).flatMap Ty.nodes++(ps.drop (i+1)).flatMap Ty.nodes:=by rw [← lN,nB]);rw [dy,A4,← aw,iY,Lt,Rc];simp);rw [uo];exact⟨rfl,rfl,by dsimp only;rw [gt];exact hb _,(gt _ _).symm⟩|true =>refine aO rfl (bZ ?_);show dS _ _ _ _ _ _;refine aR tt_ok fun K hK=>?_;simp only [go_sem];refine hK _ ?_;have nr:=bN i (by omega);rw [nr];refine⟨ps.length-(i+1),by omega,n,(false::true::true::(rp 9 false [true,true,true])),by rw [hn];exact ay _,by simp only [bg,aI,aV,aL,zB,ib,jI,gG],by dsimp only;rw [gt];exact hb _,i+1,(dr step s' u.nodes).1,qA step hG _ _ FQ Rc,rfl,bQ,by rw [Lt,← Rc],?_⟩;dsimp only;rw [gt];rfl);have hd:=gy bQ;refine ak tt_ok fun K hK=>?_;simp only [aS,hd,go_sem];refine hK _ ?_;refine bc (aO rfl (dK ?_));(have kz:i=ps.length:=by omega);subst kz;show dS _ _ _ _ _ _;refine ak tt_ok fun K hK=>?_;simp only [go_sem];refine hK _ ?_;refine bE ⟨.inl rfl,?_⟩;rw [az] at Rb;rw [dy,Rb];exact⟨rfl,rfl,by dsimp only;rw [XL];exact hb _,(XL _).symm⟩
end
section
variable {σ:Type} {M:σ→List bf} {n k kt:Nat}
theorem RY (hn:∀ s,(M s).length=n) (hk:k<n) (Nl:kt<n) {t:Ty} (h1:∀ s,(M s)[kt]?=some (.box (aD t))) (hb:∀ s,(M s).all (aL n)=true)
  (step:σ→Ty→σ×Bool) (G:σ→Prop) (hG:∀ s u,G s→(step s u).2=true→G (step s u).1) {B:Nat} (hB:B≤1048576) (Pd:Ty→Prop) (hy:∀ s u,G s→u.size≤B→Pd u→Ih aj k [bk u] (M s) (step s u).2 (M (step s u).1)) (ht:t.size≤B) (hP:∀ v∈t.nodes,Pd v) (s:σ) (hs:G s) :
  bo aj 169 [.jK k,.ptr kt 0] (M s) (.dR []) (M (dr step s t.nodes).1):=by
 have g0:∀ s (l:List bf),(M s++l)[n]?=l[0]?:=fun s l=>by rw [aX (by rw [hn];exact ay _),hn,eI]
 have g1:∀ s (l:List bf),(M s++l)[n+1]?=l[1]?:=fun s l=>by rw [aX (by rw [hn];omega),hn,dQ]
 have XN:∀ s (l:List bf),(M s++l)[kt]?=some (.box (aD t)):=fun s l=>by rw [bh (by rw [hn];exact Nl)];exact h1 s
 have gs:∀ s (l:List bf) X,(M s++l).set (n+1) X=M s++l.set 1 X:=fun s l X=>by rw [ic _ _ (by rw [hn];omega),hn,dQ]
 have gt:∀ s (l:List bf),(M s++l).take n=M s:=fun s l=>by rw [← hn s,qK]
 have hw:∀ s,G s→bo aj 170 [bk t,.ptr n 0,.ptr (n+1) 0] (M s++[.box [.jK k],.box [.ia (.func 170) [] [.ptr n 0,.ptr (n+1) 0]]]) (bl (dr step s t.nodes).2) (M (dr step s t.nodes).1++[.box [.jK k],.box [.ia (.func 170) [] [.ptr n 0,.ptr (n+1) 0]]]):=fun s hs=>by refine RW (M:=fun s=>M s++[.box [.jK k],.box [.ia (.func 170) [] [.ptr n 0,.ptr (n+1) 0]]]) (n:=n+2) (k:=k) (k1:=n) (k2:=n+1) (fun s=>by simp [hn]) (by omega) (by omega) (by omega) (fun s=>g0 _ _) (fun s=>g1 _ _) (fun s=>?_) step G hG hB Pd (fun s u hg hu hq=>?_) t.size t s hs hP (ay _) ht;(·rw [o7,aJ];refine⟨qn (by omega) (hb s),?_⟩;simp [aL,aI,aV];omega);refine (hy s u hg hu hq).frame (by rw [hn];exact hk) ?_ (by rw [hn];exact hb s) (by rw [hn,hn]) (by rw [hn];exact hb _) _;rw [aT];simp [aI,aV,aD]
 refine nI tt_ok (fn:=Tryz.f169) n (by rw [hn];exact ay _) Tryz.func169 rfl Tryz.call169 ?_;simp only [cP,cK,Tryz.ntmps169,af,ai,zA,zF,aG,aH];have yx:=hw s hs;rw [aT] at yx;simp only [aD] at yx XN;refine ak tt_ok fun K hK=>?_;simp only [hn,go_sem];refine hK _ ?_;refine ak tt_ok fun K hK=>?_;simp only [hn,ae,al,go_sem];refine hK _ ?_;refine ak tt_ok fun K hK=>?_;simp only [hn,g1,gs,go_sem];refine hK _ ?_;refine aR tt_ok fun K hK=>?_;simp only [hn,g1,XN,go_sem];refine .inr <| .inl ⟨_,_,yx,?_⟩
 try simp only [go_sem]
 refine hK _ ?_;refine⟨.inr rfl,rfl,rfl,?_,?_⟩;·dsimp only;rw [gt];exact hb _
 dsimp only;rw [gt]
theorem JW {n0:Nat} {st:St} {Q:Exit→St→Prop} {f:Operand} {params:Array Tmp} {assign body:Code} {t:Ty} (pre:σ→List bf) (s0:σ) (n kt:Nat) (mz:st.mem=pre s0) (hn:∀ s,(pre s).length=n) (Nl:kt<n)
  (ht:∀ s,(pre s)[kt]?=some (.box (aD t))) (hb:∀ s,(pre s).all (aL (n+1))=true) (y8:st.fr.all (aI (n+1))=true) (hf:st.eval f = .ia (.func 169) [] [.ptr kt 0]) (hp:params.size=1) (step:σ→Ty→σ×Option Code) {B:Nat} (hB:B≤1048576) (iw:t.size≤B) (Pd:Ty→Prop) (hPt:∀ v∈t.nodes,Pd v)
  (A5:∀ s u,u.size≤B→Pd u→∀ (l:Nat) (LR LB:bf),aL (n+1) LR=true→aL (n+1) LB=true→dS aj (some l) (n+1) assign { fr:=om params.toList [bk u] st.fr,mem:=pre s++[LR] } fun ex tB=>ex = .normal∧tB.mem[n]?=some LR ∧
   dS aj (some l) (n+1) body { tB with mem:=tB.mem.set n LB } fun ex zd=>rR ex=some (step s u).2∧zd.mem[n]?=some LB∧zd.mem.take n=pre (step s u).1)
  (hq:match (iC step s0 t.nodes).2 with
   | none=>Q .normal { st with mem:=pre (iC step s0 t.nodes).1++[.dead] }
   | some c=>dS aj none n0 c { st with mem:=pre (iC step s0 t.nodes).1++[.dead] } Q):dS aj none n0 (.rangeFunc f params assign body) st Q:=by
 have hlen:st.mem.length=n:=by rw [mz,hn]
 have gn:∀ s X,(pre s++[X])[n]?=some X:=fun s X=>by rw [aX (by rw [hn];exact ay _),hn,eI];rfl
 have gk:∀ s X,(pre s++[X])[kt]?=some (.box (aD t)):=fun s X=>by rw [bh (by rw [hn];exact Nl)];exact ht s
 have G8:∀ s (X Y:bf),(pre s++[X]).set n Y=pre s++[Y]:=fun s X Y=>by rw [ic _ _ (by rw [hn];exact ay _),hn,eI];rfl
 have yy:∀ (s:σ) (a:LoopState) (b:Option Code),(pre s++[bf.loop a b st.fr params assign body]).all (aL (n+1))=true:=fun s a b=>by rw [o7,aJ];exact⟨hb s,by simp only [cI,dM,aU,aL];exact y8⟩
 have it:=RY (M:=fun s:σ×Option Code=>pre s.1++[.loop (if s.2.isNone then .ready else .done) s.2 st.fr params assign body]) (n:=n+1) (k:=n) (kt:=kt) (t:=t) (fun s=>by simp [hn]) (by omega) (by omega) (fun s=>gk _ _) (fun s=>yy _ _ _)
  (wi step) (fun s=>s.2=none) (fun s u hs h=>by simpa [wi] using h) hB Pd (fun s u hs hu hq=>by
   obtain⟨s,j⟩:=s
   simp only at hs;subst hs
   refine rS (fr:=st.fr) (params:=params) (assign:=assign) (body:=body) (gn _ _) (by simp [hp]) fun l=>?_
   have hl:(pre s++[bf.loop .ready none st.fr params assign body]).length=n+1:=by simp [hn]
   simp only [ac6,if_true,hl]
   refine dS.mono (A5 s u hu hq l (.loop .ready none st.fr params assign body) (.loop .busy none st.fr params assign body) y8 y8) ?_
   rintro ex tB ⟨h1,h2,h3⟩
   refine⟨h1,h2,dS.mono h3 ?_⟩
   rintro ex zd ⟨h4,h5,h6⟩
   refine⟨_,h4,rfl,h5,?_,?_⟩
   ·rw [take_set (hn _) h5 h6];exact yy _ _ _
   rw [take_set (hn _) h5 h6];rfl) iw hPt (s0,none) rfl
 rw [zw] at it;refine oR (g:=169) (vs:=[.jK n,.ptr kt 0]) (by rw [hf,hlen];rfl) (by rw [mz];exact it) ?_;rw [hlen];refine⟨_,_,_,_,_,_,gn _ _,?_,?_⟩;·cases (iC step s0 t.nodes).2 <;> simp
 generalize hj:(iC step s0 t.nodes).2=j at hq;cases j with|none=>dsimp only at hq ⊢;rw [G8];exact hq|some c=>dsimp only at hq ⊢;rw [G8];exact hq
end
end
theorem abh (t:Ty):mI t=if decide (4096<(t.size:Int))||decide (32<(t.depth:Int)) then 7 else er tj t.nodes:=by unfold mI;by_cases h1:4096<t.size <;> by_cases h2:32<t.depth <;> simp [h1,h2] <;> (intros;omega)
theorem sL {α:Type} (f:α→Int) (c:Code):∀ (l:List α) (s:Int),iC (fun (s:Int) u=>if decide (f u=0)=true then (s,none) else (f u,some c)) s l=if decide (er f l=0)=true then (s,none) else (er f l,some c)
 | [],s=>by simp [iC,er]
 | u :: r,s=>by
  by_cases h:f u=0
  ·simp only [iC,er,h,decide_true,if_true]
   exact sL f c r s
  have hd:decide (f u=0)=false:=decide_eq_false h
  simp [iC,er,hd,h]
theorem qE (hG:ba.g=some 0) (t:Ty) (ht:t.size≤1048576) (hP:∀ v∈t.nodes,v.mod.size≤1048576):bJ aj 35 [bk t] (num (mI t)):=by have h14:=nA t ht;have X4:=Jw t.size t (ay _) ht;have h51:=fun B0 B1 h=>G7 t [B0,B1] h;refine iN tt_ok (fn:=Tryz.f35) Tryz.func35 rfl Tryz.call35 ?_;simp only [cP,cK,Tryz.ntmps35,af,ai,zA,zF,aG,aH];rw [aT] at h14 X4 h51 ⊢;simp only [aD] at h14 X4 h51 ⊢;refine ak tt_ok fun K hK=>?_;simp only [go_sem];refine hK _ ?_;refine bc ?_;have res:mI t=if decide (4096<(t.size:Int))||decide (32<(t.depth:Int)) then 7 else er tj t.nodes:=abh t;cases c1:decide (4096<(t.size:Int)) with|true =>rw [c1] at res;refine ak tt_ok fun K hK=>?_;simp only [c1,go_sem];refine .inl ⟨_,_,by simp only [c1,go_sem,az],h14,?_⟩;(try simp only [c1,go_sem]);refine hK _ ?_;refine aO rfl ?_;refine ak tt_ok fun K hK=>?_;simp only [go_sem];refine hK _ ?_;refine bE ⟨.inl rfl,?_⟩;rw [res];rfl|false =>rw [c1] at res;cases c2:decide (32<(t.depth:Int)) with|true =>rw [c2] at res;refine ak tt_ok fun K hK=>?_;simp only [c1,go_sem];refine .inl ⟨_,_,by simp only [c1,go_sem,az],h14,?_⟩;(try simp only [c1,go_sem]);refine .inl ⟨_,_,by simp only [c2,go_sem,az],X4,?_⟩;(try simp only [c2,go_sem]);refine hK _ ?_;refine aO rfl ?_;refine ak tt_ok fun K hK=>?_;simp only [go_sem];refine hK _ ?_;refine bE ⟨.inl rfl,?_⟩;rw [res];rfl|false =>rw [c2] at res;refine ak tt_ok fun K hK=>?_;simp only [c1,go_sem];refine .inl ⟨_,_,by simp only [c1,go_sem,az],h14,?_⟩;(try simp only [c1,go_sem]);refine .inl ⟨_,_,by simp only [c2,go_sem,az],X4,?_⟩;(try simp only [c2,go_sem]);refine hK _ ?_;refine aO rfl (bZ ?_);show dS _ _ _ _ _ _;refine bc ?_;refine ak tt_ok fun K hK=>?_;simp only [go_sem];(refine .inr <| .inl ⟨_,_,h51 _ _ rfl,?_⟩);(try simp only [go_sem]);refine hK _ ?_;refine bC (JW (t:=t) (B:=1048576) (fun s:Int=>[.box (aD t),.box [num s],.box (aD t)]) 0 3 2 rfl (fun _=>rfl) (by omega) (fun _=>rfl) (fun _=>rfl) rfl rfl rfl (fun s u=>if decide (tj u=0)=true then (s,none) else (tj u,some .ret)) (by omega) ht (fun v=>v.mod.size≤1048576) hP ?_ ?_);(·intro s u hu hm l LR LB hLR hLB;have qU:=u.fZ;obtain⟨_,rfl,hn⟩:=HE hG u (by omega) hm;rw [aT] at hn ⊢;simp only [aD] at hn;simp only [cP,om,aD,mb,ma];refine aR tt_ok fun K hK=>?_;simp only [go_sem];refine hK _ ?_;refine⟨rfl,rfl,bC ?_⟩;simp only [mb,ma];refine ak tt_ok fun K hK=>?_;simp only [go_sem];refine .inl ⟨_,_,by simp only [go_sem,az],hn,?_⟩;(try simp only [go_sem]);refine hK _ ?_;refine bc ?_;cases c3:decide (tj u=0) with|true =>refine aR tt_ok fun K hK=>?_;simp only [c3,go_sem];refine hK _ ?_;refine aO rfl (bZ ?_);exact⟨rfl,rfl,rfl⟩|false =>refine aR tt_ok fun K hK=>?_;simp only [c3,go_sem];refine hK _ ?_;refine aO rfl ?_;refine ak tt_ok fun K hK=>?_;simp only [go_sem];refine hK _ ?_;exact bE ⟨rfl,rfl,rfl⟩);rw [sL];simp only [cE,bu,if_false] at res;rw [res];cases c4:decide (er tj t.nodes=0) with|true =>have e0:er tj t.nodes=0:=of_decide_eq_true c4;simp only [if_true];show dS _ _ _ _ _ _;refine ak tt_ok fun K hK=>?_;simp only [go_sem];refine hK _ ?_;refine bE ⟨.inl rfl,?_⟩;rw [e0];rfl|false =>simp only [bu,if_false];exact bE ⟨.inl rfl,rfl⟩
section
theorem V1 (l:List Lb):gF l≤l.length:=List.length_filter_le _ _
theorem NU {l:List Lb} {i:Nat} {x:Lb} (h:l[i]?=some x) (ho:x.opt=true):gF (l.take (i+1))=gF (l.take i)+1:=by unfold gF;rw [bH,h];simp [ho]
theorem NV {l:List Lb} {i:Nat} {x:Lb} (h:l[i]?=some x) (ho:x.opt=false):gF (l.take (i+1))=gF (l.take i):=by unfold gF;rw [bH,h];simp [ho]
theorem iP (t:Ty):Cn 250 [bk t] (bl (jD t)):=by refine jq tt_ok [] 28 [.tmp 2] (fn:=Tryz.f250) Tryz.func250 rfl Tryz.call250 ⟨rfl,rfl,by simp⟩ fun K hK=>?_;simp only [aT,aD];repeat' (simp only [c7,aS,dZ,go_sem];first|refine cC (fun hg=>?_) (fun hg=>?_)|(exact hK _ (congrArg bl (by clear hK;unfold jD jJ;simp_all))))
section
attribute [local go_sem] dZ
theorem HF (s:ByteArray):Cn 275 [str s] (num (xy s)):=by
 refine jq tt_ok [30000] 17 [.tmp 2] (fn:=Tryz.f275) Tryz.func275 rfl Tryz.call275 ⟨rfl,rfl,by simp⟩ fun K hK=>?_;simp only [go_sem];refine sq tt_ok [30000] ?_;simp only [go_sem];refine mC tt_ok [30000] [4] 0 [0,2,3] (fun vs=>vs=[bl (qy s wy)]) (fun Z1 fh=>?_) ?_;·repeat' (simp only [go_sem];first|refine cC (fun hg=>?_) (fun hg=>?_)|(refine fh _ (mN (by omega) (by simp only [go_sem]) ?_);simp only [lS,lk,reduceIte,zE];exact congrArg (fun b=>[bl b]) (by simp_all [wy,qy])))
 intro vs hJ;obtain rfl:=hJ;simp only [go_sem];refine cC (fun hc4=>?_) (fun hc4=>?_) <;> simp only [go_sem];·exact hK _ (congrArg num (by clear hK;unfold xy;simp_all [wy,uP,qy]))
 refine mC tt_ok [30000] [14] 0 [0,2,3,4,5,6,7,8,9,10,11,12,13] (fun vs=>vs=[bl (qy s uP)]) (fun Z2 zv=>?_) ?_;·repeat' (simp only [go_sem];first|refine cC (fun hg=>?_) (fun hg=>?_)|(refine zv _ (mN (by omega) (by simp only [go_sem]) ?_);simp only [lS,lk,reduceIte,zE];exact congrArg (fun b=>[bl b]) (by simp_all [uP,qy])))
 intro vs hJ;obtain rfl:=hJ;repeat' (simp only [go_sem];first|refine cC (fun hg=>?_) (fun hg=>?_)|(exact hK _ (congrArg num (by clear hK;unfold xy;simp_all [wy,uP,qy]))))
end
section
attribute [local go_sem] ax
theorem V2 (x:Ex) (fl:ByteArray) (ty kd:Int) (lb:Bool) (hl:x.labels.length≤1048576) (iO : -1≤kd∧kd≤100):Cn 248 [br x,.agg [str fl,num ty,bl lb,num kd]] (num (ec x kd)):=by
 refine jq tt_ok [] 42 [.tmp 4] (fn:=Tryz.f248) Tryz.func248 rfl Tryz.call248 ⟨rfl,rfl,by simp⟩ fun K hK=>?_;simp only [bn,aP];simp only [go_sem];refine cC (fun hc8=>?_) (fun hc8=>?_) <;> simp only [go_sem];·refine ep (HF _) ?_;simp only [go_sem];first|exact hK _ (congrArg num cX)|exact hK _ (congrArg num (by clear hK;unfold ec;simp_all <;> omega))
 refine cC (fun sJ=>?_) (fun sJ=>?_) <;> simp only [go_sem];·refine iz tt_ok [] [22,5] 2 [2,3,4,8,15,20,21] (fun vs=>((x.labels.length:Int)-Go.Eng.intOf (vs.headD .undef)).toNat) (fun vs=>∃ i:Nat,vs=[num i,num ((1+gF (x.labels.take i):Nat):Int)]∧i≤x.labels.length) (by omega) (by simp only [go_sem]) (⟨0,rfl,ck _⟩) fun vs hI Z1 fh=>?_;obtain⟨i,rfl,hi⟩:=hI;simp only [go_sem];refine cC (fun abi=>?_) (fun abi=>?_);(·(have bQ:i<x.labels.length:=by simpa using abi);have hw:=bN i (by omega);obtain⟨l,hx⟩:∃ l,x.labels[i]?=some l:=⟨_,au bQ⟩;have jv:=V1 (x.labels.take i);rw [lg] at jv;have lQ:IntKind.i64.wrap (((1+gF (x.labels.take i):Nat):Int)+1)=((1+gF (x.labels.take i)+1:Nat):Int):=bN _ (by omega);simp only [hw,lQ,aq,hx,cq,aD,aw,aC,go_sem];refine cC (fun qD=>?_) (fun qD=>?_);(·(have Lt:((1+gF (x.labels.take (i+1)):Nat):Int)=((1+gF (x.labels.take i)+1:Nat):Int):=by rw [NU hx qD];omega);simp only [hw,lQ,aq,hx,cq,aD,aw,aC,go_sem];refine fh _ (oU (by omega) (by simp only [hw,lQ,aq,hx,cq,aD,aw,aC,go_sem]) ?_ ?_) <;> simp only [lS,lk,reduceIte,zE];(·exact⟨i+1,by rw [Lt],bQ⟩);simp only [Go.Eng.intOf,cg];omega);(have Lt:((1+gF (x.labels.take (i+1)):Nat):Int)=((1+gF (x.labels.take i):Nat):Int):=by rw [NV hx qD]);simp only [hw,lQ,aq,hx,cq,aD,aw,aC,go_sem];refine fh _ (oU (by omega) (by simp only [hw,lQ,aq,hx,cq,aD,aw,aC,go_sem]) ?_ ?_) <;> simp only [lS,lk,reduceIte,zE];(·exact⟨i+1,by rw [Lt],bQ⟩);simp only [Go.Eng.intOf,cg];omega);(have jL:¬ i<x.labels.length:=by simpa using abi);have hlen:x.labels.take i=x.labels:=dX (by omega);(have cX:((1+gF (x.labels.take i):Nat):Int)=ec x kd:=by rw [hlen];unfold ec;simp_all);simp only [go_sem];first|exact hK _ (congrArg num cX)|exact hK _ (congrArg num (by clear hK;unfold ec;simp_all <;> omega))
 refine cC (fun aaB=>?_) (fun aaB=>?_);·simp only [go_sem];first|exact hK _ (congrArg num cX)|exact hK _ (congrArg num (by clear hK;unfold ec;simp_all <;> omega))
 have hwk:IntKind.i64.wrap (kd+(x.labels.length:Int))=kd+x.labels.length:=IntWalk.i64_in _ (by omega);simp only [hwk,go_sem];first|exact hK _ (congrArg num cX)|exact hK _ (congrArg num (by clear hK;unfold ec;simp_all <;> omega))
end
theorem nQ (hG:ba.g=some 0) (m:List bf) (hm:m.all (aL m.length)=true) (k:Nat) (fl:ByteArray) (ty kd:Int) (lb:Bool) (hk:m[k]?=some (.box [str fl,num ty,bl lb,num kd])) (s:ByteArray) (hf:fl.size≤1048576):∃ r_,(fun w=>w=bl (iZ fl s)) r_∧bo aj 246 [str s,.ptr k 0] (m) r_ (m):=by refine Na tt_ok [] 8 [.tmp 3] (fn:=Tryz.f246) Tryz.func246 rfl Tryz.call246 ⟨rfl,rfl,by simp⟩ fun K hK=>?_;simp only [az,hm,hk,decide_true,hk,go_sem];refine ep (⟨_,rfl,su hG _ _ (by omega)⟩) ?_;simp only [az,hm,hk,decide_true,hk,go_sem];exact hK _ _ ⟨rfl,rfl⟩
theorem ES (hG:ba.g=some 0) (m:List bf) (hm:m.all (aL m.length)=true) (k:Nat) (fl:ByteArray) (ty kd:Int) (lb:Bool) (hk:m[k]?=some (.box [str fl,num ty,bl lb,num kd])) (s:ByteArray) (hf:fl.size≤1048576):∃ r_,(fun w=>w=bl (iZ fl s)) r_∧bo aj 251 [str s,.ptr k 0] (m) r_ (m):=by refine Na tt_ok [] 8 [.tmp 3] (fn:=Tryz.f251) Tryz.func251 rfl Tryz.call251 ⟨rfl,rfl,by simp⟩ fun K hK=>?_;simp only [az,hm,hk,decide_true,hk,go_sem];refine ep (⟨_,rfl,su hG _ _ (by omega)⟩) ?_;simp only [az,hm,hk,decide_true,hk,go_sem];exact hK _ _ ⟨rfl,rfl⟩
section
attribute [local go_sem] dZ
theorem RZ (hG:ba.g=some 0) (b0:bf) (kZ:∀ n,3≤n→aL n b0=true) (fl:ByteArray) (ty kd:Int) (lb:Bool) (hf:fl.size≤1048576) (l:Lb):∃ r_,(fun w=>w=bl (lH fl l)) r_∧bo aj 249 [cq l,.ptr 2 0] ([b0,.box [str fl,num ty,bl lb,num kd],.box [.ia (.func 246) [] [.ptr 1 0]]]) r_ ([b0,.box [str fl,num ty,bl lb,num kd],.box [.ia (.func 246) [] [.ptr 1 0]]]):=by
 refine Na tt_ok [] 32 [.tmp 3] (fn:=Tryz.f249) Tryz.func249 rfl Tryz.call249 ⟨rfl,rfl,by simp⟩ fun K hK=>?_;have jw:=kZ 3 (ay _);simp only [cP,cq,aD];simp only [↓jw,go_sem];refine cC (fun Bp=>?_) (fun Bp=>?_) <;> simp only [↓jw,go_sem];·refine BX (nQ hG _ (by simp only [cI,dM,sf,sg,ov,sh,ow,ox,aI,aV,af,ai,zA,zB,decide_true,nX,aU,kZ,zC]) 1 fl ty kd lb rfl _ hf) ?_;simp only [↓jw,go_sem];refine cC (fun R0=>?_) (fun R0=>?_) <;> simp only [↓jw,go_sem];(·exact hK _ _ ⟨congrArg bl (by clear hK;unfold lH jJ;simp_all),rfl⟩);refine ep (by have h:=iP l.ty;rw [aT] at h;exact h) ?_;simp only [↓jw,go_sem];refine cC (fun Bq=>?_) (fun Bq=>?_) <;> simp only [↓jw,go_sem];(·refine BX (nQ hG _ (by simp only [cI,dM,sf,sg,ov,sh,ow,ox,aI,aV,af,ai,zA,zB,decide_true,nX,aU,kZ,zC]) 1 fl ty kd lb rfl _ hf) ?_;simp only [↓jw,go_sem];refine cC (fun JX=>?_) (fun JX=>?_) <;> simp only [↓jw,go_sem];(·exact hK _ _ ⟨congrArg bl (by clear hK;unfold lH jJ;simp_all),rfl⟩);refine cC (fun uT=>?_) (fun uT=>?_) <;> simp only [↓jw,go_sem];(·refine BX (nQ hG _ (by simp only [cI,dM,sf,sg,ov,sh,ow,ox,aI,aV,af,ai,zA,zB,decide_true,nX,aU,kZ,zC]) 1 fl ty kd lb rfl _ hf) ?_;simp only [↓jw,go_sem];exact hK _ _ ⟨congrArg bl (by clear hK;unfold lH jJ;simp_all),rfl⟩);exact hK _ _ ⟨congrArg bl (by clear hK;unfold lH jJ;simp_all),rfl⟩);refine cC (fun uT=>?_) (fun uT=>?_) <;> simp only [↓jw,go_sem];(·refine BX (nQ hG _ (by simp only [cI,dM,sf,sg,ov,sh,ow,ox,aI,aV,af,ai,zA,zB,decide_true,nX,aU,kZ,zC]) 1 fl ty kd lb rfl _ hf) ?_;simp only [↓jw,go_sem];exact hK _ _ ⟨congrArg bl (by clear hK;unfold lH jJ;simp_all),rfl⟩);exact hK _ _ ⟨congrArg bl (by clear hK;unfold lH jJ;simp_all),rfl⟩
 refine ep (by have h:=iP l.ty;rw [aT] at h;exact h) ?_;simp only [↓jw,go_sem];refine cC (fun Bq=>?_) (fun Bq=>?_) <;> simp only [↓jw,go_sem];·refine BX (nQ hG _ (by simp only [cI,dM,sf,sg,ov,sh,ow,ox,aI,aV,af,ai,zA,zB,decide_true,nX,aU,kZ,zC]) 1 fl ty kd lb rfl _ hf) ?_;simp only [↓jw,go_sem];refine cC (fun JX=>?_) (fun JX=>?_) <;> simp only [↓jw,go_sem];(·exact hK _ _ ⟨congrArg bl (by clear hK;unfold lH jJ;simp_all),rfl⟩);refine cC (fun uT=>?_) (fun uT=>?_) <;> simp only [↓jw,go_sem];(·refine BX (nQ hG _ (by simp only [cI,dM,sf,sg,ov,sh,ow,ox,aI,aV,af,ai,zA,zB,decide_true,nX,aU,kZ,zC]) 1 fl ty kd lb rfl _ hf) ?_;simp only [↓jw,go_sem];exact hK _ _ ⟨congrArg bl (by clear hK;unfold lH jJ;simp_all),rfl⟩);exact hK _ _ ⟨congrArg bl (by clear hK;unfold lH jJ;simp_all),rfl⟩
 refine cC (fun uT=>?_) (fun uT=>?_) <;> simp only [↓jw,go_sem];·refine BX (nQ hG _ (by simp only [cI,dM,sf,sg,ov,sh,ow,ox,aI,aV,af,ai,zA,zB,decide_true,nX,aU,kZ,zC]) 1 fl ty kd lb rfl _ hf) ?_;simp only [↓jw,go_sem];exact hK _ _ ⟨congrArg bl (by clear hK;unfold lH jJ;simp_all),rfl⟩
 exact hK _ _ ⟨congrArg bl (by clear hK;unfold lH jJ;simp_all),rfl⟩
end
theorem wG (hG:ba.g=some 0) (b0:bf) (kZ:∀ n,3≤n→aL n b0=true) (fl:ByteArray) (ty kd:Int) (lb:Bool) (hf:fl.size≤1048576) (l:Lb):∃ r_,(fun w=>w=bl (qW fl l)) r_∧bo aj 252 [cq l,.ptr 2 0] ([b0,.box [str fl,num ty,bl lb,num kd],.box [.ia (.func 251) [] [.ptr 1 0]]]) r_ ([b0,.box [str fl,num ty,bl lb,num kd],.box [.ia (.func 251) [] [.ptr 1 0]]]):=by
 refine Na tt_ok [] 18 [.tmp 3] (fn:=Tryz.f252) Tryz.func252 rfl Tryz.call252 ⟨rfl,rfl,by simp⟩ fun K hK=>?_;have jw:=kZ 3 (ay _);simp only [cP,cq,aD];simp only [↓jw,go_sem];refine ep (iA hG _) ?_;simp only [↓jw,go_sem];refine cC (fun af4=>?_) (fun af4=>?_) <;> simp only [↓jw,go_sem];·exact hK _ _ ⟨congrArg bl (by clear hK;unfold qW;simp_all),rfl⟩
 refine BX (ES hG _ (by simp only [cI,dM,sf,sg,ov,sh,ow,ox,aI,aV,af,ai,zA,zB,decide_true,nX,aU,kZ,zC]) 1 fl ty kd lb rfl _ hf) ?_;repeat' (simp only [↓jw,go_sem];first|refine cC (fun hg=>?_) (fun hg=>?_)|refine ep (iA hG _) ?_|(exact hK _ _ ⟨congrArg bl (by clear hK;unfold qW;simp_all),rfl⟩))
section
attribute [local go_sem] ax
theorem R1 (c:Nat) (b0:bf) (kZ:∀ n,3≤n→aL n b0=true) (fl:ByteArray) (ty kd:Int) (lb:Bool) (hf:fl.size≤1048576) (g:FuncId) (q:Lb→Bool) (l:List Lb) (hg:∀ x∈l,∃ r,(fun v=>v=bl (q x)) r∧bo aj g [cq x,.ptr 2 0] ([b0,.box [str fl,num ty,bl lb,num kd],.box [.ia (.func c) [] [.ptr 1 0]]]) r ([b0,.box [str fl,num ty,bl lb,num kd],.box [.ia (.func c) [] [.ptr 1 0]]])) (hl:l.length≤1048576):∃ r_,(fun w=>∃ k:Int,w=num k∧decide (0≤k)=l.any q) r_∧bo aj 192 [.slice (l.map cq),.ia (.func g) [] [.ptr 2 0]] ([b0,.box [str fl,num ty,bl lb,num kd],.box [.ia (.func c) [] [.ptr 1 0]]]) r_ ([b0,.box [str fl,num ty,bl lb,num kd],.box [.ia (.func c) [] [.ptr 1 0]]]):=by
 refine Na tt_ok [] 19 [.tmp 4] (fn:=Tryz.f192) Tryz.func192 rfl Tryz.call192 ⟨rfl,rfl,by simp⟩ fun K hK=>?_;have jw:=kZ 3 (ay _);simp only [↓jw,go_sem];refine iz tt_ok [] [8] 3 [0,1,7] (fun vs=>((l.length:Int)-Go.Eng.intOf (vs.headD .undef)).toNat) (fun vs=>∃ i:Nat,vs=[num i]∧i≤l.length∧∀ j<i,∀ x,l[j]?=some x→q x=false) (by omega) (by simp only [↓jw,go_sem]) (⟨0,rfl,ck _,fun j hj=>absurd hj (iH j)⟩) fun vs hI Z1 fh=>?_;obtain⟨i,rfl,hi,ff⟩:=hI;simp only [↓jw,go_sem];refine cC (fun kh=>?_) (fun kh=>?_);·(have bQ:i<l.length:=by simpa using kh);have hw:=bN i (by omega);obtain⟨x,hx⟩:∃ x,l[i]?=some x:=⟨_,au bQ⟩;simp only [↓jw,hw,aq,hx,cq,aD,aw,aC,go_sem];refine BX (by have h:=hg x (aE hx);simp only [cP,cq,aD] at h;exact h) ?_;simp only [↓jw,hw,aq,hx,cq,aD,aw,aC,go_sem];refine cC (fun gh=>?_) (fun gh=>?_);(·(have cX:decide (0≤(i:Int))=l.any q:=by rw [qx hx gh];exact decide_eq_true (fP i));simp only [↓jw,hw,aq,hx,cq,aD,aw,aC,go_sem];exact hK _ _ ⟨⟨_,rfl,cX⟩,rfl⟩);simp only [↓jw,hw,aq,hx,cq,aD,aw,aC,go_sem];refine fh _ (oU (by omega) (by simp only [↓jw,hw,aq,hx,cq,aD,aw,aC,go_sem]) ?_ ?_) <;> simp only [lS,lk,reduceIte,zE];(·refine⟨i+1,rfl,bQ,fun j hj=>?_⟩;(rcases bS j i with h|h);(·exact ff j h);(obtain rfl:j=i:=by omega);intro y hy;rw [hx] at hy;cases hy;exact gh);simp only [Go.Eng.intOf,cg];omega
 have jL:¬ i<l.length:=by simpa using kh
 have cX:decide (0≤(-1:Int))=l.any q:=(any_none fun j hj=>ff j (by omega)).symm ▸ rfl;simp only [↓jw,go_sem];exact hK _ _ ⟨⟨_,rfl,cX⟩,rfl⟩
end
theorem Br (c:Nat) (b0:bf) (kZ:∀ n,3≤n→aL n b0=true) (fl:ByteArray) (ty kd:Int) (lb:Bool) (hf:fl.size≤1048576) (g:FuncId) (q:Lb→Bool) (l:List Lb) (hg:∀ x∈l,∃ r,(fun v=>v=bl (q x)) r∧bo aj g [cq x,.ptr 2 0] ([b0,.box [str fl,num ty,bl lb,num kd],.box [.ia (.func c) [] [.ptr 1 0]]]) r ([b0,.box [str fl,num ty,bl lb,num kd],.box [.ia (.func c) [] [.ptr 1 0]]])) (hl:l.length≤1048576):∃ r_,(fun w=>w=bl (l.any q)) r_∧bo aj 107 [.slice (l.map cq),.ia (.func g) [] [.ptr 2 0]] ([b0,.box [str fl,num ty,bl lb,num kd],.box [.ia (.func c) [] [.ptr 1 0]]]) r_ ([b0,.box [str fl,num ty,bl lb,num kd],.box [.ia (.func c) [] [.ptr 1 0]]]):=by refine Na tt_ok [] 9 [.tmp 4] (fn:=Tryz.f107) Tryz.func107 rfl Tryz.call107 ⟨rfl,rfl,by simp⟩ fun K hK=>?_;have jw:=kZ 3 (ay _);simp only [↓jw,go_sem];refine cS (R1 c b0 kZ fl ty kd lb hf g q l hg hl) ?_;rintro _ ⟨k,rfl,hk⟩;simp only [↓jw,go_sem];exact hK _ _ ⟨congrArg bl hk,rfl⟩
end
section
theorem wH (x:Ex) (fl:ByteArray) (ty:Int) (lb:Bool) (kd:Int):qV x fl ty lb kd=(!(q1 x fl||q2 x fl||q3 x fl||q4 x fl) && !(q5 x||q6 x kd) && !(q7 x ty||q8 x lb||q9 x kd) && !(x.labels.any (lH fl))):=by unfold qV;cases q1 x fl <;> cases q2 x fl <;> cases q3 x fl <;> cases q4 x fl <;> cases q5 x <;> cases q6 x kd <;> cases q7 x ty <;> cases q8 x lb <;> cases q9 x kd <;> rfl
section
attribute [local go_sem] aS aW ax dZ
theorem V3 (hG:ba.g=some 0) (x:Ex) (fl:ByteArray) (ty kd:Int) (lb:Bool) (hf:fl.size≤1048576) (hl:x.labels.length≤1048576) (iO : -1≤kd∧kd≤100):Cn 188 [br x,.agg [str fl,num ty,bl lb,num kd]] (bl (qV x fl ty lb kd)):=by
 refine jq tt_ok [3,4,5,8,11,12,30000] 100 [.tmp 4] (fn:=Tryz.f188) Tryz.func188 rfl Tryz.call188 ⟨rfl,rfl,by simp⟩ fun K hK=>?_;simp only [bn,aP];simp only [go_sem];refine ep (by have h:=V2 x fl ty kd lb hl iO;rw [bn] at h;simp only [aP] at h;exact h) ?_;simp only [go_sem];refine mC tt_ok [3,4,5,8,11,12,30000] [11] 3 [2,3,4,5,6] (fun vs=>vs=[bl (q1 x fl||q2 x fl||q3 x fl||q4 x fl)]) (fun Z1 fh=>?_) ?_;·simp only [go_sem];refine mC tt_ok [3,4,5,8,11,12,30000] [11] 3 [2,3,4,5,6] (fun vs=>vs=[bl (q1 x fl)]) (fun Z2 zv=>?_) ?_;(·simp only [go_sem];refine yP tt_ok ?_;simp only [go_sem];refine cC (fun Bs=>?_) (fun Bs=>?_) <;> simp only [go_sem];(·refine BX (nQ hG _ rfl 1 fl ty kd lb rfl _ hf) ?_;simp only [go_sem];refine zv _ (mN (by omega) (by simp only [go_sem]) ?_);simp only [lS,lk,reduceIte,zE];exact congrArg (fun b=>[bl b]) (by clear hK fh zv;unfold q1;simp_all [jJ] <;> (intros;omega)));refine zv _ (mN (by omega) (by simp only [go_sem]) ?_);simp only [lS,lk,reduceIte,zE];exact congrArg (fun b=>[bl b]) (by clear hK fh zv;unfold q1;simp_all [jJ] <;> (intros;omega)));intro vs hJ;obtain rfl:=hJ;simp only [go_sem];refine cC (fun lI=>?_) (fun lI=>?_) <;> simp only [go_sem];(·refine fh _ (mN (by omega) (by simp only [go_sem]) ?_);simp only [lS,lk,reduceIte,zE];exact congrArg (fun b=>[bl b]) (by clear hK fh;first|(simp only [*,bG,a8,a6,aU,bw,bx,cf,ca,bX,bT,cE];done)|(unfold q4;simp only [*,bG,a8,a6,aU,bw,bx,cf,ca,bX,bT,cE];done)|(unfold q4;simp_all)));refine mC tt_ok [3,4,5,8,11,12,30000] [11] 3 [2,3,4,5,6] (fun vs=>vs=[bl (q2 x fl)]) (fun Z3 OV=>?_) ?_;(·simp only [go_sem];refine yP tt_ok ?_;simp only [go_sem];refine cC (fun R2=>?_) (fun R2=>?_) <;> simp only [go_sem];(·refine BX (nQ hG _ rfl 1 fl ty kd lb rfl _ hf) ?_;simp only [go_sem];refine OV _ (mN (by omega) (by simp only [go_sem]) ?_);simp only [lS,lk,reduceIte,zE];exact congrArg (fun b=>[bl b]) (by clear hK fh OV;unfold q2;simp_all [jJ] <;> (intros;omega)));refine OV _ (mN (by omega) (by simp only [go_sem]) ?_);simp only [lS,lk,reduceIte,zE];exact congrArg (fun b=>[bl b]) (by clear hK fh OV;unfold q2;simp_all [jJ] <;> (intros;omega)));intro vs hJ;obtain rfl:=hJ;simp only [go_sem];refine cC (fun lI=>?_) (fun lI=>?_) <;> simp only [go_sem];(·refine fh _ (mN (by omega) (by simp only [go_sem]) ?_);simp only [lS,lk,reduceIte,zE];exact congrArg (fun b=>[bl b]) (by clear hK fh;first|(simp only [*,bG,a8,a6,aU,bw,bx,cf,ca,bX,bT,cE];done)|(unfold q4;simp only [*,bG,a8,a6,aU,bw,bx,cf,ca,bX,bT,cE];done)|(unfold q4;simp_all)));refine mC tt_ok [3,4,5,8,11,12,30000] [11] 3 [2,3,4,5,6] (fun vs=>vs=[bl (q3 x fl)]) (fun Z4 hZ4=>?_) ?_;(·simp only [go_sem];refine yP tt_ok ?_;simp only [go_sem];refine cC (fun af5=>?_) (fun af5=>?_) <;> simp only [go_sem];(·refine BX (nQ hG _ rfl 1 fl ty kd lb rfl _ hf) ?_;simp only [go_sem];refine hZ4 _ (mN (by omega) (by simp only [go_sem]) ?_);simp only [lS,lk,reduceIte,zE];exact congrArg (fun b=>[bl b]) (by clear hK fh hZ4;unfold q3;simp_all [jJ] <;> (intros;omega)));refine hZ4 _ (mN (by omega) (by simp only [go_sem]) ?_);simp only [lS,lk,reduceIte,zE];exact congrArg (fun b=>[bl b]) (by clear hK fh hZ4;unfold q3;simp_all [jJ] <;> (intros;omega)));intro vs hJ;obtain rfl:=hJ;simp only [go_sem];refine cC (fun lI=>?_) (fun lI=>?_) <;> simp only [go_sem];(·refine fh _ (mN (by omega) (by simp only [go_sem]) ?_);simp only [lS,lk,reduceIte,zE];exact congrArg (fun b=>[bl b]) (by clear hK fh;first|(simp only [*,bG,a8,a6,aU,bw,bx,cf,ca,bX,bT,cE];done)|(unfold q4;simp only [*,bG,a8,a6,aU,bw,bx,cf,ca,bX,bT,cE];done)|(unfold q4;simp_all)));refine cC (fun af6=>?_) (fun af6=>?_) <;> simp only [go_sem];(·refine BX (nQ hG _ rfl 1 fl ty kd lb rfl _ hf) ?_;simp only [go_sem];refine fh _ (mN (by omega) (by simp only [go_sem]) ?_);simp only [lS,lk,reduceIte,zE];exact congrArg (fun b=>[bl b]) (by clear hK fh;first|(simp only [*,bG,a8,a6,aU,bw,bx,cf,ca,bX,bT,cE];done)|(unfold q4;simp only [*,bG,a8,a6,aU,bw,bx,cf,ca,bX,bT,cE];done)|(unfold q4;simp_all)));refine fh _ (mN (by omega) (by simp only [go_sem]) ?_);simp only [lS,lk,reduceIte,zE];exact congrArg (fun b=>[bl b]) (by clear hK fh;first|(simp only [*,bG,a8,a6,aU,bw,bx,cf,ca,bX,bT,cE];done)|(unfold q4;simp only [*,bG,a8,a6,aU,bw,bx,cf,ca,bX,bT,cE];done)|(unfold q4;simp_all))
 intro vs hJ;obtain rfl:=hJ;simp only [go_sem];refine cC (fun lI=>?_) (fun lI=>?_) <;> simp only [go_sem];·exact hK _ (congrArg bl (by clear hK;rw [wH];simp only [*,bG,a8,a6,aU,bw,bx,cf,ca,bX,bT,cE]))
 refine mC tt_ok [3,4,5,8,11,12,30000] [44] 3 [2,3,4,5,6,11] (fun vs=>vs=[bl (q5 x||q6 x kd)]) (fun Z5 hZ5=>?_) ?_;·simp only [go_sem];refine mC tt_ok [3,4,5,8,11,12,30000] [44] 3 [2,3,4,5,6,11] (fun vs=>vs=[bl (q5 x)]) (fun Z6 hZ6=>?_) ?_;(·simp only [go_sem];refine yP tt_ok ?_;repeat' (simp only [go_sem];first|refine cC (fun hg=>?_) (fun hg=>?_)|(refine hZ6 _ (mN (by omega) (by simp only [go_sem]) ?_);simp only [lS,lk,reduceIte,zE];exact congrArg (fun b=>[bl b]) (by clear hK hZ5 hZ6;unfold q5;simp_all [jJ] <;> (intros;omega)))));intro vs hJ;obtain rfl:=hJ;repeat' (simp only [go_sem];first|refine cC (fun hg=>?_) (fun hg=>?_)|(refine hZ5 _ (mN (by omega) (by simp only [go_sem]) ?_);simp only [lS,lk,reduceIte,zE];exact congrArg (fun b=>[bl b]) (by clear hK hZ5;first|(simp only [*,bG,a8,a6,aU,bw,bx,cf,ca,bX,bT,cE];done)|(unfold q6;simp only [*,bG,a8,a6,aU,bw,bx,cf,ca,bX,bT,cE];done)|(unfold q6;simp_all))))
 intro vs hJ;obtain rfl:=hJ;simp only [go_sem];refine cC (fun R3=>?_) (fun R3=>?_) <;> simp only [go_sem];·exact hK _ (congrArg bl (by clear hK;rw [wH];simp only [*,bG,a8,a6,aU,bw,bx,cf,ca,bX,bT,cE]))
 refine mC tt_ok [3,4,5,8,11,12,30000] [65] 3 [2,3,4,5,6,11,44] (fun vs=>vs=[bl (q7 x ty||q8 x lb||q9 x kd)]) (fun Z7 hZ7=>?_) ?_;·simp only [go_sem];refine mC tt_ok [3,4,5,8,11,12,30000] [65] 3 [2,3,4,5,6,11,44] (fun vs=>vs=[bl (q7 x ty)]) (fun Z8 hZ8=>?_) ?_;(·simp only [go_sem];refine yP tt_ok ?_;repeat' (simp only [go_sem];first|refine cC (fun hg=>?_) (fun hg=>?_)|(refine hZ8 _ (mN (by omega) (by simp only [go_sem]) ?_);simp only [lS,lk,reduceIte,zE];exact congrArg (fun b=>[bl b]) (by clear hK hZ7 hZ8;unfold q7;simp_all [jJ] <;> (intros;omega)))));intro vs hJ;obtain rfl:=hJ;simp only [go_sem];refine cC (fun abj=>?_) (fun abj=>?_) <;> simp only [go_sem];(·refine hZ7 _ (mN (by omega) (by simp only [go_sem]) ?_);simp only [lS,lk,reduceIte,zE];exact congrArg (fun b=>[bl b]) (by clear hK hZ7;first|(simp only [*,bG,a8,a6,aU,bw,bx,cf,ca,bX,bT,cE];done)|(unfold q9;simp only [*,bG,a8,a6,aU,bw,bx,cf,ca,bX,bT,cE];done)|(unfold q9;simp_all)));refine mC tt_ok [3,4,5,8,11,12,30000] [65] 3 [2,3,4,5,6,11,44] (fun vs=>vs=[bl (q8 x lb)]) (fun Z9 hZ9=>?_) ?_;(·simp only [go_sem];refine yP tt_ok ?_;repeat' (simp only [go_sem];first|refine cC (fun hg=>?_) (fun hg=>?_)|(refine hZ9 _ (mN (by omega) (by simp only [go_sem]) ?_);simp only [lS,lk,reduceIte,zE];exact congrArg (fun b=>[bl b]) (by clear hK hZ7 hZ9;unfold q8;simp_all [jJ] <;> (intros;omega)))));intro vs hJ;obtain rfl:=hJ;repeat' (simp only [go_sem];first|refine cC (fun hg=>?_) (fun hg=>?_)|(refine hZ7 _ (mN (by omega) (by simp only [go_sem]) ?_);simp only [lS,lk,reduceIte,zE];exact congrArg (fun b=>[bl b]) (by clear hK hZ7;first|(simp only [*,bG,a8,a6,aU,bw,bx,cf,ca,bX,bT,cE];done)|(unfold q9;simp only [*,bG,a8,a6,aU,bw,bx,cf,ca,bX,bT,cE];done)|(unfold q9;simp_all))))
 intro vs hJ;obtain rfl:=hJ;simp only [go_sem];refine cC (fun abj=>?_) (fun abj=>?_) <;> simp only [go_sem];·exact hK _ (congrArg bl (by clear hK;rw [wH];simp only [*,bG,a8,a6,aU,bw,bx,cf,ca,bX,bT,cE]))
 refine BX (Br 246 _ (fun n hn=>rfl) fl ty kd lb hf 249 (lH fl) x.labels (fun l _=>RZ hG _ (fun n hn=>rfl) fl ty kd lb hf l) hl) ?_;simp only [go_sem];exact hK _ (congrArg bl (by clear hK;rw [wH];simp only [*,bG,a8,a6,aU,bw,bx,cf,ca,bX,bT,cE]))
end
end
section
section
attribute [local go_sem] aS aW ax dZ
theorem HG (hG:ba.g=some 0) (x:Ex) (fl:ByteArray) (ty kd:Int) (lb:Bool) (hf:fl.size≤1048576) (hl:x.labels.length≤1048576) (hm:x.mod.size≤1048576):Cn 189 [br x,.agg [str fl,num ty,bl lb,num kd]] (bl (qC x fl)):=by
 refine jq tt_ok [2,3] 42 [.tmp 4] (fn:=Tryz.f189) Tryz.func189 rfl Tryz.call189 ⟨rfl,rfl,by simp⟩ fun K hK=>?_;simp only [bn,aP];simp only [go_sem];refine mC tt_ok [2,3] [7] 3 [2,4,5] (fun vs=>vs=[bl (m1 x fl)]) (fun Z1 fh=>?_) ?_;·simp only [go_sem];refine yP tt_ok ?_;simp only [go_sem];refine BX (ES hG _ rfl 1 fl ty kd lb rfl _ hf) ?_;repeat' (simp only [go_sem];first|refine cC (fun hg=>?_) (fun hg=>?_)|refine ep (xu hG x.mod hm) ?_|(refine fh _ (mN (by omega) (by simp only [go_sem]) ?_);simp only [lS,lk,reduceIte,zE];exact congrArg (fun b=>[bl b]) (by clear hK fh;unfold m1;simp_all [jJ] <;> (intros;omega))))
 intro vs hJ;obtain rfl:=hJ;simp only [go_sem];refine cC (fun JK=>?_) (fun JK=>?_) <;> simp only [go_sem];·exact hK _ (congrArg bl (by clear hK;unfold qC;first|(simp only [*,bG,a8,a6,aU,bw,bx,cf,ca,bX,bT];done)|(unfold m3;simp only [*,bG,a8,a6,aU,bw,bx,cf,ca,bX,bT];done)|(unfold m3;simp_all)))
 refine mC tt_ok [2,3] [7] 3 [2,4,5] (fun vs=>vs=[bl (m2 x fl)]) (fun Z2 zv=>?_) ?_;·simp only [go_sem];refine yP tt_ok ?_;simp only [go_sem];refine BX (ES hG _ rfl 1 fl ty kd lb rfl _ hf) ?_;repeat' (simp only [go_sem];first|refine cC (fun hg=>?_) (fun hg=>?_)|refine ep (iA hG _) ?_|(refine zv _ (mN (by omega) (by simp only [go_sem]) ?_);simp only [lS,lk,reduceIte,zE];exact congrArg (fun b=>[bl b]) (by clear hK zv;unfold m2;simp_all [jJ] <;> (intros;omega))))
 intro vs hJ;obtain rfl:=hJ;simp only [go_sem];refine cC (fun JK=>?_) (fun JK=>?_) <;> simp only [go_sem];·exact hK _ (congrArg bl (by clear hK;unfold qC;first|(simp only [*,bG,a8,a6,aU,bw,bx,cf,ca,bX,bT];done)|(unfold m3;simp only [*,bG,a8,a6,aU,bw,bx,cf,ca,bX,bT];done)|(unfold m3;simp_all)))
 refine cC (fun R2=>?_) (fun R2=>?_) <;> simp only [go_sem];·refine ep (iA hG _) ?_;simp only [go_sem];refine cC (fun JK=>?_) (fun JK=>?_) <;> simp only [go_sem];(·exact hK _ (congrArg bl (by clear hK;unfold qC;first|(simp only [*,bG,a8,a6,aU,bw,bx,cf,ca,bX,bT];done)|(unfold m3;simp only [*,bG,a8,a6,aU,bw,bx,cf,ca,bX,bT];done)|(unfold m3;simp_all))));refine BX (Br 251 _ (fun n hn=>rfl) fl ty kd lb hf 252 (qW fl) x.labels (fun l _=>wG hG _ (fun n hn=>rfl) fl ty kd lb hf l) hl) ?_;simp only [go_sem];exact hK _ (congrArg bl (by clear hK;unfold qC;first|(simp only [*,bG,a8,a6,aU,bw,bx,cf,ca,bX,bT];done)|(unfold m3;simp only [*,bG,a8,a6,aU,bw,bx,cf,ca,bX,bT];done)|(unfold m3;simp_all)))
 refine BX (Br 251 _ (fun n hn=>rfl) fl ty kd lb hf 252 (qW fl) x.labels (fun l _=>wG hG _ (fun n hn=>rfl) fl ty kd lb hf l) hl) ?_;simp only [go_sem];exact hK _ (congrArg bl (by clear hK;unfold qC;first|(simp only [*,bG,a8,a6,aU,bw,bx,cf,ca,bX,bT];done)|(unfold m3;simp only [*,bG,a8,a6,aU,bw,bx,cf,ca,bX,bT];done)|(unfold m3;simp_all)))
end
end
def ET (dx:List (Value×Nat×V)):Prop:=∀ e∈dx,Jd .i64 e.1∧∃ (fl:ByteArray) (ty kd:Int) (lb:Bool),e.2.2 = .agg [str fl,num ty,bl lb,num kd]∧fl.size≤1048576
theorem ET.below {dx:List (Value×Nat×V)} (h:ET dx) (n:Nat):(dx.all fun e=>aI n e.2.2)=true:=aN.2 fun e he=>by obtain⟨-,fl,ty,kd,lb,e1,-⟩:=h e he;rw [e1];rfl
theorem af7:U7 aj 144 3 201 (Jd .i64):=Qw kr kr
def sM:Value×Nat×V:=(.int .i64 0,0,.agg [str ⟨#[98]⟩,num 0,bl false,num 0])
def tK:Value×Nat×V:=(.int .i64 1,1,.agg [str ⟨#[120]⟩,num 0,bl false,num 0])
def uU:Value×Nat×V:=(.int .i64 2,2,.agg [str ⟨#[98]⟩,num 0,bl false,num 0])
def wI:Value×Nat×V:=(.int .i64 3,3,.agg [str ⟨#[110]⟩,num 0,bl false,num 0])
def xH:Value×Nat×V:=(.int .i64 4,4,.agg [str ⟨#[109,110]⟩,num (-1),bl false,num 0])
def yY:Value×Nat×V:=(.int .i64 5,5,.agg [str ⟨#[]⟩,num 0,bl true,num 0])
def Bt:Value×Nat×V:=(.int .i64 6,6,.agg [str ⟨#[110]⟩,num 0,bl false,num 1])
def Cu:Value×Nat×V:=(.int .i64 7,7,.agg [str ⟨#[110]⟩,num 0,bl false,num 1])
def EU:Value×Nat×V:=(.int .i64 8,8,.agg [str ⟨#[116,111]⟩,num 0,bl true,num 1])
def HH:Value×Nat×V:=(.int .i64 9,9,.agg [str ⟨#[]⟩,num 0,bl true,num 1])
def uV:Value×Nat×V:=(.int .i64 10,10,.agg [str ⟨#[110]⟩,num 0,bl false,num 2])
def xI:Value×Nat×V:=(.int .i64 11,11,.agg [str ⟨#[]⟩,num 1,bl false,num 1])
def Bu:Value×Nat×V:=(.int .i64 12,12,.agg [str ⟨#[]⟩,num 1,bl false,num 3])
def EV:Value×Nat×V:=(.int .i64 13,13,.agg [str ⟨#[118]⟩,num 1,bl true,num 1])
def JY:Value×Nat×V:=(.int .i64 14,14,.agg [str ⟨#[]⟩,num 1,bl false,num (-1)])
def R4:Value×Nat×V:=(.int .i64 15,15,.agg [str ⟨#[110,120]⟩,num 1,bl false,num 3])
def abk:Value×Nat×V:=(.int .i64 16,16,.agg [str ⟨#[110]⟩,num 0,bl false,num (-1)])
def gW:List (Value×Nat×V):=[sM,tK,uU,wI,xH,yY,Bt,Cu,EU,HH,uV,xI,Bu,EV,JY,R4,abk]
theorem Bv:ET gW:=fun e he=>by simp only [gW,b8,ef,or_false] at he;rcases he with rfl|rfl|rfl|rfl|rfl|rfl|rfl|rfl|rfl|rfl|rfl|rfl|rfl|rfl|rfl|rfl|rfl <;> exact⟨⟨_,rfl⟩,_,_,_,_,rfl,by decide⟩
theorem NW {mem:List bf} {b:Nat} (hm:mem[b]?=some (.map gW 17)) (n:Int) :
  ∃ (fl:ByteArray) (ty kd:Int) (lb ok:Bool),j0 aj mem 144 (.mp b) (num n) true=some (.dR [.agg [str fl,num ty,bl lb,num kd],bl ok])∧fl.size≤1048576∧(-1≤kd∧kd≤100) ∧
   ((ok=true∧mQ n=some ⟨fl,ty,lb,kd⟩)∨(ok=false∧mQ n=none)):=by
 rcases Je af7 (k:=.int .i64 n) ⟨n,rfl⟩ rfl hm (fun e he=>(Bv e he).1) (z:=.agg [str ⟨#[]⟩,num 0,bl false,num 0]) kr true with ⟨h1,h2⟩|⟨e,he,hk,h1⟩
 ·refine⟨_,_,_,_,_,h1,by decide,by decide,.inr ⟨rfl,?_⟩⟩;have dy:∀ j:Int,(∃ e∈gW,e.1 = .int .i64 j)→n≠j:=fun j ⟨e,he,hj⟩ hn=>h2 e he (by rw [hj,hn]);unfold mQ
  rw [if_neg (dy 0 ⟨sM,by simp [gW],rfl⟩),if_neg (dy 1 ⟨tK,by simp [gW],rfl⟩),if_neg (dy 2 ⟨uU,by simp [gW],rfl⟩),if_neg (dy 3 ⟨wI,by simp [gW],rfl⟩),if_neg (dy 4 ⟨xH,by simp [gW],rfl⟩),if_neg (dy 5 ⟨yY,by simp [gW],rfl⟩),
   if_neg (dy 6 ⟨Bt,by simp [gW],rfl⟩),if_neg (dy 7 ⟨Cu,by simp [gW],rfl⟩),if_neg (dy 8 ⟨EU,by simp [gW],rfl⟩),if_neg (dy 9 ⟨HH,by simp [gW],rfl⟩),if_neg (dy 10 ⟨uV,by simp [gW],rfl⟩),if_neg (dy 11 ⟨xI,by simp [gW],rfl⟩),
   if_neg (dy 12 ⟨Bu,by simp [gW],rfl⟩),if_neg (dy 13 ⟨EV,by simp [gW],rfl⟩),if_neg (dy 14 ⟨JY,by simp [gW],rfl⟩),if_neg (dy 15 ⟨R4,by simp [gW],rfl⟩),if_neg (dy 16 ⟨abk,by simp [gW],rfl⟩)]
 unfold gW at he;simp only [b8,ef,or_false] at he;rcases he with rfl|rfl|rfl|rfl|rfl|rfl|rfl|rfl|rfl|rfl|rfl|rfl|rfl|rfl|rfl|rfl|rfl <;> (cases hk;exact⟨_,_,_,_,_,h1,by decide,by decide,.inl ⟨rfl,rfl⟩⟩)
section
theorem abl (n:Nat):(65536<(n:Int))=(65536<n):=by rw [eq_iff_iff];omega
theorem Dm {α:Type} (f:α→Int) {l:List α} {i:Nat} {u:α} (h:l[i]?=some u):er f (l.drop i)=if f u=0 then er f (l.drop (i+1)) else f u:=by have h1:=aA.1 h;rw [dW h1.1,h1.2];rfl
theorem NY (x:Lb):Cn 191 [cq x] (str x.name):=by refine jq tt_ok [] 5 [.tmp 2] (fn:=Tryz.f191) Tryz.func191 rfl Tryz.call191 ⟨rfl,rfl,by simp⟩ fun K hK=>?_;simp only [cP,cq,aD];simp only [go_sem];exact hK _ rfl
section
attribute [local go_sem] ax aq cq aD aw aC
theorem R5 (g:FuncId) (l:List Lb) (hg:∀ x∈l,Cn g [cq x] (str (Lb.name x))) (hl:l.length≤1048576):Cn 190 [.slice (l.map cq),.sc (.func (.func g) #[] #[])] (num (kA (l.map Lb.name))):=by
 refine jq tt_ok [] 33 [.tmp 4] (fn:=Tryz.f190) Tryz.func190 rfl Tryz.call190 ⟨rfl,rfl,by simp⟩ fun K hK=>?_;simp only [go_sem];refine iz tt_ok [] [5] 0 [0,1] (fun vs=>((l.length:Int)-Go.Eng.intOf (vs.headD .undef)).toNat) (fun vs=>∃ i:Nat,vs=[num i]∧1≤i∧(1<i→i≤l.length)∧kA (l.map Lb.name)=kA ((l.map Lb.name).drop (i-1))) (by omega) (by simp only [go_sem]) (⟨1,rfl,ay _,fun h=>absurd h (by decide),rfl⟩) fun vs hI Z1 fh=>?_;obtain⟨i,rfl,hi,hle,hinv⟩:=hI;simp only [go_sem];refine cC (fun lG=>?_) (fun lG=>?_);·(have bQ:i<l.length:=by simpa using lG);obtain⟨x,hx⟩:∃ x,l[i-1]?=some x:=⟨_,au (by omega)⟩;obtain⟨y,hy⟩:∃ y,l[i]?=some y:=⟨_,au bQ⟩;have hw:=bN i (by omega);(have pK:IntKind.i64.wrap ((i:Int)-1)=((i-1:Nat):Int):=by rw [IntWalk.i64_in _ (by omega)];omega);have kN:kA ((l.map Lb.name).drop (i-1))=if Fm (Lb.name x) (Lb.name y)=0 then kA ((l.map Lb.name).drop i) else Fm (Lb.name x) (Lb.name y):=RT hi (by rw [aq,hx];rfl) (by rw [aq,hy];rfl);simp only [hw,pK,hx,hy,go_sem];refine ga tt_ok cB [pN,pN,pN,pN,pR,pR,pN,pN,pN,pN,pR,pR,pN,pN,pN] 0 kr ?_;simp only [hw,pK,hx,hy,go_sem];refine Jn (by have h:=hg x (aE hx);simp only [cP,cq,aD] at h;exact h) ?_;simp only [hw,pK,hx,hy,go_sem];refine Jn (by have h:=hg y (aE hy);simp only [cP,cq,aD] at h;exact h) ?_;simp only [hw,pK,hx,hy,go_sem];refine Jn (Bn _ _) ?_;simp only [hw,pK,hx,hy,go_sem];refine cC (fun qD=>?_) (fun qD=>?_);(·(have cX:5=kA (l.map Lb.name):=by rw [hinv,kN,afY (of_decide_eq_true qD)];rfl);simp only [hw,pK,hx,hy,go_sem];exact hK _ (congrArg num cX));simp only [hw,pK,hx,hy,go_sem];refine cC (fun xG=>?_) (fun xG=>?_);(·(have cX:1=kA (l.map Lb.name):=by rw [hinv,kN,afZ (of_decide_eq_true xG)];rfl);simp only [hw,pK,hx,hy,go_sem];exact hK _ (congrArg num cX));have rl:Fm (Lb.name x) (Lb.name y)=0:=af0 (of_decide_eq_false qD) (of_decide_eq_false xG);simp only [hw,pK,hx,hy,go_sem];refine fh _ (oU (by omega) (by simp only [hw,pK,hx,hy,go_sem]) ?_ ?_) <;> simp only [lS,lk,reduceIte,zE];(·exact⟨i+1,rfl,by omega,fun _=>bQ,by rw [hinv,kN,if_pos rl];rfl⟩);simp only [Go.Eng.intOf,cg];omega
 have jL:¬ i<l.length:=by simpa using lG
 have cX:(0:Int)=kA (l.map Lb.name):=by rw [hinv];exact (LV (by rw [ax];omega)).symm
 simp only [go_sem];exact hK _ (congrArg num cX)
end
section
attribute [local go_sem] aS aW ax dZ
theorem HI (hG:ba.g=some 0) (b0 b1 b3 b4 b5 b6:bf) (hb:∀ n,7≤n→aL n b0=true∧aL n b1=true∧aL n b3=true∧aL n b4=true∧aL n b5=true∧aL n b6=true) (x:Ex) (hw:x.wt≤1048576):∃ r_,(fun w=>w=num (wX x)) r_∧bo aj 105 [br x,.mp 2] ([b0,b1,.map gW 17,b3,b4,b5,b6]) r_ ([b0,b1,.map gW 17,b3,b4,b5,b6]):=by
 refine Na tt_ok [4,11] 77 [.tmp 4] (fn:=Tryz.f105) Tryz.func105 rfl Tryz.call105 ⟨rfl,rfl,by simp⟩ fun K hK=>?_;have kZ:=fun n h=>(hb n h).1;have np:=fun n h=>(hb n h).2.1;have jw:=fun n h=>(hb n h).2.2.1;have tL:=fun n h=>(hb n h).2.2.2.1;have tM:=fun n h=>(hb n h).2.2.2.2.1;have tN:=fun n h=>(hb n h).2.2.2.2.2;have fg:∀ n,(gW.all fun e=>aI n e.2.2)=true:=fun n=>Bv.below n;have zK:=x.Nr;have hml:=x.mod_lt;have hwb:=x.hH;have WQ:=x.ED;simp only [bn,aP];obtain⟨fl,ty,kd,lb,ok,fH,hf,iO,LW⟩:=NW (mem:=[b0,b1,.map gW 17,b3,b4,b5,b6,.box [num x.kind,str x.mod,str x.name,str x.text,num x.num,.slice (cM x.types),.slice (x.labels.map cq),.slice (nO x.kids)]]) (b:=2) rfl x.kind;have tH:aj.underlying 9=some .string:=kr;have sl:∀ (a:ByteArray) (ty:TypeId),ko aj (Builtin.len_ #[9] ty) [.sc (.string a)]=some (num a.size):=fun a ty=>kD (P:=aj) (tt:=tt) (T:=9) a tH ty;simp only [↓kZ,↓np,↓jw,↓tL,↓tM,↓tN,fg,zC,fH,sl,go_sem];refine cC (fun vX=>?_) (fun vX=>?_);·(have cX:1=wX x:=by (rcases LW with h|h);(·rw [h.1] at vX;cases vX);unfold wX;rw [h.2]);simp only [↓kZ,↓np,↓jw,↓tL,↓tM,↓tN,fg,zC,fH,sl,go_sem];exact hK _ _ ⟨congrArg num cX,rfl⟩
 have YH:mQ x.kind=some ⟨fl,ty,lb,kd⟩:=by (rcases LW with h|h);(·exact h.2);rw [h.1] at vX;cases vX
 have Cf:wX x=(if qV x fl ty lb kd=false then 1 else if 32<x.labels.length∨8<x.types.length∨65536<x.text.size then 7 else if qC x fl=true then 4 else if kA (x.labels.map Lb.name)≠0 then kA (x.labels.map Lb.name) else if x.kind=15∧x.name=x.text then 5 else er mI x.own):=by unfold wX;rw [YH]
 simp only [↓kZ,↓np,↓jw,↓tL,↓tM,↓tN,fg,zC,fH,sl,go_sem];refine ep (by have h:=V3 hG x fl ty kd lb hf (by omega) iO;rw [bn] at h;simp only [aP] at h;exact h) ?_;simp only [↓kZ,↓np,↓jw,↓tL,↓tM,↓tN,fg,zC,fH,sl,go_sem];refine cC (fun JZ=>?_) (fun JZ=>?_);·(have cX:1=wX x:=by rw [Cf,if_pos (by simpa using JZ)]);simp only [↓kZ,↓np,↓jw,↓tL,↓tM,↓tN,fg,zC,fH,sl,go_sem];exact hK _ _ ⟨congrArg num cX,rfl⟩
 have qT:qV x fl ty lb kd=true:=by simpa using JZ
 rw [qT,if_neg (by simp)] at Cf;simp only [↓kZ,↓np,↓jw,↓tL,↓tM,↓tN,fg,zC,fH,sl,go_sem];refine mC tt_ok [4,11] [27] 9 [2,4,5,18] (fun vs=>vs=[bl (decide (32<x.labels.length)||decide (8<x.types.length)||decide (65536<x.text.size))]) (fun Z1 fh=>?_) ?_;·simp only [↓kZ,↓np,↓jw,↓tL,↓tM,↓tN,fg,zC,fH,sl,go_sem];refine yP tt_ok ?_;repeat' (simp only [↓kZ,↓np,↓jw,↓tL,↓tM,↓tN,fg,zC,fH,sl,go_sem];first|refine cC (fun hg=>?_) (fun hg=>?_)|(refine fh _ (mN (by omega) (by simp only [↓kZ,↓np,↓jw,↓tL,↓tM,↓tN,fg,zC,fH,sl,go_sem]) ?_);simp only [lS,lk,reduceIte,zE];exact congrArg (fun b=>[bl b]) (by clear hK fh;clear Cf LW fH;simp_all [X3,af2,abl] <;> (intros;omega))))
 intro vs hJ;obtain rfl:=hJ;simp only [↓kZ,↓np,↓jw,↓tL,↓tM,↓tN,fg,zC,fH,sl,go_sem];refine cC (fun qD=>?_) (fun qD=>?_);·(have iw:32<x.labels.length∨8<x.types.length∨65536<x.text.size:=by simpa [or_assoc] using qD);(have cX:7=wX x:=by rw [Cf,if_pos iw]);simp only [↓kZ,↓np,↓jw,↓tL,↓tM,↓tN,fg,zC,fH,sl,go_sem];exact hK _ _ ⟨congrArg num cX,rfl⟩
 have iw:¬ (32<x.labels.length∨8<x.types.length∨65536<x.text.size):=by intro h;(have h2:(decide (32<x.labels.length)||decide (8<x.types.length)||decide (65536<x.text.size))=true:=by simpa [or_assoc] using h);rw [qD] at h2;cases h2
 rw [if_neg iw] at Cf;simp only [↓kZ,↓np,↓jw,↓tL,↓tM,↓tN,fg,zC,fH,sl,go_sem];refine ep (by have h:=HG hG x fl ty kd lb hf (by omega) (by omega);rw [bn] at h;simp only [aP] at h;exact h) ?_;simp only [↓kZ,↓np,↓jw,↓tL,↓tM,↓tN,fg,zC,fH,sl,go_sem];refine cC (fun R3=>?_) (fun R3=>?_);·(have cX:4=wX x:=by rw [Cf,if_pos R3]);simp only [↓kZ,↓np,↓jw,↓tL,↓tM,↓tN,fg,zC,fH,sl,go_sem];exact hK _ _ ⟨congrArg num cX,rfl⟩
 rw [if_neg (by rw [R3];simp)] at Cf;simp only [↓kZ,↓np,↓jw,↓tL,↓tM,↓tN,fg,zC,fH,sl,go_sem];refine ep (R5 191 x.labels (fun l _=>NY l) (by omega)) ?_;simp only [↓kZ,↓np,↓jw,↓tL,↓tM,↓tN,fg,zC,fH,sl,go_sem];refine cC (fun abm=>?_) (fun abm=>?_);·(have dy:kA (x.labels.map Lb.name)≠0:=by simpa using abm);(have cX:kA (x.labels.map Lb.name)=wX x:=by rw [Cf,if_pos dy]);simp only [↓kZ,↓np,↓jw,↓tL,↓tM,↓tN,fg,zC,fH,sl,go_sem];exact hK _ _ ⟨congrArg num cX,rfl⟩
 have al9:kA (x.labels.map Lb.name)=0:=by simpa using abm
 rw [if_neg (by simp [al9])] at Cf;simp only [↓kZ,↓np,↓jw,↓tL,↓tM,↓tN,fg,zC,fH,sl,go_sem];refine mC tt_ok [4,11] [63] 9 [2,4,18,27,44,52] (fun vs=>vs=[bl (decide (x.kind=15)&&decide (x.name=x.text))]) (fun Z2 zv=>?_) ?_;·simp only [↓kZ,↓np,↓jw,↓tL,↓tM,↓tN,fg,zC,fH,sl,go_sem];refine yP tt_ok ?_;repeat' (simp only [↓kZ,↓np,↓jw,↓tL,↓tM,↓tN,fg,zC,fH,sl,go_sem];first|refine cC (fun hg=>?_) (fun hg=>?_)|(refine zv _ (mN (by omega) (by simp only [↓kZ,↓np,↓jw,↓tL,↓tM,↓tN,fg,zC,fH,sl,go_sem]) ?_);simp only [lS,lk,reduceIte,zE];exact congrArg (fun b=>[bl b]) (by clear hK zv;clear Cf LW fH;simp_all)))
 intro vs hJ;obtain rfl:=hJ;simp only [↓kZ,↓np,↓jw,↓tL,↓tM,↓tN,fg,zC,fH,sl,go_sem];refine cC (fun JJ=>?_) (fun JJ=>?_);·(have cX:5=wX x:=by rw [Cf,if_pos (by simpa using JJ)]);simp only [↓kZ,↓np,↓jw,↓tL,↓tM,↓tN,fg,zC,fH,sl,go_sem];exact hK _ _ ⟨congrArg num cX,rfl⟩
 rw [if_neg (by simpa using JJ)] at Cf;simp only [↓kZ,↓np,↓jw,↓tL,↓tM,↓tN,fg,zC,fH,sl,go_sem];refine ep (by have h:=Lz x (by have:=x.wo;omega);rw [bn] at h;simp only [aP] at h;exact⟨_,rfl,h⟩) ?_;have hnl:=ct Ty.size Ty.size_pos x.own;have hlen:(cM x.own).length=x.own.length:=aS _;have sr:∀ u∈x.own,u.wt<x.wt:=fun u hu=>Ex.aaG hu;obtain⟨ps,oW⟩:∃ ps,ps=x.own:=⟨_,rfl⟩;rw [← oW] at hnl sr WQ ⊢;simp only [↓kZ,↓np,↓jw,↓tL,↓tM,↓tN,fg,zC,fH,sl,go_sem];refine iz tt_ok [4,11] [67] 9 [18,27,44,52,63,65,66] (fun vs=>((ps.length:Int)-Go.Eng.intOf (vs.headD .undef)).toNat) (fun vs=>∃ i:Nat,vs=[num i]∧i≤ps.length∧er mI ps=er mI (ps.drop i)) (by omega) (by simp only [↓kZ,↓np,↓jw,↓tL,↓tM,↓tN,fg,zC,fH,sl,go_sem]) (⟨0,rfl,ck _,rfl⟩) fun vs hI Z3 OV=>?_;obtain⟨i,rfl,hi,hinv⟩:=hI;simp only [↓kZ,↓np,↓jw,↓tL,↓tM,↓tN,fg,zC,fH,sl,go_sem];refine cC (fun abn=>?_) (fun abn=>?_);·(have bQ:i<ps.length:=by simpa using abn);obtain⟨u,hu⟩:∃ u,ps[i]?=some u:=⟨_,au bQ⟩;have lQ:=bN i (by omega);have uo:=Dm mI hu;simp only [↓kZ,↓np,↓jw,↓tL,↓tM,↓tN,fg,zC,lQ,dF,hu,aT,aD,fH,sl,go_sem];refine ep (by have h:=qE hG u (by have:=u.gA;have:=sr u (aE hu);omega) (Ty.afw (by have:=sr u (aE hu);omega));rw [aT] at h;simp only [aD] at h;exact⟨_,rfl,h⟩) ?_;simp only [↓kZ,↓np,↓jw,↓tL,↓tM,↓tN,fg,zC,lQ,dF,hu,aT,aD,fH,sl,go_sem];refine cC (fun abo=>?_) (fun abo=>?_);(·(have dy:mI u≠0:=by simpa using abo);(have cX:mI u=wX x:=by rw [Cf,← oW,hinv,uo,if_neg dy]);simp only [↓kZ,↓np,↓jw,↓tL,↓tM,↓tN,fg,zC,lQ,dF,hu,aT,aD,fH,sl,go_sem];exact hK _ _ ⟨congrArg num cX,rfl⟩);(have hz:mI u=0:=by simpa using abo);simp only [↓kZ,↓np,↓jw,↓tL,↓tM,↓tN,fg,zC,lQ,dF,hu,aT,aD,fH,sl,go_sem];refine OV _ (oU (by omega) (by simp only [↓kZ,↓np,↓jw,↓tL,↓tM,↓tN,fg,zC,lQ,dF,hu,aT,aD,fH,sl,go_sem]) ?_ ?_) <;> simp only [lS,lk,reduceIte,zE];(·exact⟨i+1,rfl,bQ,by rw [hinv,uo,if_pos hz]⟩);simp only [Go.Eng.intOf,cg];omega
 have jL:¬ i<ps.length:=by simpa using abn
 have cX:0=wX x:=by rw [Cf,← oW,hinv,eH (by omega)];rfl
 simp only [↓kZ,↓np,↓jw,↓tL,↓tM,↓tN,fg,zC,fH,sl,go_sem];exact hK _ _ ⟨congrArg num cX,rfl⟩
end
end
theorem ama (B0 B1:bf):dB aj [B0,B1,.map [] 0] 144 (.mp 2) (num 0) (.agg [str ⟨#[98]⟩,num 0,bl false,num 0])=some [B0,B1,.map [sM] 1]:=kr
theorem amb (B0 B1:bf):dB aj [B0,B1,.map [sM] 1] 144 (.mp 2) (num 1) (.agg [str ⟨#[120]⟩,num 0,bl false,num 0])=some [B0,B1,.map [sM,tK] 2]:=kr
theorem amc (B0 B1:bf):dB aj [B0,B1,.map [sM,tK] 2] 144 (.mp 2) (num 2) (.agg [str ⟨#[98]⟩,num 0,bl false,num 0])=some [B0,B1,.map [sM,tK,uU] 3]:=kr
theorem amd (B0 B1:bf):dB aj [B0,B1,.map [sM,tK,uU] 3] 144 (.mp 2) (num 3) (.agg [str ⟨#[110]⟩,num 0,bl false,num 0])=some [B0,B1,.map [sM,tK,uU,wI] 4]:=kr
theorem ame (B0 B1:bf):dB aj [B0,B1,.map [sM,tK,uU,wI] 4] 144 (.mp 2) (num 4) (.agg [str ⟨#[109,110]⟩,num (-1),bl false,num 0])=some [B0,B1,.map [sM,tK,uU,wI,xH] 5]:=kr
theorem amf (B0 B1:bf):dB aj [B0,B1,.map [sM,tK,uU,wI,xH] 5] 144 (.mp 2) (num 5) (.agg [str ⟨#[]⟩,num 0,bl true,num 0])=some [B0,B1,.map [sM,tK,uU,wI,xH,yY] 6]:=kr
theorem amg (B0 B1:bf):dB aj [B0,B1,.map [sM,tK,uU,wI,xH,yY] 6] 144 (.mp 2) (num 6) (.agg [str ⟨#[110]⟩,num 0,bl false,num 1])=some [B0,B1,.map [sM,tK,uU,wI,xH,yY,Bt] 7]:=kr
theorem amh (B0 B1:bf):dB aj [B0,B1,.map [sM,tK,uU,wI,xH,yY,Bt] 7] 144 (.mp 2) (num 7) (.agg [str ⟨#[110]⟩,num 0,bl false,num 1])=some [B0,B1,.map [sM,tK,uU,wI,xH,yY,Bt,Cu] 8]:=kr
theorem ami (B0 B1:bf):dB aj [B0,B1,.map [sM,tK,uU,wI,xH,yY,Bt,Cu] 8] 144 (.mp 2) (num 8) (.agg [str ⟨#[116,111]⟩,num 0,bl true,num 1])=some [B0,B1,.map [sM,tK,uU,wI,xH,yY,Bt,Cu,EU] 9]:=kr
theorem amj (B0 B1:bf):dB aj [B0,B1,.map [sM,tK,uU,wI,xH,yY,Bt,Cu,EU] 9] 144 (.mp 2) (num 9) (.agg [str ⟨#[]⟩,num 0,bl true,num 1])=some [B0,B1,.map [sM,tK,uU,wI,xH,yY,Bt,Cu,EU,HH] 10]:=kr
theorem af8 (B0 B1:bf):dB aj [B0,B1,.map [sM,tK,uU,wI,xH,yY,Bt,Cu,EU,HH] 10] 144 (.mp 2) (num 10) (.agg [str ⟨#[110]⟩,num 0,bl false,num 2])=some [B0,B1,.map [sM,tK,uU,wI,xH,yY,Bt,Cu,EU,HH,uV] 11]:=kr
theorem af9 (B0 B1:bf):dB aj [B0,B1,.map [sM,tK,uU,wI,xH,yY,Bt,Cu,EU,HH,uV] 11] 144 (.mp 2) (num 11) (.agg [str ⟨#[]⟩,num 1,bl false,num 1])=some [B0,B1,.map [sM,tK,uU,wI,xH,yY,Bt,Cu,EU,HH,uV,xI] 12]:=kr
theorem aga (B0 B1:bf):dB aj [B0,B1,.map [sM,tK,uU,wI,xH,yY,Bt,Cu,EU,HH,uV,xI] 12] 144 (.mp 2) (num 12) (.agg [str ⟨#[]⟩,num 1,bl false,num 3])=some [B0,B1,.map [sM,tK,uU,wI,xH,yY,Bt,Cu,EU,HH,uV,xI,Bu] 13]:=kr
theorem agb (B0 B1:bf):dB aj [B0,B1,.map [sM,tK,uU,wI,xH,yY,Bt,Cu,EU,HH,uV,xI,Bu] 13] 144 (.mp 2) (num 13) (.agg [str ⟨#[118]⟩,num 1,bl true,num 1])=some [B0,B1,.map [sM,tK,uU,wI,xH,yY,Bt,Cu,EU,HH,uV,xI,Bu,EV] 14]:=kr
theorem agc (B0 B1:bf):dB aj [B0,B1,.map [sM,tK,uU,wI,xH,yY,Bt,Cu,EU,HH,uV,xI,Bu,EV] 14] 144 (.mp 2) (num 14) (.agg [str ⟨#[]⟩,num 1,bl false,num (-1)])=some [B0,B1,.map [sM,tK,uU,wI,xH,yY,Bt,Cu,EU,HH,uV,xI,Bu,EV,JY] 15]:=kr
theorem agd (B0 B1:bf):dB aj [B0,B1,.map [sM,tK,uU,wI,xH,yY,Bt,Cu,EU,HH,uV,xI,Bu,EV,JY] 15] 144 (.mp 2) (num 15) (.agg [str ⟨#[110,120]⟩,num 1,bl false,num 3])=some [B0,B1,.map [sM,tK,uU,wI,xH,yY,Bt,Cu,EU,HH,uV,xI,Bu,EV,JY,R4] 16]:=kr
theorem X5 (B0 B1:bf):dB aj [B0,B1,.map [sM,tK,uU,wI,xH,yY,Bt,Cu,EU,HH,uV,xI,Bu,EV,JY,R4] 16] 144 (.mp 2) (num 16) (.agg [str ⟨#[110]⟩,num 0,bl false,num (-1)])=some [B0,B1,.map [sM,tK,uU,wI,xH,yY,Bt,Cu,EU,HH,uV,xI,Bu,EV,JY,R4,abk] 17]:=kr
theorem R6 (B0 B1:bf) (hb:∀ n,2≤n→aL n B0=true∧aL n B1=true):bo aj 103 [] [B0,B1] (.mp 2) [B0,B1,.map gW 17]:=by refine nI tt_ok (fn:=Tryz.f103) 3 (by simp only [af,ai];decide) Tryz.func103 rfl Tryz.call103 ?_;simp only [cP,cK,Tryz.ntmps103,af,ai,zA,zF,aG,aH];refine iy tt_ok 20 [2] [] rfl rfl fun K hK=>?_;simp only [cP,go_sem];refine hK _ _ rfl ?_;simp only [zq,zA,zE];refine iy tt_ok 20 (2::(rp 19 1 [])) [] rfl rfl fun K hK=>?_;refine cp 7 fun K1 eZ=>?_;simp only [AF,ama,amb,amc,go_sem];refine eZ _ ?_;refine cp 7 fun K1 eZ=>?_;simp only [AF,amd,ame,amf,go_sem];refine eZ _ ?_;refine cp 7 fun K1 eZ=>?_;simp only [AF,amg,amh,ami,amj,go_sem];refine eZ _ ?_;refine cp 7 fun K1 eZ=>?_;simp only [AF,af8,af9,aga,go_sem];refine eZ _ ?_;refine cp 7 fun K1 eZ=>?_;simp only [AF,agb,agc,agd,X5,go_sem];refine eZ _ ?_;simp only [AF,X5,go_sem];refine hK _ _ rfl ?_;simp only [zq,zA,zE];refine bE ⟨.inl rfl,rfl,rfl,?_,rfl⟩;have h1:=hb 3 (by omega);have h2:=Bv.below 3;show (aL 3 B0&&(aL 3 B1&&((gW.all fun e=>aI 3 e.2.2)&&true)))=true;rw [h1.1,h1.2,h2];rfl
theorem abp (e:Ex):wz e=if decide (4096<(e.size:Int))||decide (32<(e.depth:Int)) then 7 else er wX e.nodes:=by unfold wz;by_cases h1:4096<e.size <;> by_cases h2:32<e.depth <;> simp [h1,h2] <;> (intros;omega)
theorem wJ (hG:ba.g=some 0) (e:Ex) (he:e.wt≤1048576):bJ aj 42 [br e] (num (wz e)):=by
 have hbw:=e.hH;have h18:=Dd e (by omega);have h57:=JC e.dd e (ay _) (by omega);have h53:=fun B0 B1 B2 B3 h=>He e [B0,B1,B2,B3] h;have hP:∀ v∈e.nodes,v.wt≤1048576:=fun v hv=>by have:=Ex.sE hv;omega
 refine iN tt_ok (fn:=Tryz.f42) Tryz.func42 rfl Tryz.call42 ?_;simp only [cP,cK,Tryz.ntmps42,af,ai,zA,zF,aG,aH];rw [bn] at h18 h57 h53 ⊢;simp only [aP] at h18 h57 h53 ⊢;refine ak tt_ok fun K hK=>?_;simp only [go_sem];refine hK _ ?_;refine bc ?_;have res:wz e=if decide (4096<(e.size:Int))||decide (32<(e.depth:Int)) then 7 else er wX e.nodes:=abp e;cases c1:decide (4096<(e.size:Int)) with|true =>rw [c1] at res;refine ak tt_ok fun K hK=>?_;simp only [c1,go_sem];refine .inl ⟨_,_,by simp only [c1,go_sem,az],h18,?_⟩;(try simp only [c1,go_sem]);refine hK _ ?_;refine aO rfl ?_;refine ak tt_ok fun K hK=>?_;simp only [go_sem];refine hK _ ?_;refine bE ⟨.inl rfl,?_⟩;rw [res];rfl|false =>rw [c1] at res;cases c2:decide (32<(e.depth:Int)) with|true =>rw [c2] at res;refine ak tt_ok fun K hK=>?_;simp only [c1,go_sem];refine .inl ⟨_,_,by simp only [c1,go_sem,az],h18,?_⟩;(try simp only [c1,go_sem]);refine .inl ⟨_,_,by simp only [c2,go_sem,az],h57,?_⟩;(try simp only [c2,go_sem]);refine hK _ ?_;refine aO rfl ?_;refine ak tt_ok fun K hK=>?_;simp only [go_sem];refine hK _ ?_;refine bE ⟨.inl rfl,?_⟩;rw [res];rfl|false =>rw [c2] at res;refine ak tt_ok fun K hK=>?_;simp only [c1,go_sem];refine .inl ⟨_,_,by simp only [c1,go_sem,az],h18,?_⟩;(try simp only [c1,go_sem]);refine .inl ⟨_,_,by simp only [c2,go_sem,az],h57,?_⟩;(try simp only [c2,go_sem]);refine hK _ ?_;refine aO rfl (bZ ?_);show dS _ _ _ _ _ _;refine ak tt_ok fun K hK=>?_;simp only [go_sem];(refine .inr <| .inl ⟨_,_,R6 _ _ (fun n hn=>⟨rfl,rfl⟩),?_⟩);(try simp only [go_sem]);refine hK _ ?_;refine bc ?_;refine ak tt_ok fun K hK=>?_;simp only [go_sem];(refine .inr <| .inl ⟨_,_,h53 _ _ _ _ rfl,?_⟩);(try simp only [go_sem]);refine hK _ ?_;refine bC (A9 (t:=e) (B:=1048576) (fun s:Int=>[.box (aP e),.box [num s],.map gW 17,.box [.mp 2],.box (aP e)]) 0 5 4 rfl (fun _=>rfl) (by omega) (fun _=>rfl) (fun _=>rfl) rfl rfl rfl (fun s u=>if decide (wX u=0)=true then (s,none) else (wX u,some .ret)) (by omega) (by omega) (fun v=>v.wt≤1048576) hP ?_ ?_);(·intro s u hu hm l LR LB hLR hLB;obtain⟨_,rfl,hn⟩:=HI hG (.box (aP e)) (.box [num s]) (.box [.mp 2]) (.box (aP e)) LB (.box (aP u)) (fun n hn=>⟨rfl,rfl,by simp only [aL,cI,dM,aI,aU,decide_eq_true_eq];omega,rfl,yl (by omega) hLB,rfl⟩) u hm;rw [bn] at hn ⊢;simp only [aP] at hn;simp only [cP,om,aP,mb,ma];refine aR tt_ok fun K hK=>?_;simp only [go_sem];refine hK _ ?_;refine⟨rfl,rfl,bC ?_⟩;simp only [mb,ma];refine ak tt_ok fun K hK=>?_;simp only [go_sem];(refine .inr <| .inl ⟨_,_,hn,?_⟩);(try simp only [go_sem]);refine hK _ ?_;refine bc ?_;cases c3:decide (wX u=0) with|true =>refine aR tt_ok fun K hK=>?_;simp only [c3,go_sem];refine hK _ ?_;refine aO rfl (bZ ?_);exact⟨rfl,rfl,rfl⟩|false =>refine aR tt_ok fun K hK=>?_;simp only [c3,go_sem];refine hK _ ?_;refine aO rfl ?_;refine ak tt_ok fun K hK=>?_;simp only [go_sem];refine hK _ ?_;exact bE ⟨rfl,rfl,rfl⟩);rw [sL];simp only [cE,bu,if_false] at res;rw [res];cases c4:decide (er wX e.nodes=0) with|true =>have e0:er wX e.nodes=0:=of_decide_eq_true c4;simp only [if_true];show dS _ _ _ _ _ _;refine ak tt_ok fun K hK=>?_;simp only [go_sem];refine hK _ ?_;refine bE ⟨.inl rfl,?_⟩;rw [e0];rfl|false =>simp only [bu,if_false];exact bE ⟨.inl rfl,rfl⟩
section
def lJ (t:Ty):Bool:=t.nodes.all fun u=>!decide (u.kind=9) && !ek u.mod
theorem abq (t:Ty):lJ t=(!decide (t.kind=9) && !ek t.mod&&t.parts.all lJ):=by unfold lJ;rw [t.dU,cI,auC]
def plN (y:Ex):Bool:=decide (y.kind=4)&&(ek y.mod||decide (y.mod=⟨#[]⟩)&&decide ((y.types.length:Int)=0))
def tr (x:Ex):Bool:=x.nodes.all fun y=>!plN y&&(y.types++y.labels.map Lb.ty).all lJ
theorem abr (x:Ex):tr x=(!plN x&&(x.types++x.labels.map Lb.ty).all lJ&&x.kids.all tr):=by unfold tr;rw [x.dU,cI,auC]
theorem xJ {α:Type} (p:α→Bool) (l:List α):(l.any fun x=>!p x) = !l.all p:=by rw [List.not_all_eq_any_not]
theorem tu {α:Type} (g:α→Nat) (h:∀ a,1≤g a):∀ l:List α,l.length≤aM g l
 | []=>ay _
 | a :: r=>by rw [aM,af];have:=tu g h r;have:=h a;omega
def NZ (t:Ty):Prop:=Cn 36 [bk t] (bl (lJ t))
def PlX (x:Ex):Prop:=Cn 43 [br x] (bl (tr x))
theorem wK {t:Ty} (h:NZ t):Cn 36 [.agg [num t.kind,str t.mod,str t.name,.slice (t.args.map bk),.slice (t.bA.map dj)]] (bl (lJ t)):=by unfold NZ at h;simp only [aT,aD,aQ,bD] at h;exact h
theorem R7 {x:Ex} (h:PlX x):Cn 43 [.agg [num x.kind,str x.mod,str x.name,str x.text,num x.num,.slice (x.types.map bk),.slice (x.labels.map cq),.slice (x.kids.map br)]] (bl (tr x)):=by unfold PlX at h;simp only [bn,aP,aQ,bK] at h;exact h
theorem V4 (g:FuncId) (q:Fd→Bool) (l:List Fd) (hg:∀ x∈l,Cn g [dj x] (bl (q x))) (hl:l.length≤1048576):Cn 93 [.slice (l.map dj),.sc (.func (.func g) #[] #[])] (bl (l.any q)):=by have h:=Bo g q l hg hl;rw [bD] at h;exact h
section
attribute [local go_sem] ax
theorem R8 (g:FuncId) (q:Ty→Bool) (l:List Ty) (hg:∀ x∈l,Cn g [bk x] (bl (q x))) (hl:l.length≤1048576):∃ r_,(fun w=>∃ k:Int,w=num k∧decide (0≤k)=l.any q) r_∧bJ aj 180 [.slice (l.map bk),.sc (.func (.func g) #[] #[])] r_:=by
 refine jq tt_ok [] 19 [.tmp 4] (fn:=Tryz.f180) Tryz.func180 rfl Tryz.call180 ⟨rfl,rfl,by simp⟩ fun K hK=>?_;simp only [go_sem];refine iz tt_ok [] [8] 0 [0,1,7] (fun vs=>((l.length:Int)-Go.Eng.intOf (vs.headD .undef)).toNat) (fun vs=>∃ i:Nat,vs=[num i]∧i≤l.length∧∀ j<i,∀ x,l[j]?=some x→q x=false) (by omega) (by simp only [go_sem]) (⟨0,rfl,ck _,fun j hj=>absurd hj (iH j)⟩) fun vs hI Z1 fh=>?_;obtain⟨i,rfl,hi,ff⟩:=hI;simp only [go_sem];refine cC (fun kh=>?_) (fun kh=>?_);·(have bQ:i<l.length:=by simpa using kh);have hw:=bN i (by omega);obtain⟨x,hx⟩:∃ x,l[i]?=some x:=⟨_,au bQ⟩;simp only [hw,aq,hx,aT,aD,aQ,bD,go_sem];refine ep (by have h:=hg x (aE hx);simp only [aT,aD,aQ,bD] at h;exact h) ?_;simp only [hw,aq,hx,aT,aD,aQ,bD,go_sem];refine cC (fun gh=>?_) (fun gh=>?_);(·(have cX:decide (0≤(i:Int))=l.any q:=by rw [qx hx gh];exact decide_eq_true (fP i));simp only [hw,aq,hx,aT,aD,aQ,bD,go_sem];exact hK _ ⟨_,rfl,cX⟩);simp only [hw,aq,hx,aT,aD,aQ,bD,go_sem];refine fh _ (oU (by omega) (by simp only [hw,aq,hx,aT,aD,aQ,bD,go_sem]) ?_ ?_) <;> simp only [lS,lk,reduceIte,zE];(·refine⟨i+1,rfl,bQ,fun j hj=>?_⟩;(rcases bS j i with h|h);(·exact ff j h);(obtain rfl:j=i:=by omega);intro y hy;rw [hx] at hy;cases hy;exact gh);simp only [Go.Eng.intOf,cg];omega
 have jL:¬ i<l.length:=by simpa using kh
 have cX:decide (0≤(-1:Int))=l.any q:=(any_none fun j hj=>ff j (by omega)).symm ▸ rfl;simp only [go_sem];exact hK _ ⟨_,rfl,cX⟩
end
theorem HJ (g:FuncId) (q:Ty→Bool) (l:List Ty) (hg:∀ x∈l,Cn g [bk x] (bl (q x))) (hl:l.length≤1048576):Cn 91 [.slice (l.map bk),.sc (.func (.func g) #[] #[])] (bl (l.any q)):=by refine jq tt_ok [] 9 [.tmp 4] (fn:=Tryz.f91) Tryz.func91 rfl Tryz.call91 ⟨rfl,rfl,by simp⟩ fun K hK=>?_;simp only [go_sem];refine cF (R8 g q l hg hl) ?_;rintro _ ⟨k,rfl,hk⟩;simp only [go_sem];exact hK _ (congrArg bl hk)
section
attribute [local go_sem] ax
theorem R9 (g:FuncId) (q:Lb→Bool) (l:List Lb) (hg:∀ x∈l,Cn g [cq x] (bl (q x))) (hl:l.length≤1048576):∃ r_,(fun w=>∃ k:Int,w=num k∧decide (0≤k)=l.any q) r_∧bJ aj 192 [.slice (l.map cq),.sc (.func (.func g) #[] #[])] r_:=by
 refine jq tt_ok [] 19 [.tmp 4] (fn:=Tryz.f192) Tryz.func192 rfl Tryz.call192 ⟨rfl,rfl,by simp⟩ fun K hK=>?_;simp only [go_sem];refine iz tt_ok [] [8] 0 [0,1,7] (fun vs=>((l.length:Int)-Go.Eng.intOf (vs.headD .undef)).toNat) (fun vs=>∃ i:Nat,vs=[num i]∧i≤l.length∧∀ j<i,∀ x,l[j]?=some x→q x=false) (by omega) (by simp only [go_sem]) (⟨0,rfl,ck _,fun j hj=>absurd hj (iH j)⟩) fun vs hI Z1 fh=>?_;obtain⟨i,rfl,hi,ff⟩:=hI;simp only [go_sem];refine cC (fun kh=>?_) (fun kh=>?_);·(have bQ:i<l.length:=by simpa using kh);have hw:=bN i (by omega);obtain⟨x,hx⟩:∃ x,l[i]?=some x:=⟨_,au bQ⟩;simp only [hw,aq,hx,cq,aD,aQ,bD,aw,aC,go_sem];refine ep (by have h:=hg x (aE hx);simp only [cP,cq,aD,aQ,bD] at h;exact h) ?_;simp only [hw,aq,hx,cq,aD,aQ,bD,aw,aC,go_sem];refine cC (fun gh=>?_) (fun gh=>?_);(·(have cX:decide (0≤(i:Int))=l.any q:=by rw [qx hx gh];exact decide_eq_true (fP i));simp only [hw,aq,hx,cq,aD,aQ,bD,aw,aC,go_sem];exact hK _ ⟨_,rfl,cX⟩);simp only [hw,aq,hx,cq,aD,aQ,bD,aw,aC,go_sem];refine fh _ (oU (by omega) (by simp only [hw,aq,hx,cq,aD,aQ,bD,aw,aC,go_sem]) ?_ ?_) <;> simp only [lS,lk,reduceIte,zE];(·refine⟨i+1,rfl,bQ,fun j hj=>?_⟩;(rcases bS j i with h|h);(·exact ff j h);(obtain rfl:j=i:=by omega);intro y hy;rw [hx] at hy;cases hy;exact gh);simp only [Go.Eng.intOf,cg];omega
 have jL:¬ i<l.length:=by simpa using kh
 have cX:decide (0≤(-1:Int))=l.any q:=(any_none fun j hj=>ff j (by omega)).symm ▸ rfl;simp only [go_sem];exact hK _ ⟨_,rfl,cX⟩
end
theorem Sa (g:FuncId) (q:Lb→Bool) (l:List Lb) (hg:∀ x∈l,Cn g [cq x] (bl (q x))) (hl:l.length≤1048576):Cn 107 [.slice (l.map cq),.sc (.func (.func g) #[] #[])] (bl (l.any q)):=by refine jq tt_ok [] 9 [.tmp 4] (fn:=Tryz.f107) Tryz.func107 rfl Tryz.call107 ⟨rfl,rfl,by simp⟩ fun K hK=>?_;simp only [go_sem];refine cF (R9 g q l hg hl) ?_;rintro _ ⟨k,rfl,hk⟩;simp only [go_sem];exact hK _ (congrArg bl hk)
section
attribute [local go_sem] ax
theorem Sb (g:FuncId) (q:Ex→Bool) (l:List Ex) (hg:∀ x∈l,Cn g [br x] (bl (q x))) (hl:l.length≤1048576):∃ r_,(fun w=>∃ k:Int,w=num k∧decide (0≤k)=l.any q) r_∧bJ aj 193 [.slice (l.map br),.sc (.func (.func g) #[] #[])] r_:=by
 refine jq tt_ok [] 19 [.tmp 4] (fn:=Tryz.f193) Tryz.func193 rfl Tryz.call193 ⟨rfl,rfl,by simp⟩ fun K hK=>?_;simp only [go_sem];refine iz tt_ok [] [8] 0 [0,1,7] (fun vs=>((l.length:Int)-Go.Eng.intOf (vs.headD .undef)).toNat) (fun vs=>∃ i:Nat,vs=[num i]∧i≤l.length∧∀ j<i,∀ x,l[j]?=some x→q x=false) (by omega) (by simp only [go_sem]) (⟨0,rfl,ck _,fun j hj=>absurd hj (iH j)⟩) fun vs hI Z1 fh=>?_;obtain⟨i,rfl,hi,ff⟩:=hI;simp only [go_sem];refine cC (fun kh=>?_) (fun kh=>?_);·(have bQ:i<l.length:=by simpa using kh);have hw:=bN i (by omega);obtain⟨x,hx⟩:∃ x,l[i]?=some x:=⟨_,au bQ⟩;simp only [hw,aq,hx,bn,aP,aQ,bK,go_sem];refine ep (by have h:=hg x (aE hx);simp only [bn,aP,aQ,bK] at h;exact h) ?_;simp only [hw,aq,hx,bn,aP,aQ,bK,go_sem];refine cC (fun gh=>?_) (fun gh=>?_);(·(have cX:decide (0≤(i:Int))=l.any q:=by rw [qx hx gh];exact decide_eq_true (fP i));simp only [hw,aq,hx,bn,aP,aQ,bK,go_sem];exact hK _ ⟨_,rfl,cX⟩);simp only [hw,aq,hx,bn,aP,aQ,bK,go_sem];refine fh _ (oU (by omega) (by simp only [hw,aq,hx,bn,aP,aQ,bK,go_sem]) ?_ ?_) <;> simp only [lS,lk,reduceIte,zE];(·refine⟨i+1,rfl,bQ,fun j hj=>?_⟩;(rcases bS j i with h|h);(·exact ff j h);(obtain rfl:j=i:=by omega);intro y hy;rw [hx] at hy;cases hy;exact gh);simp only [Go.Eng.intOf,cg];omega
 have jL:¬ i<l.length:=by simpa using kh
 have cX:decide (0≤(-1:Int))=l.any q:=(any_none fun j hj=>ff j (by omega)).symm ▸ rfl;simp only [go_sem];exact hK _ ⟨_,rfl,cX⟩
end
theorem Sc (g:FuncId) (q:Ex→Bool) (l:List Ex) (hg:∀ x∈l,Cn g [br x] (bl (q x))) (hl:l.length≤1048576):Cn 109 [.slice (l.map br),.sc (.func (.func g) #[] #[])] (bl (l.any q)):=by refine jq tt_ok [] 9 [.tmp 4] (fn:=Tryz.f109) Tryz.func109 rfl Tryz.call109 ⟨rfl,rfl,by simp⟩ fun K hK=>?_;simp only [go_sem];refine cF (Sb g q l hg hl) ?_;rintro _ ⟨k,rfl,hk⟩;simp only [go_sem];exact hK _ (congrArg bl hk)
theorem abt (t:Ty) (h:NZ t):Cn 92 [bk t] (bl (!lJ t)):=by refine jq tt_ok [] 6 [.tmp 2] (fn:=Tryz.f92) Tryz.func92 rfl Tryz.call92 ⟨rfl,rfl,by simp⟩ fun K hK=>?_;simp only [aT,aD,aQ,bD];simp only [go_sem];refine ep (wK h) ?_;simp only [go_sem];exact hK _ rfl
theorem abu (x:Fd) (h:NZ x.ty):Cn 94 [dj x] (bl (!lJ x.ty)):=by refine jq tt_ok [] 7 [.tmp 2] (fn:=Tryz.f94) Tryz.func94 rfl Tryz.call94 ⟨rfl,rfl,by simp⟩ fun K hK=>?_;simp only [cP,cw,aD,aQ,bD];simp only [go_sem];refine ep (wK h) ?_;simp only [go_sem];exact hK _ rfl
theorem Bw (hG:ba.g=some 0) (t:Ty) (hm:t.mod.size≤1048576) (uq:t.args.length≤1048576) (hlf:t.bA.length≤1048576) (hA:∀ u∈t.args,NZ u) (hF:∀ x∈t.bA,NZ x.ty):Cn 36 [bk t] (bl (lJ t)):=by
 refine jq tt_ok [] 21 [.tmp 2] (fn:=Tryz.f36) Tryz.func36 rfl Tryz.call36 ⟨rfl,rfl,by simp⟩ fun K hK=>?_;simp only [aT,aD,aQ,bD];have uv:=abq t;have TY:t.parts.all lJ=(!t.args.any (fun u=>!lJ u) && !t.bA.any (fun x=>!lJ x.ty)):=by unfold Ty.parts;rw [o7,xJ,xJ (fun x:Fd=>lJ x.ty),List.all_map];simp [auF]
 obtain⟨p1,KM⟩:∃ b,t.args.any (fun u=>!lJ u)=b:=⟨_,rfl⟩;obtain⟨p2,CL⟩:∃ b,t.bA.any (fun x=>!lJ x.ty)=b:=⟨_,rfl⟩;obtain⟨p3,OW⟩:∃ b,ek t.mod=b:=⟨_,rfl⟩;rw [TY,KM,CL,OW] at uv;have hAA:=HJ 92 (fun u=>!lJ u) t.args (fun u hu=>abt u (hA u hu)) uq;have hAF:=V4 94 (fun x=>!lJ x.ty) t.bA (fun x hx=>abu x (hF x hx)) hlf;rw [KM] at hAA;rw [CL] at hAF;have LX:=nz hG t.mod hm;rw [OW] at LX;simp only [go_sem];refine cC (fun Bp=>?_) (fun Bp=>?_) <;> simp only [go_sem];·exact hK _ (congrArg bl (by clear hK;rw [uv];simp_all))
 refine ep (LX) ?_;simp only [go_sem];refine cC (fun lG=>?_) (fun lG=>?_) <;> simp only [go_sem];·exact hK _ (congrArg bl (by clear hK;rw [uv];simp_all))
 refine ep (hAA) ?_;simp only [go_sem];refine cC (fun ug=>?_) (fun ug=>?_) <;> simp only [go_sem];·refine ep (hAF) ?_;simp only [go_sem];exact hK _ (congrArg bl (by clear hK;rw [uv];simp_all))
 exact hK _ (congrArg bl (by clear hK;rw [uv];simp_all))
theorem gX (hG:ba.g=some 0):∀ (N:Nat) (t:Ty),t.size≤N→t.wt≤1048576→NZ t
 | 0,t,h,_=>absurd t.size_pos (by omega)
 | N+1,t,h,hw=>by
  have hs:=t.dG
  have hp:∀ u∈t.parts,NZ u:=fun u hu=>by
   obtain⟨i,hi⟩:=bB.1 hu
   have:=bU Ty.size hi
   have h1:=t.Ba
   have h2:=bU Ty.wt hi
   exact gX hG N u (by omega) (by omega)
  have h1:=t.jE
  have h2:=tu Ty.wt (fun a=>by have:=a.jE;omega) t.args
  have h3:=tu Fd.wt (fun a=>by have:=a.jE;have:=a.ty.jE;omega) t.bA
  exact Bw hG t (by omega) (by omega) (by omega) (fun u hu=>hp u (dD _ hu)) fun x hx=>hp x.ty (eP _ (aud hx))
theorem abw (t:Ty) (h:NZ t):Cn 106 [bk t] (bl (!lJ t)):=by refine jq tt_ok [] 6 [.tmp 2] (fn:=Tryz.f106) Tryz.func106 rfl Tryz.call106 ⟨rfl,rfl,by simp⟩ fun K hK=>?_;simp only [aT,aD,aQ,bD];simp only [go_sem];refine ep (wK h) ?_;simp only [go_sem];exact hK _ rfl
theorem abx (x:Lb) (h:NZ x.ty):Cn 108 [cq x] (bl (!lJ x.ty)):=by refine jq tt_ok [] 7 [.tmp 2] (fn:=Tryz.f108) Tryz.func108 rfl Tryz.call108 ⟨rfl,rfl,by simp⟩ fun K hK=>?_;simp only [cP,cq,aD,aQ,bD];simp only [go_sem];refine ep (wK h) ?_;simp only [go_sem];exact hK _ rfl
theorem aby (x:Ex) (h:PlX x):Cn 110 [br x] (bl (!tr x)):=by refine jq tt_ok [] 6 [.tmp 2] (fn:=Tryz.f110) Tryz.func110 rfl Tryz.call110 ⟨rfl,rfl,by simp⟩ fun K hK=>?_;simp only [bn,aP,aQ,bK];simp only [go_sem];refine ep (R7 h) ?_;simp only [go_sem];exact hK _ rfl
section
attribute [local go_sem] dZ ax
theorem Bx (hG:ba.g=some 0) (x:Ex) (hm:x.mod.size≤1048576) (bQ:x.types.length≤1048576) (VR:x.labels.length≤1048576) (hlk:x.kids.length≤1048576) (hT:∀ u∈x.types,NZ u) (hL:∀ u∈x.labels,NZ u.ty) (hX:∀ k∈x.kids,PlX k):Cn 43 [br x] (bl (tr x)):=by
 refine jq tt_ok [] 39 [.tmp 2] (fn:=Tryz.f43) Tryz.func43 rfl Tryz.call43 ⟨rfl,rfl,by simp⟩ fun K hK=>?_;simp only [bn,aP,aQ,bK];have uv:=abr x;have TY:(x.types++x.labels.map Lb.ty).all lJ=(!x.types.any (fun u=>!lJ u) && !x.labels.any (fun y=>!lJ y.ty)):=by rw [o7,xJ,xJ (fun y:Lb=>lJ y.ty),List.all_map];simp [auF]
 have hpk:x.kids.all tr = !x.kids.any (fun k=>!tr k):=by rw [xJ];simp
 obtain⟨p1,KM⟩:∃ b,x.types.any (fun u=>!lJ u)=b:=⟨_,rfl⟩;obtain⟨p2,CL⟩:∃ b,x.labels.any (fun y=>!lJ y.ty)=b:=⟨_,rfl⟩;obtain⟨p3,OW⟩:∃ b,ek x.mod=b:=⟨_,rfl⟩;obtain⟨p4,V5⟩:∃ b,x.kids.any (fun k=>!tr k)=b:=⟨_,rfl⟩;rw [TY,hpk,KM,CL,V5] at uv;unfold plN at uv;rw [OW] at uv;have hAA:=HJ 106 (fun u=>!lJ u) x.types (fun u hu=>abw u (hT u hu)) bQ;have hAL:=Sa 108 (fun y=>!lJ y.ty) x.labels (fun y hy=>abx y (hL y hy)) VR;have hAX:=Sc 110 (fun k=>!tr k) x.kids (fun k hk=>aby k (hX k hk)) hlk;rw [KM] at hAA;rw [CL] at hAL;rw [V5] at hAX;have LX:=nz hG x.mod hm;rw [OW] at LX;clear TY hpk KM CL OW V5 hT hL hX;simp only [go_sem];refine cC (fun Bp=>?_) (fun Bp=>?_) <;> simp only [go_sem];·refine ep (LX) ?_;simp only [go_sem];refine cC (fun yw=>?_) (fun yw=>?_) <;> simp only [go_sem];(·exact hK _ (congrArg bl (by clear hK;rw [uv];simp_all)));refine cC (fun abz=>?_) (fun abz=>?_) <;> simp only [go_sem];(·refine cC (fun JL=>?_) (fun JL=>?_) <;> simp only [go_sem];(·exact hK _ (congrArg bl (by clear hK;rw [uv];simp_all)));refine ep (hAA) ?_;simp only [go_sem];refine cC (fun Bs=>?_) (fun Bs=>?_) <;> simp only [go_sem];(·exact hK _ (congrArg bl (by clear hK;rw [uv];simp_all)));refine ep (hAL) ?_;simp only [go_sem];refine cC (fun HK=>?_) (fun HK=>?_) <;> simp only [go_sem];(·refine ep (hAX) ?_;simp only [go_sem];exact hK _ (congrArg bl (by clear hK;rw [uv];simp_all)));exact hK _ (congrArg bl (by clear hK;rw [uv];simp_all)));refine ep (hAA) ?_;simp only [go_sem];refine cC (fun Bs=>?_) (fun Bs=>?_) <;> simp only [go_sem];(·exact hK _ (congrArg bl (by clear hK;rw [uv];simp_all)));refine ep (hAL) ?_;simp only [go_sem];refine cC (fun HK=>?_) (fun HK=>?_) <;> simp only [go_sem];(·refine ep (hAX) ?_;simp only [go_sem];exact hK _ (congrArg bl (by clear hK;rw [uv];simp_all)));exact hK _ (congrArg bl (by clear hK;rw [uv];simp_all))
 refine ep (hAA) ?_;simp only [go_sem];refine cC (fun Bs=>?_) (fun Bs=>?_) <;> simp only [go_sem];·exact hK _ (congrArg bl (by clear hK;rw [uv];simp_all))
 refine ep (hAL) ?_;simp only [go_sem];refine cC (fun HK=>?_) (fun HK=>?_) <;> simp only [go_sem];·refine ep (hAX) ?_;simp only [go_sem];exact hK _ (congrArg bl (by clear hK;rw [uv];simp_all))
 exact hK _ (congrArg bl (by clear hK;rw [uv];simp_all))
end
theorem qF (hG:ba.g=some 0):∀ (N:Nat) (x:Ex),x.size≤N→x.wt≤1048576→PlX x
 | 0,x,h,_=>absurd x.size_pos (by omega)
 | N+1,x,h,hw=>by
  have hs:=x.jt
  have h1:=x.jE
  have h2:=tu Ty.wt (fun a=>by have:=a.jE;omega) x.types
  have h3:=tu Lb.wt (fun a=>by unfold Lb.wt;omega) x.labels
  have h4:=tu Ex.wt (fun a=>by have:=a.jE;omega) x.kids
  refine Bx hG x (by omega) (by omega) (by omega) (by omega) (fun u hu=>?_) (fun u hu=>?_) fun k hk=>?_
  ·obtain⟨i,hi⟩:=bB.1 hu
   have:=bU Ty.wt hi
   exact gX hG _ u (ay _) (by omega)
  ·obtain⟨i,hi⟩:=bB.1 hu
   have:=bU Lb.wt hi
   have hl:u.wt=1+u.name.size+u.var.size+u.ty.wt:=rfl
   exact gX hG _ u.ty (ay _) (by omega)
  obtain⟨i,hi⟩:=bB.1 hk
  have:=bU Ex.wt hi
  have:=bU Ex.size hi
  exact qF hG N k (by omega) (by omega)
end
end Go.Proofs.YtfbbfmcggbapoaaGreatDoor
end
