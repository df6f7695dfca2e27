import Derived.Test.YtfbbfmcggbapoaaGreatDoorL3
import Derived.Lib.ItoaNum
import Derived.Lib.ItoaLen
import Derived.Lib.Builder
import Derived.Lib.Walk
import Derived.Lib.Small
import Derived.Laws.Externs
import Derived.Shelf.RegionOpenPlain
open Array renaming toArray_toList->cJ,toList_inj->ake
open Bool renaming and_eq_true->aG,and_true->aJ,eq_false_iff->afG,eq_iff_iff->jA,false_eq_true->bw,or_eq_true->ez,or_false->aT,or_true->aZ
open ByteArray renaming ext->avL
open Classical renaming byContradiction->awT
open Go.Proofs.Tryz renaming prog->ak
open Int renaming cast_ofNat_Int->bQ,le_refl->cn,toNat_natCast->gx,toNat_zero->bN
open List renaming all_append->mO,all_cons->cI,all_eq_true->ba,all_nil->ew,any_cons->awi,any_eq_true->u1,append_assoc->ay,append_nil->ai,cons_append->al,eq_nil_of_length_eq_zero->dn,ext_getElem?->eh,flatMap_append->qq,flatMap_cons->ag,flatMap_nil->aj,foldl_append->avQ,foldl_cons->kZ,getElem?_append_left->bz,getElem?_append_right->bm,getElem?_cons_zero->aI,getElem?_eq_some_iff->az,getElem?_map->ae,getElem?_set->cf,headD_cons->a7,length_append->ab,length_cons->af,length_map->aC,length_nil->ah,length_set->avK,length_singleton->avO,length_take->eK,map_append->fa,map_cons->bo,map_nil->dR,mem_append->ey,mem_append_left->fT,mem_append_right->gO,mem_cons->dp,mem_cons_of_mem->bZ,mem_cons_self->cP,mem_flatMap->fU,mem_iff_getElem?->br,mem_map->dS,mem_map_of_mem->aa1,mem_of_getElem?->aw,mem_or_eq_of_mem_set->awS,mem_singleton->ei,nil_append->aq,replicate_succ->aV,replicate_zero->aW,set_append_right->eR,set_cons_succ->ni,set_cons_zero->kP,take_add_one->cg,take_append_drop->ji,take_left->rW,take_length->aE,take_nil->avD,take_of_length_le->b8,take_succ_cons->AH
open Nat renaming add_sub_cancel_left->eC,le_refl->aA,le_trans->gw,sub_self->dW,sub_zero->auf,zero_add->dc,zero_le->aY
open Option renaming isNone_none->aeX,map_eq_some_iff->bp,map_some->bU,toList_some->awE
open Option.some renaming inj->mP,injEq->aD
open Prod.mk renaming injEq->dK
open UInt8 renaming le_iff_toNat_le->avU,toNat_div->avS,toNat_mod->avT
open UInt8.toNat renaming inj->av4
set_option linter.all false
set_option maxRecDepth 100000
set_option maxHeartbeats 4000000
section
namespace Go.Proofs.YtfbbfmcggbapoaaGreatDoor
open Go.Eng
variable [bJ]
open Nat renaming reduceAdd -> zA, reduceLT -> zB, reduceLeDiff -> zC, reduceMul -> zD, reduceEqDiff -> zE, reduceSub -> zF
section
section
variable {α:Type} [DecidableEq α]
def wg (kv:α->Value):Nat->List (α×V)->List (Value×Nat×V)
 | _,[]=>[]
 | n,(k,v) :: r=>(kv k,n,v) :: wg kv (n+1) r
theorem CE (kv:α->Value):∀ (g:List (α×V)) (n:Nat),(wg kv n g).length=g.length
 | [],_=>rfl
 | _ :: r,n=>by simp [wg,CE kv r (n+1)]
theorem NL (kv:α->Value):∀ (g:List (α×V)) (n i:Nat),(wg kv n g)[i]?=g[i]?.map fun e=>(kv e.1,n+i,e.2)
 | [],_,_=>rfl
 | e :: r,n,0=>rfl
 | e :: r,n,i+1=>by
  show (wg kv (n+1) r)[i]?=_
  rw [NL kv r (n+1) i,show n+1+i=n+(i+1) by omega];rfl
theorem Jw (kv:α->Value) (k:α) (v:V):∀ (g:List (α×V)) (n:Nat),wg kv n (g++[(k,v)])=wg kv n g++[(kv k,n+g.length,v)]
 | [],_=>rfl
 | e :: r,n=>by
  show (kv e.1,n,e.2) :: wg kv (n+1) (r++[(k,v)])=(kv e.1,n,e.2) :: (wg kv (n+1) r++_)
  rw [Jw kv k v r (n+1),af,show n+1+r.length=n+(r.length+1) by omega]
theorem NM (kv:α->Value) (k:α) (v:V):∀ (g:List (α×V)) (n i:Nat),i<g.length->wg kv n (g.set i (k,v))=(wg kv n g).set i (kv k,n+i,v)
 | [],_,_,h=>by simp at h
 | e :: r,n,0,_=>rfl
 | e :: r,n,i+1,h=>by
  show (kv e.1,n,e.2) :: wg kv (n+1) (r.set i (k,v))=(kv e.1,n,e.2) :: (wg kv (n+1) r).set i _
  rw [NM kv k v r (n+1) i (by simpa using h),show n+1+i=n+(i+1) by omega]
theorem NN (kv:α->Value) (p:V->Bool):∀ (g:List (α×V)) (n:Nat),((wg kv n g).all fun e=>p e.2.2)=g.all fun e=>p e.2
 | [],_=>rfl
 | _ :: r,n=>by simp [wg,NN kv p r (n+1)]
def nM (a:α):List (α×V)->Nat->Option (Nat×V)
 | [],_=>none
 | e :: r,i=>if e.1=a then some (i,e.2) else nM a r (i+1)
def getM (a:α):List (α×V)->Option V
 | []=>none
 | e :: r=>if e.1=a then some e.2 else getM a r
theorem EP (a:α):∀ (g:List (α×V)) (i:Nat),(nM a g i).map (·.2)=getM a g
 | [],_=>rfl
 | e :: r,i=>by
  unfold nM getM
  split
  ·rfl
  exact EP a r (i+1)
theorem xJ {a:α}:∀ {g:List (α×V)} {n i:Nat} {v:V},nM a g n=some (i,v)->n<=i/\g[i-n]?=some (a,v)
 | [],_,_,_,h=>by simp [nM] at h
 | e :: r,n,i,v,h=>by
  unfold nM at h
  split at h
  ·rename_i he;cases h;subst he;simp
  obtain⟨h1,h2⟩:=xJ h
  refine⟨by omega,?_⟩
  rw [show i-n=(i-(n+1))+1 by omega];simpa using h2
structure KT (P:g7) (T kt et:g9) (kv:α->Value) (ky:α->V):Prop where
 map:jN P T=some (kt,et)
 val:∀ a,fq (ky a)=some (kv a)
 ok:∀ a,u2 P kt (kv a)=true
 bits:∀ a,Instr.sameBits 10000 (kv a) (kv a)=true
 find:∀ (a:α) (g:List (α×V)),qv P kt (kv a) (wg kv 0 g)=some (nM a g 0)
theorem KT.now {P:g7} {kt:g9} {kv:α->Value} {d:TypeDesc} (hd:P.underlying kt=some d) (h:∀ a b,Instr.sameNow d (kv a) (kv b)=some (decide (b=a))) (a:α) (g:List (α×V)):qv P kt (kv a) (wg kv 0 g)=some (nM a g 0):=by
 have key:∀ (g:List (α×V)) (n i:Nat),iw d (kv a) (wg kv n g) i=some (nM a g i):=by intro g;induction g with|nil=>intro n i;rfl|cons e r ih =>intro n i;obtain⟨k,v⟩:=e;simp only [wg,iw,nM,h];by_cases hk:k=a;(·simp [hk]);rw [decide_eq_false hk,g5 hk];exact ih _ _
 unfold qv;rw [hd];dsimp only;rw [key]
section
variable {P:g7} {T kt et:g9} {kv:α->Value} {ky:α->V}
def P3 (a:α) (v:V) (g:List (α×V)):List (α×V):=match nM a g 0 with
 | none=>g++[(a,v)]
 | some (i,_)=>g.set i (a,v)
theorem KT.put (h:KT P T kt et kv ky) (a:α) (v:V) (g:List (α×V)) {mem:List bx} {b:Nat} (hm:mem[b]?=some (.map (wg kv 0 g) g.length)) :
  ee P mem T (.mp b) (ky a) v=some (mem.set b (.map (wg kv 0 (P3 a v g)) (P3 a v g).length)):=by unfold ee;rw [h.map];dsimp only;rw [h.val];dsimp only;rw [gH (h.ok a),hm];dsimp only;unfold insertAt;rw [h.find];unfold P3;cases hf:nM a g 0 with|none =>dsimp only;rw [Jw,dc,ab,avO]|some p =>obtain⟨i,w⟩:=p;obtain⟨-,h2⟩:=xJ hf;rw [auf] at h2;dsimp only;rw [NL,h2];dsimp only [bU];rw [gH (h.bits a)];dsimp only;rw [NM _ _ _ _ _ _ (az.1 h2).1,avK]
theorem KT.get (h:KT P T kt et kv ky) (a:α) (g:List (α×V)) {mem:List bx} {b:Nat} (hm:mem[b]?=some (.map (wg kv 0 g) g.length)) {z:V} (hz:zeroV P et=some z) (ok:Bool) :
  kR P mem T (.mp b) (ky a) ok=some (YN ok (getM a g).isSome ((getM a g).getD z)):=by unfold kR;rw [h.map];dsimp only;rw [h.val];dsimp only;rw [gH (h.ok a)];unfold qw;dsimp only;rw [hm];dsimp only;rw [h.find,<- EP a g 0];cases hf:nM a g 0 with|none=>dsimp only;rw [hz];rfl|some p=>rfl
end
end
end
def strVal (s:g6):Value:=.string s
theorem ahm {T et:g9} (h:jN ak T=some (9,et)):KT ak T 9 et strVal str :=
 ⟨h,fun _=>rfl,fun a=>by unfold u2;rw [Tryz.underlying9],fun a=>(ED a a).2 rfl,
  KT.now Tryz.underlying9 fun a b=>by
   show some (a==b)=some (decide (b=a))
   congr 1
   rw [jA,ED,decide_eq_true_eq]
   exact⟨fun h=>h.symm,fun h=>h.symm⟩⟩
theorem acY:jN ak 217=some (9,4):=kr
theorem ahn:KT ak 217 9 4 strVal str:=ahm acY
abbrev GN:=List (g6×V)
def xK (g:GN) (x:g6):GN:=P3 x (bl true) g
def eP (g:GN) (l:List g6):GN:=l.foldl xK g
theorem XF (g:GN) (x:g6) {mem:List bx} {b:Nat} (hm:mem[b]?=some (.map (wg strVal 0 g) g.length)):ee ak mem 217 (.mp b) (str x) (bl true)=some (mem.set b (.map (wg strVal 0 (xK g x)) (xK g x).length)):=ahn.put x (bl true) g hm
structure NG (g:GN):Prop where
 acZ:∀ e∈g,e.2=bl true
 nodup:(g.map fun e=>e.1).Nodup
theorem wh {a:g6}:∀ {g:GN} {n:Nat},nM a g n=none->∀ e∈g,e.1≠a
 | [],_,_,e,he=>by cases he
 | c :: r,n,h,e,he=>by
  unfold nM at h
  split at h
  ·cases h
  rename_i dI
  rcases dp.1 he with rfl|he
  ·exact dI
  exact wh h e he
theorem NG.nil:NG []:=⟨fun e he=>(by cases he),List.nodup_nil⟩
theorem Jx {g:GN} {i:Nat} {x:g6} {v w:V} (h:g[i]?=some (x,v)):(g.set i (x,w)).map (fun e=>e.1)=g.map fun e=>e.1:=by
 rw [List.map_set];apply eh;intro j;rw [cf];split;·rename_i KH;subst KH;have bH:=(az.1 h).1;rw [gH (by simpa using bH),ae,h];rfl
 rfl
theorem NG.add {g:GN} (h:NG g) (x:g6):NG (xK g x)/\(∀ k,k∈(xK g x).map (fun e=>e.1)↔k=x\/k∈g.map fun e=>e.1)/\(xK g x).length<=g.length+1:=by unfold xK P3;cases hf:nM x g 0 with|none =>(dsimp only;refine⟨⟨fun e he=>?_,?_⟩,fun k=>?_,by simp⟩;(·(rcases ey.1 he with he|he);(·exact h.acZ e he);rw [ei] at he;subst he;rfl);(·rw [fa,List.nodup_append];refine⟨h.nodup,by simp,fun a ha b hb=>?_⟩;obtain⟨e,he,rfl⟩:=dS.1 ha;simp only [bo,dR,ei] at hb;subst hb;exact wh hf e he);rw [fa,ey];simp only [bo,dR,ei];exact Or.comm)|some p =>obtain⟨i,v⟩:=p;obtain⟨-,h2⟩:=xJ hf;rw [auf] at h2;dsimp only;refine⟨⟨fun e he=>?_,?_⟩,fun k=>?_,by simp⟩;(·(rcases awS he with he|rfl);(·exact h.acZ e he);rfl);(·rw [Jx h2];exact h.nodup);rw [Jx h2];constructor;(·exact .inr);rintro (rfl|h);(·exact dS.2 ⟨_,aw h2,rfl⟩);exact h
theorem NG.eP:∀ {l:List g6} {g:GN},NG g->NG (eP g l)/\(∀ k,k∈(eP g l).map (fun e=>e.1)↔k∈l\/k∈g.map fun e=>e.1)/\(eP g l).length<=g.length+l.length
 | [],g,h=>⟨h,fun k=>⟨.inr,fun h=>h.resolve_left (by simp)⟩,by simp [Go.Proofs.YtfbbfmcggbapoaaGreatDoor.eP]⟩
 | x :: l,g,h=>by
  obtain⟨h1,h2,h3⟩:=h.add x
  obtain⟨h4,h5,h6⟩:=NG.eP (l:=l) h1
  refine⟨h4,fun k=>?_,by have:Go.Proofs.YtfbbfmcggbapoaaGreatDoor.eP g (x :: l)=Go.Proofs.YtfbbfmcggbapoaaGreatDoor.eP (xK g x) l:=rfl;rw [this,af];omega⟩
  have:Go.Proofs.YtfbbfmcggbapoaaGreatDoor.eP g (x :: l)=Go.Proofs.YtfbbfmcggbapoaaGreatDoor.eP (xK g x) l:=rfl
  rw [this,h5 k,h2 k,dp]
  constructor
  ·rintro (h|h|h)
   ·exact .inl (.inr h)
   ·exact .inl (.inl h)
   exact .inr h
  rintro ((h|h)|h)
  ·exact .inr (.inl h)
  ·exact .inl h
  exact .inr (.inr h)
theorem Jy {α:Type} (f:α->g6) (g:GN) {l:List α} {i:Nat} {x:α} (h:l[i]?=some x):eP g ((l.take (i+1)).map f)=xK (eP g ((l.take i).map f)) (f x):=by unfold eP;rw [cg,h,fa,avQ];rfl
theorem NG.below {g:GN} (h:NG g) (n:Nat):((wg strVal 0 g).all fun e=>aQ n e.2.2)=true:=by rw [NN strVal (aQ n),ba];intro e he;rw [h.acZ e he];rfl
def qN:List g6->Bool
 | []=>false
 | a :: r=>qk a r||qN r
theorem NO (x:g6) (l m:List g6):qk x (l++m)=(qk x l||qk x m):=by unfold qk;rw [List.any_append]
theorem yW (x:g6):∀ l:List g6,qN (l++[x])=(qN l||qk x l)
 | []=>rfl
 | a :: r=>by
  have e1:qk a [x]=qk x [a]:=by
   unfold qk
   simp only [awi,List.any_nil,aT]
   by_cases h:a=x
   ·rw [decide_eq_true h,decide_eq_true h.symm]
   rw [decide_eq_false h,decide_eq_false fun e=>h e.symm]
  have e2:qk x (a :: r)=(qk x [a]||qk x r):=NO x [a] r
  simp only [al,qN,yW x r,NO,e1,e2]
  cases qk a r <;> cases qk x [a] <;> cases qN r <;> cases qk x r <;> rfl
theorem Ts (g:GN) (x:g6):(x∈g.map (fun e=>e.1)->(xK g x).length=g.length)/\(x ∉ g.map (fun e=>e.1)->(xK g x).length=g.length+1):=by unfold xK P3;cases hf:nM x g 0 with|none =>dsimp only;refine⟨fun h=>?_,fun _=>by simp⟩;obtain⟨e,he,hx⟩:=dS.1 h;exact absurd hx (wh hf e he)|some p =>obtain⟨i,v⟩:=p;obtain⟨-,h2⟩:=xJ hf;rw [auf] at h2;dsimp only;exact⟨fun _=>by rw [avK],fun h=>absurd (dS.2 ⟨_,aw h2,rfl⟩) h⟩
theorem Jz (l:List g6):∀ m:List g6,(eP [] l).length<=l.length->decide ((eP [] l).length<l.length)=qN l->(eP [] (l++m)).length<=(l++m).length/\decide ((eP [] (l++m)).length<(l++m).length)=qN (l++m):=by intro m;induction m generalizing l with|nil=>intro h1 h2;rw [ai];exact⟨h1,h2⟩|cons x m ih =>intro h1 h2;(have e0:l++x :: m=(l++[x])++m:=by simp);(have e:eP [] (l++[x])=xK (eP [] l) x:=by unfold eP;rw [avQ];rfl);(have hm:x∈(eP [] l).map (fun e=>e.1)↔x∈l:=by have:=(NG.eP (l:=l) NG.nil).2.1 x;simpa using this);have hl:=Ts (eP [] l) x;rw [e0];refine ih (l++[x]) ?_ ?_;(·rw [e,ab,avO];by_cases hx:x∈l;(·rw [hl.1 (hm.2 hx)];omega);rw [hl.2 fun h=>hx (hm.1 h)];omega);rw [e,yW,<- h2,ab,avO];by_cases hx:x∈l;(·rw [hl.1 (hm.2 hx),AX.2 hx,aZ];exact decide_eq_true (by omega));have hb:qk x l=false:=afG.2 fun h=>hx (AX.1 h);rw [hl.2 fun h=>hx (hm.1 h),hb,aT];congr 1;rw [eq_iff_iff];omega
theorem Mb (l:List g6):(eP [] l).length<=l.length/\decide ((eP [] l).length<l.length)=qN l:=Jz [] l (aA _) rfl
theorem XG {mem:List bx} {b:Nat} (g:GN) (c:Nat) (hm:mem[b]?=some (.map (wg strVal 0 g) c)):yq mem #[217] ak [.mp b]=some (num g.length):=by unfold yq;have h:jN ak 217=some (9,4):=kr;simp [h,hm,CE]
section
def Ex.own (e:Ex):List Ty:=e.types++if e.kind=8 then e.labels.map Lb.ty else []
mutual
def Ex.size:Ex->Nat
 | .mk k _ _ _ _ ts ls ks=>1+aU Ty.size (ts++if k=8 then ls.map Lb.ty else [])+A4 ks
def A4:List Ex->Nat
 | []=>0
 | e :: r=>e.size+A4 r
end
mutual
def Ex.nodes:Ex->List Ex
 | .mk k m n t i ts ls ks=>.mk k m n t i ts ls ks :: xL ks
def xL:List Ex->List Ex
 | []=>[]
 | e :: r=>e.nodes++xL r
end
theorem JA (ts:List Ex):xL ts=ts.flatMap Ex.nodes:=by induction ts with|nil=>rfl|cons t r ih=>simp [xL,ih]
theorem Mc (ts:List Ex):A4 ts=aU Ex.size ts:=by induction ts with|nil=>rfl|cons t r ih=>simp [A4,aU,ih]
theorem Ex.dZ (t:Ex):t.nodes=t :: t.kids.flatMap Ex.nodes:=by obtain⟨k,m,n,x,i,ts,ls,ks⟩:=t;simp only [Ex.nodes,Ex.kids,JA]
theorem Ex.size_eq (t:Ex):t.size=1+aU Ty.size t.own+aU Ex.size t.kids:=by obtain⟨k,m,n,x,i,ts,ls,ks⟩:=t;rw [Ex.size,Mc];rfl
theorem Ex.size_pos (t:Ex):0<t.size:=by rw [Ex.size_eq];omega
theorem Ex.oE (t:Ex):1+aU Ex.size t.kids<=t.size:=by rw [Ex.size_eq];omega
theorem Ex.CF:∀ (N:Nat) (t:Ex),t.size<=N->aU (fun e=>1+aU Ty.size e.own) t.nodes=t.size:=by intro N;induction N with|zero=>intro t h;have:=t.size_pos;omega|succ N ih =>intro t hN;have h1:=t.size_eq;(have gen:∀ (l:List Ex),aU Ex.size l<=N->aU (fun e=>1+aU Ty.size e.own) (l.flatMap Ex.nodes)=aU Ex.size l:=by intro l;induction l with|nil=>intro _;rfl|cons a r Tj =>intro hl;simp only [aU] at hl ⊢;rw [ag,fO,ih a (by omega),Tj (by omega)]);rw [Ex.dZ];simp only [aU];rw [gen _ (by omega)];omega
def Lb.dE (l:Lb):Nat:=1+l.ty.size
mutual
def Ex.dE:Ex->Nat
 | .mk _ _ _ _ _ ts ls ks=>1+aU Ty.size ts+aU Lb.dE ls+A5 ks
def A5:List Ex->Nat
 | []=>0
 | e :: r=>e.dE+A5 r
end
theorem Me (ts:List Ex):A5 ts=aU Ex.dE ts:=by induction ts with|nil=>rfl|cons t r ih=>simp [A5,aU,ih]
theorem Ex.uB (t:Ex):t.dE=1+aU Ty.size t.types+aU Lb.dE t.labels+aU Ex.dE t.kids:=by obtain⟨k,m,n,x,i,ts,ls,ks⟩:=t;rw [Ex.dE,Me];rfl
theorem Ex.iE (t:Ex):0<t.dE:=by rw [Ex.uB];omega
theorem Ex.qO (t:Ex):1+aU Ex.dE t.kids<=t.dE:=by rw [Ex.uB];omega
theorem Ex.lZ (t:Ex):t.kids.length<t.dE:=by have:=bB Ex.dE Ex.iE t.kids;rw [Ex.uB];omega
theorem Lb.iE (l:Lb):0<l.dE:=by unfold Lb.dE;omega
theorem Ex.CG (t:Ex):aU Ty.size t.own+1+aU Ex.dE t.kids<=t.dE:=by
 rw [Ex.uB,Ex.own,fO];have:aU Ty.size (if t.kind=8 then t.labels.map Lb.ty else [])<=aU Lb.dE t.labels:=by split;(·rw [ju];generalize t.labels=l;induction l with|nil=>simp [aU]|cons a r ih=>simp only [aU,Lb.dE] at ih ⊢;omega);simp [aU]
 omega
theorem Ex.xN (t:Ex):t.types.length+t.labels.length<t.dE:=by have h1:=bB Ty.size Ty.size_pos t.types;have h2:=bB Lb.dE Lb.iE t.labels;rw [Ex.uB];omega
theorem Ex.jT:∀ (N:Nat) (t:Ex),t.dE<=N->t.size<=t.dE:=by intro N;induction N with|zero=>intro t h;have:=t.iE;omega|succ N ih =>intro t hN;have h1:=t.CG;rw [Ex.size_eq];(have gen:∀ (l:List Ex),aU Ex.dE l<=N->aU Ex.size l<=aU Ex.dE l:=by intro l;induction l with|nil=>intro _;simp [aU]|cons a r Tj =>intro hl;simp only [aU] at hl ⊢;have:=ih a (by omega);have:=Tj (by omega);omega);have:=gen t.kids (by omega);omega
section
variable {σ:Type} {M:σ->List bx} {n k k1 k2:Nat}
theorem Tt (hn:∀ s,(M s).length=n) (hk:k<n) (gW:k1<n) (kh:k2<n) (h1:∀ s,(M s)[k1]?=some (.box [.kx k])) (h2:∀ s,(M s)[k2]?=some (.box [.jh (.func 187) [] [.ptr k1 0,.ptr k2 0]])) (hb:∀ s,(M s).all (a6 n)=true)
  (step:σ->Ex->σ×Bool) (G:σ->Prop) (hG:∀ s u,G s->(step s u).2=true->G (step s u).1) {B:Nat} (hB:B<=1048576) (Pd:Ex->Prop) (hy:∀ s u,G s->u.dE<=B->Pd u->KJ ak k [ca u] (M s) (step s u).2 (M (step s u).1)) :
  ∀ (N:Nat) (t:Ex) (s:σ),G s->(∀ v∈t.nodes,Pd v)->t.dE<=N->N<=B->bK ak 187 [ca t,.ptr k1 0,.ptr k2 0] (M s) (bl (dP step s t.nodes).2) (M (dP step s t.nodes).1):=by
 have g0:∀ s (l:List bx),(M s++l)[n]?=l[0]?:=fun s l=>by rw [bm (by rw [hn];exact aA _),hn,dW]
 have g1:∀ s (l:List bx),(M s++l)[n+1]?=l[1]?:=fun s l=>by rw [bm (by rw [hn];omega),hn,eC]
 have ZI:∀ s (l:List bx),(M s++l)[k1]?=some (.box [.kx k]):=fun s l=>by rw [bz (by rw [hn];exact gW)];exact h1 s
 have gk2:∀ s (l:List bx),(M s++l)[k2]?=some (.box [.jh (.func 187) [] [.ptr k1 0,.ptr k2 0]]):=fun s l=>by rw [bz (by rw [hn];exact kh)];exact h2 s
 have gs:∀ s (l:List bx) X,(M s++l).set n X=M s++l.set 0 X:=fun s l X=>by rw [eR _ _ (by rw [hn];exact aA _),hn,dW]
 have gt:∀ s (l:List bx),(M s++l).take n=M s:=fun s l=>by rw [<- hn s,rW]
 have ZJ:∀ s,(M s).take n=M s:=fun s=>by rw [b8 (by rw [hn];exact aA _)]
 have fy:∀ s u (l:List bx),G s->u.dE<=B->Pd u->KJ ak k [ca u] (M s++l) (step s u).2 (M (step s u).1++l):=fun s u l hg hu hp=>by refine (hy s u hg hu hp).frame (by rw [hn];exact hk) ?_ (by rw [hn];exact hb s) (by rw [hn,hn]) (by rw [hn];exact hb _) l;rw [aS];simp [aQ,bC,aH]
 intro N;induction N with|zero=>intro t s hg hP h;have:=t.iE;omega|succ N ih =>intro t s hg hP hN hNB;have Cx:=t.lZ;have nL:=t.qO;have L6:=bB Ex.dE Ex.iE t.kids;have dI:=t.dZ;have Tl:=fun l=>fy s t l hg (by omega) (hP t (by rw [t.dZ];simp));(have ZK:∀ u s (l:List bx),G s->(∀ v∈u.nodes,Pd v)->u.dE<=N->bK ak 187 [ca u,.ptr k1 0,.ptr k2 0] (M s++l) (bl (dP step s u.nodes).2) (M (dP step s u.nodes).1++l):=fun u s l hg hq hu=>by refine (ih u s hg hq hu (by omega)).frame ?_ (by rw [hn];exact hb s) rfl (by rw [hn,hn]) (by rw [hn];exact hb _) l;rw [aS,hn];simp [aQ,bC,aH,gW,kh]);simp only [aS,aH] at ZK;refine oO tt_ok (fn:=Tryz.f187) n (by rw [hn];exact aA _) Tryz.func187 rfl Tryz.call187 ?_;simp only [dD,dj,Tryz.ntmps187,af,ah,zA,zF,aV,aW];rw [aS] at Tl ⊢;simp only [aH] at Tl ⊢;refine bY fun K hK=>?_;simp only [hn,go_sem];refine hK _ ?_;refine bS ?_;refine bY fun K hK=>?_;simp only [ZI,g0,hn,go_sem];refine .inl ⟨_,_,Tl _,?_⟩;(try simp only [go_sem]);refine hK _ ?_;cases Tm:(step s t).2 with|false =>refine bD rfl ?_;refine bY fun K hK=>?_;simp only [go_sem];refine hK _ ?_;refine cy ⟨.inl rfl,?_⟩;(have oh:dP step s t.nodes=((step s t).1,false):=by rw [dI];simp [dP,Tm]);rw [oh];exact⟨rfl,rfl,by dsimp only;rw [gt];exact hb _,(gt _ _).symm⟩|true =>refine bD rfl (cR ?_);show fc _ _ _ _ _ _;refine bS ?_;refine bY fun K hK=>?_;simp only [ZI,g0,hn,cD,go_sem];refine hK _ ?_;obtain⟨ps,Cy⟩:∃ ps,ps=t.kids:=⟨_,rfl⟩;rw [<- Cy] at nL L6 dI ⊢;have Tu:∀ u∈ps,∀ v∈u.nodes,Pd v:=fun u hu v hv=>hP v (by rw [dI];exact bZ _ (fU.2 ⟨u,hu,hv⟩));refine cz (dY (fun N st=>∃ (i:Nat) (s':σ),G s'/\N=ps.length-i/\i<=ps.length/\dP step s (t :: (ps.take i).flatMap Ex.nodes)=(s',true) /\ st = { fr:=[.undef,.ptr k1 0,.ptr k2 0,.undef,.undef,.undef,.undef,.undef,.undef,.undef,.undef,.undef,.slice (oV ps),num ps.length,num i]++List.replicate 8 .undef,mem:=M s' }) ps.length ?_ ?_);(·refine⟨n,(false::true::true::(rp 9 false [true,true,true])),by rw [hn];exact aA _,by simp only [cp,aQ,bC,a6,zB,gW,kh,lP],by dsimp only;rw [gt];exact hb _,0,(step s t).1,hG s t hg Tm,by omega,by omega,by simp [dP,Tm],?_⟩;dsimp only;rw [gt];rfl);rintro N' st ⟨i,s',Ib,rfl,hi,Tn,rfl⟩;simp only [dD,aV,aW];by_cases bH:i<ps.length;(·have hd:=kD bH;refine bY fun K hK=>?_;simp only [cD,hd,go_sem];refine hK _ ?_;refine bS (bD rfl (cR ?_));refine bS (cz ?_);obtain⟨u,hu⟩:=gA bH;have hus:=bX Ex.dE hu;have kq:=fun l=>ZK u s' l Ib (Tu u (aw hu)) (by omega);(have AZ:(ps.take (i+1)).flatMap Ex.nodes=(ps.take i).flatMap Ex.nodes++u.nodes:=by rw [cg,hu];simp);(have EO:dP step s (t :: (ps.take (i+1)).flatMap Ex.nodes)=dP step s' u.nodes:=by rw [AZ,<- al,jS,Tn];simp);refine bY fun K hK=>?_;simp only [ft,hu,aS,aH,hn,g0,gs,go_sem];refine hK _ ?_;refine bY fun K hK=>?_;simp only [gk2,g0,hn,go_sem];(refine .inr <| .inl ⟨_,_,kq _,?_⟩);(try simp only [go_sem]);refine hK _ ?_;cases To:(dP step s' u.nodes).2 with|false =>refine bD rfl ?_;refine bY fun K hK=>?_;simp only [go_sem];refine hK _ ?_;refine cy ⟨.inl rfl,?_⟩;(have oh:dP step s t.nodes=((dP step s' u.nodes).1,false):=by (have CB:ps.flatMap Ex.nodes=(ps.take (i+1)).flatMap Ex.nodes++(ps.drop (i+1)).flatMap Ex.nodes:=by rw [<- qq,ji]);rw [dI,CB,<- al,jS,EO,To];simp);rw [oh];exact⟨rfl,rfl,by dsimp only;rw [gt];exact hb _,(gt _ _).symm⟩|true =>refine bD rfl (cR ?_);show fc _ _ _ _ _ _;refine jR fun K hK=>?_;simp only [go_sem];refine hK _ ?_;have iR:=bj i (by omega);rw [iR];refine⟨ps.length-(i+1),by omega,n,(false::true::true::(rp 9 false [true,true,true])),by rw [hn];exact aA _,by simp only [cp,aQ,bC,a6,zB,gW,kh,lP],by dsimp only;rw [gt];exact hb _,i+1,(dP step s' u.nodes).1,rL step hG _ _ Ib To,rfl,bH,by rw [EO,<- To],?_⟩;dsimp only;rw [gt];rfl);have hd:=kE bH;refine bY fun K hK=>?_;simp only [cD,hd,go_sem];refine hK _ ?_;refine bS (bD rfl (fA ?_));(have jx:i=ps.length:=by omega);subst jx;show fc _ _ _ _ _ _;refine bY fun K hK=>?_;simp only [go_sem];refine hK _ ?_;refine cy ⟨.inl rfl,?_⟩;rw [aE] at Tn;rw [dI,Tn];exact⟨rfl,rfl,by dsimp only;rw [ZJ];exact hb _,(ZJ _).symm⟩
end
theorem JB (t:Ex) (m:List bx) (hb:m.all (a6 (m.length+1))=true):bK ak 104 [ca t] m (.jh (.func 186) [] [.ptr m.length 0]) (m++[.box (aH t)]):=by
 refine oO tt_ok (fn:=Tryz.f104) (m.length+1) (by omega) Tryz.func104 rfl Tryz.call104 ?_;simp only [dD,dj,Tryz.ntmps104,af,ah,zA,zF,aV,aW];rw [aS];simp only [aH];refine bY fun K hK=>?_;simp only [go_sem];refine hK _ ?_;refine bY fun K hK=>?_;simp only [go_sem];refine hK _ ?_;have ht:∀ B:bx,(m++[B]).take (m.length+1)=m++[B]:=fun B=>b8 (by simp);refine cy ⟨.inl rfl,rfl,by simp [aQ,bC],?_,?_⟩;·dsimp only;rw [ht];simp [hb,a6,aQ,bC]
 dsimp only;rw [ht]
section
variable {σ:Type} {M:σ->List bx} {n k kt:Nat}
theorem Tv (hn:∀ s,(M s).length=n) (hk:k<n) (P0:kt<n) {t:Ex} (h1:∀ s,(M s)[kt]?=some (.box (aH t))) (hb:∀ s,(M s).all (a6 n)=true)
  (step:σ->Ex->σ×Bool) (G:σ->Prop) (hG:∀ s u,G s->(step s u).2=true->G (step s u).1) {B:Nat} (hB:B<=1048576) (Pd:Ex->Prop) (hy:∀ s u,G s->u.dE<=B->Pd u->KJ ak k [ca u] (M s) (step s u).2 (M (step s u).1)) (ht:t.dE<=B) (hP:∀ v∈t.nodes,Pd v) (s:σ) (hs:G s) :
  bK ak 186 [.kx k,.ptr kt 0] (M s) (.fZ []) (M (dP step s t.nodes).1):=by
 have g0:∀ s (l:List bx),(M s++l)[n]?=l[0]?:=fun s l=>by rw [bm (by rw [hn];exact aA _),hn,dW]
 have g1:∀ s (l:List bx),(M s++l)[n+1]?=l[1]?:=fun s l=>by rw [bm (by rw [hn];omega),hn,eC]
 have ZL:∀ s (l:List bx),(M s++l)[kt]?=some (.box (aH t)):=fun s l=>by rw [bz (by rw [hn];exact P0)];exact h1 s
 have gs:∀ s (l:List bx) X,(M s++l).set (n+1) X=M s++l.set 1 X:=fun s l X=>by rw [eR _ _ (by rw [hn];omega),hn,eC]
 have gt:∀ s (l:List bx),(M s++l).take n=M s:=fun s l=>by rw [<- hn s,rW]
 have hw:∀ s,G s->bK ak 187 [ca t,.ptr n 0,.ptr (n+1) 0] (M s++[.box [.kx k],.box [.jh (.func 187) [] [.ptr n 0,.ptr (n+1) 0]]]) (bl (dP step s t.nodes).2) (M (dP step s t.nodes).1++[.box [.kx k],.box [.jh (.func 187) [] [.ptr n 0,.ptr (n+1) 0]]]):=fun s hs=>by refine Tt (M:=fun s=>M s++[.box [.kx k],.box [.jh (.func 187) [] [.ptr n 0,.ptr (n+1) 0]]]) (n:=n+2) (k:=k) (k1:=n) (k2:=n+1) (fun s=>by simp [hn]) (by omega) (by omega) (by omega) (fun s=>g0 _ _) (fun s=>g1 _ _) (fun s=>?_) step G hG hB Pd (fun s u hg hu hq=>?_) t.dE t s hs hP (aA _) ht;(·rw [mO,aG];refine⟨rz (by omega) (hb s),?_⟩;simp [a6,aQ,bC];omega);refine (hy s u hg hu hq).frame (by rw [hn];exact hk) ?_ (by rw [hn];exact hb s) (by rw [hn,hn]) (by rw [hn];exact hb _) _;rw [aS];simp [aQ,bC,aH]
 refine oO tt_ok (fn:=Tryz.f186) n (by rw [hn];exact aA _) Tryz.func186 rfl Tryz.call186 ?_;simp only [dD,dj,Tryz.ntmps186,af,ah,zA,zF,aV,aW];have vk:=hw s hs;rw [aS] at vk;simp only [aH] at vk ZL;refine bY fun K hK=>?_;simp only [hn,go_sem];refine hK _ ?_;refine bY fun K hK=>?_;simp only [hn,ab,ay,go_sem];refine hK _ ?_;refine bY fun K hK=>?_;simp only [hn,g1,gs,go_sem];refine hK _ ?_;refine jR fun K hK=>?_;simp only [hn,g1,ZL,go_sem];refine .inr <| .inl ⟨_,_,vk,?_⟩
 try simp only [go_sem]
 refine hK _ ?_;refine⟨.inr rfl,rfl,rfl,?_,?_⟩;·dsimp only;rw [gt];exact hb _
 dsimp only;rw [gt]
theorem CH {n0:Nat} {st:St} {Q:Exit->St->Prop} {f:Operand} {params:Array Tmp} {assign body:Code} {t:Ex} (pre:σ->List bx) (s0:σ) (n kt:Nat) (nG:st.mem=pre s0) (hn:∀ s,(pre s).length=n) (P0:kt<n)
  (ht:∀ s,(pre s)[kt]?=some (.box (aH t))) (hb:∀ s,(pre s).all (a6 (n+1))=true) (AM:st.fr.all (aQ (n+1))=true) (hf:st.eval f = .jh (.func 186) [] [.ptr kt 0]) (hp:params.size=1) (step:σ->Ex->σ×Option Code) {B:Nat} (hB:B<=1048576) (ly:t.dE<=B) (Pd:Ex->Prop) (hPt:∀ v∈t.nodes,Pd v)
  (CC:∀ s u,u.dE<=B->Pd u->∀ (l:Nat) (LR LB:bx),a6 (n+1) LR=true->a6 (n+1) LB=true->fc ak (some l) (n+1) assign { fr:=pL params.toList [ca u] st.fr,mem:=pre s++[LR] } fun ex uR=>ex = .normal/\uR.mem[n]?=some LR /\
   fc ak (some l) (n+1) body { uR with mem:=uR.mem.set n LB } fun ex AO=>s6 ex=some (step s u).2/\AO.mem[n]?=some LB/\AO.mem.take n=pre (step s u).1)
  (hq:match (jy step s0 t.nodes).2 with
   | none=>Q .normal { st with mem:=pre (jy step s0 t.nodes).1++[.dead] }
   | some c=>fc ak none n0 c { st with mem:=pre (jy step s0 t.nodes).1++[.dead] } Q):fc ak none n0 (.rangeFunc f params assign body) st Q:=by
 have hlen:st.mem.length=n:=by rw [nG,hn]
 have gn:∀ s X,(pre s++[X])[n]?=some X:=fun s X=>by rw [bm (by rw [hn];exact aA _),hn,dW];rfl
 have gk:∀ s X,(pre s++[X])[kt]?=some (.box (aH t)):=fun s X=>by rw [bz (by rw [hn];exact P0)];exact ht s
 have Jv:∀ s (X Y:bx),(pre s++[X]).set n Y=pre s++[Y]:=fun s X Y=>by rw [eR _ _ (by rw [hn];exact aA _),hn,dW];rfl
 have Ab:∀ (s:σ) (a:LoopState) (b:Option Code),(pre s++[bx.loop a b st.fr params assign body]).all (a6 (n+1))=true:=fun s a b=>by rw [mO,aG];exact⟨hb s,by simp only [cI,ew,aJ,a6];exact AM⟩
 have it:=Tv (M:=fun s:σ×Option Code=>pre s.1++[.loop (if s.2.isNone then .ready else .done) s.2 st.fr params assign body]) (n:=n+1) (k:=n) (kt:=kt) (t:=t) (fun s=>by simp [hn]) (by omega) (by omega) (fun s=>gk _ _) (fun s=>Ab _ _ _)
  (xI step) (fun s=>s.2=none) (fun s u hs h=>by simpa [xI] using h) hB Pd (fun s u hs hu hq=>by
   obtain⟨s,j⟩:=s
   simp only at hs;subst hs
   refine s7 (fr:=st.fr) (params:=params) (assign:=assign) (body:=body) (gn _ _) (by simp [hp]) fun l=>?_
   have hl:(pre s++[bx.loop .ready none st.fr params assign body]).length=n+1:=by simp [hn]
   simp only [aeX,if_true,hl]
   refine fc.mono (CC s u hu hq l (.loop .ready none st.fr params assign body) (.loop .busy none st.fr params assign body) AM AM) ?_
   rintro ex uR ⟨h1,h2,h3⟩
   refine⟨h1,h2,fc.mono h3 ?_⟩
   rintro ex AO ⟨h4,h5,h6⟩
   refine⟨_,h4,rfl,h5,?_,?_⟩
   ·rw [take_set (hn _) h5 h6];exact Ab _ _ _
   rw [take_set (hn _) h5 h6];rfl) ly hPt (s0,none) rfl
 rw [A3] at it;refine qi (g:=186) (vs:=[.kx n,.ptr kt 0]) (by rw [hf,hlen];rfl) (by rw [nG];exact it) ?_;rw [hlen];refine⟨_,_,_,_,_,_,gn _ _,?_,?_⟩;·cases (jy step s0 t.nodes).2 <;> simp
 generalize hj:(jy step s0 t.nodes).2=j at hq;cases j with|none=>dsimp only at hq ⊢;rw [Jv];exact hq|some c=>dsimp only at hq ⊢;rw [Jv];exact hq
theorem P4 {n0:Nat} {st:St} {Q:Exit->St->Prop} {f:Operand} {params:Array Tmp} {assign body:Code} {t:Ex} (pre:σ->List bx) (s0:σ) (n kt:Nat) (nG:st.mem=pre s0) (hn:∀ s,(pre s).length=n) (P0:kt<n)
  (ht:∀ s,(pre s)[kt]?=some (.box (aH t))) (hb:∀ s,(pre s).all (a6 (n+1))=true) (AM:st.fr.all (aQ (n+1))=true) (hf:st.eval f = .jh (.func 186) [] [.ptr kt 0]) (hp:params.size=1) (step:σ->Ex->σ×Option Code) {B:Nat} (hB:B<=1048576) (ly:t.dE<=B)
  (CC:∀ s u,u.dE<=B->∀ (l:Nat) (LR LB:bx),a6 (n+1) LR=true->a6 (n+1) LB=true->fc ak (some l) (n+1) assign { fr:=pL params.toList [ca u] st.fr,mem:=pre s++[LR] } fun ex uR=>ex = .normal/\uR.mem[n]?=some LR /\
   fc ak (some l) (n+1) body { uR with mem:=uR.mem.set n LB } fun ex AO=>s6 ex=some (step s u).2/\AO.mem[n]?=some LB/\AO.mem.take n=pre (step s u).1)
  (hq:match (jy step s0 t.nodes).2 with
   | none=>Q .normal { st with mem:=pre (jy step s0 t.nodes).1++[.dead] }
   | some c=>fc ak none n0 c { st with mem:=pre (jy step s0 t.nodes).1++[.dead] } Q):fc ak none n0 (.rangeFunc f params assign body) st Q :=
 CH pre s0 n kt nG hn P0 ht hb AM hf hp step hB ly (fun _=>True) (fun _ _=>trivial) (fun s u hu _=>CC s u hu) hq
end
end
mutual
def Ty.wt:Ty->Nat
 | .mk _ m n ts fs=>1+m.size+n.size+JC ts+JD fs
def JC:List Ty->Nat
 | []=>0
 | t :: r=>t.wt+JC r
def Fd.wt:Fd->Nat
 | .mk n (.mk _ m n' ts fs) _=>1+n.size+m.size+n'.size+JC ts+JD fs
def JD:List Fd->Nat
 | []=>0
 | f :: r=>f.wt+JD r
end
theorem Fd.fF (f:Fd):f.wt=f.name.size+f.ty.wt:=by obtain⟨n',⟨k,m,n,ts,fs⟩,o⟩:=f;simp only [Fd.wt,Ty.wt,Fd.name,Fd.ty];omega
theorem ER (ts:List Ty):JC ts=aU Ty.wt ts:=by induction ts with|nil=>rfl|cons t r ih=>simp [JC,aU,ih]
theorem ES (ts:List Fd):JD ts=aU Fd.wt ts:=by induction ts with|nil=>rfl|cons t r ih=>simp [JD,aU,ih]
theorem Ty.fF (t:Ty):t.wt=1+t.mod.size+t.name.size+aU Ty.wt t.args+aU Fd.wt t.bT:=by obtain⟨k,m,n,ts,fs⟩:=t;simp only [Ty.wt,ER,ES,Ty.mod,Ty.name,Ty.args,Ty.bT]
theorem xO {α:Type} {g h:α->Nat} (hle:∀ a,g a<=h a) (l:List α):aU g l<=aU h l:=by induction l with|nil=>exact aA _|cons a r ih=>simp only [aU];have:=hle a;omega
theorem Ty.xP (t:Ty):1+t.mod.size+t.name.size+aU Ty.wt t.parts<=t.wt:=by rw [t.fF,Ty.parts,fO,ju];have:=xO (g:=fun f:Fd=>f.ty.wt) (h:=Fd.wt) (fun f=>by rw [f.fF];omega) t.bT;omega
theorem Ty.JE:∀ (N:Nat) (t:Ty),t.size<=N->t.size<=t.wt:=by intro N;induction N with|zero=>intro t h;have:=t.size_pos;omega|succ N ih =>intro t hN;have h1:=t.eA;have h2:=t.xP;(have gen:∀ (l:List Ty),aU Ty.size l<=N->aU Ty.size l<=aU Ty.wt l:=by intro l;induction l with|nil=>intro _;exact aA _|cons a r Tj =>intro hl;simp only [aU] at hl ⊢;have:=ih a (by omega);have:=Tj (by omega);omega);have:=gen t.parts (by omega);omega
theorem Ty.de (t:Ty):t.size<=t.wt:=Ty.JE _ t (aA _)
theorem Ty.yX:∀ (N:Nat) (t:Ty),t.size<=N->∀ v∈t.nodes,v.wt<=t.wt:=by intro N;induction N with|zero=>intro t h;have:=t.size_pos;omega|succ N ih =>intro t hN v hv;have h1:=t.eA;have h2:=t.xP;rw [t.dZ] at hv;(rcases dp.1 hv with rfl|hv);(·exact aA _);obtain⟨p,hp,hv⟩:=fU.1 hv;obtain⟨i,hi⟩:=br.1 hp;have e1:=bX Ty.size hi;have e2:=bX Ty.wt hi;have:=ih p (by omega) v hv;omega
theorem Ty.oW {t v:Ty} (hv:v∈t.nodes):v.wt<=t.wt:=Ty.yX _ t (aA _) v hv
theorem Ty.mod_lt (t:Ty):t.mod.size<t.wt:=by rw [t.fF];omega
theorem Ty.aho {t:Ty} {n:Nat} (h:t.wt<=n+1):∀ v∈t.nodes,v.mod.size<=n:=fun v hv=>by have:=Ty.oW hv;have:=v.mod_lt;omega
def Lb.wt (l:Lb):Nat:=1+l.name.size+l.var.size+l.ty.wt
mutual
def Ex.wt:Ex->Nat
 | .mk _ m n t _ ts ls ks=>1+m.size+n.size+t.size+aU Ty.wt ts+aU Lb.wt ls+NP ks
def NP:List Ex->Nat
 | []=>0
 | e :: r=>e.wt+NP r
end
theorem JF (ts:List Ex):NP ts=aU Ex.wt ts:=by induction ts with|nil=>rfl|cons t r ih=>simp [NP,aU,ih]
theorem Ex.fF (t:Ex):t.wt=1+t.mod.size+t.name.size+t.text.size+aU Ty.wt t.types+aU Lb.wt t.labels+aU Ex.wt t.kids:=by obtain⟨k,m,n,x,i,ts,ls,ks⟩:=t;rw [Ex.wt,JF];rfl
theorem Ex.JG:∀ (N:Nat) (t:Ex),t.dE<=N->t.dE<=t.wt:=by intro N;induction N with|zero=>intro t h;have:=t.iE;omega|succ N ih =>intro t hN;have h1:=t.uB;have h2:=t.fF;(have gen:∀ (l:List Ex),aU Ex.dE l<=N->aU Ex.dE l<=aU Ex.wt l:=by intro l;induction l with|nil=>intro _;exact aA _|cons a r Tj =>intro hl;simp only [aU] at hl ⊢;have:=ih a (by omega);have:=Tj (by omega);omega);have h3:=gen t.kids (by omega);have h4:=xO (g:=Ty.size) (h:=Ty.wt) Ty.de t.types;have h5:=xO (g:=Lb.dE) (h:=Lb.wt) (fun l=>by unfold Lb.dE Lb.wt;have:=l.ty.de;omega) t.labels;omega
theorem Ex.eQ (t:Ex):t.dE<=t.wt:=Ex.JG _ t (aA _)
theorem Ex.yX:∀ (N:Nat) (t:Ex),t.dE<=N->∀ v∈t.nodes,v.wt<=t.wt:=by intro N;induction N with|zero=>intro t h;have:=t.iE;omega|succ N ih =>intro t hN v hv;have h1:=t.qO;have h2:=t.fF;rw [t.dZ] at hv;(rcases dp.1 hv with rfl|hv);(·exact aA _);obtain⟨p,hp,hv⟩:=fU.1 hv;obtain⟨i,hi⟩:=br.1 hp;have e1:=bX Ex.dE hi;have e2:=bX Ex.wt hi;have:=ih p (by omega) v hv;omega
theorem Ex.oW {t v:Ex} (hv:v∈t.nodes):v.wt<=t.wt:=Ex.yX _ t (aA _) v hv
theorem Ex.GQ {e:Ex} {p:Ty} (hp:p∈e.own):p.wt<e.wt:=by
 have h:=e.fF;unfold Ex.own at hp;rcases ey.1 hp with hp|hp
 ·obtain⟨i,hi⟩:=br.1 hp;have:=bX Ty.wt hi;omega
 split at hp;·obtain⟨l,hl,rfl⟩:=dS.1 hp;obtain⟨i,hi⟩:=br.1 hl;have h1:=bX Lb.wt hi;have h2:l.wt=1+l.name.size+l.var.size+l.ty.wt:=rfl;omega
 cases hp
theorem Ex.mod_lt (t:Ex):t.mod.size<t.wt:=by rw [t.fF];omega
theorem Ex.yY (t:Ex):t.labels.length<t.wt:=by have h1:=bB Lb.wt (fun l=>by unfold Lb.wt;omega) t.labels;rw [t.fF];omega
theorem Lb.Tw {t:Ex} {l:Lb} (hl:l∈t.labels):l.wt<t.wt:=by obtain⟨i,hi⟩:=br.1 hl;have h1:=bX Lb.wt hi;rw [t.fF];omega
def iX (d:Dc):List V:=[num d.kind,str d.name,bl d.exported,bl d.deprecated,str d.note,.slice (d.params.map cH)]++au d.lower++au d.upper++au d.type++aH d.expr++[str d.mod,str d.target]
theorem JH (d:Dc):ct d = .agg (iX d):=rfl
def Dc.dE (d:Dc):Nat:=1+d.params.length+aU (fun p=>p.bound.size) d.params+d.lower.size+d.upper.size+d.type.size+d.expr.dE
theorem Dc.iE (d:Dc):0<d.dE:=by unfold Dc.dE;omega
def Md.dE (m:Md):Nat:=1+m.imports.length+aU Dc.dE m.decls
def pW (m:Md):List V:=[str m.path,.slice (m.imports.map eI),.slice (m.decls.map ct)]
theorem oX (m:Md):jJ m = .agg (pW m):=rfl
def Pm.wt (p:Pm):Nat:=1+p.name.size+p.bound.wt
def Im.wt (i:Im):Nat:=1+i.path.size+i.alias.size
def Dc.wt (d:Dc):Nat:=1+d.name.size+d.note.size+aU Pm.wt d.params+d.lower.wt+d.upper.wt+d.type.wt+d.expr.wt+d.mod.size+d.target.size
def Md.wt (m:Md):Nat:=1+m.path.size+aU Im.wt m.imports+aU Dc.wt m.decls
theorem Tx (l:List Pm):l.length+aU (fun p=>p.bound.size) l<=aU Pm.wt l:=by induction l with|nil=>exact aA _|cons a r ih=>have:=a.bound.de;simp only [aU,af,Pm.wt];omega
theorem Dc.eQ (d:Dc):d.dE<=d.wt:=by have h1:=Tx d.params;have h2:=d.lower.de;have h3:=d.upper.de;have h4:=d.type.de;have h5:=d.expr.eQ;unfold Dc.dE Dc.wt;omega
theorem Md.eQ (m:Md):m.dE<=m.wt:=by have h1:=xO (g:=Dc.dE) (h:=Dc.wt) Dc.eQ m.decls;have h2:=bB Im.wt (fun l=>by unfold Im.wt;omega) m.imports;unfold Md.dE Md.wt;omega
section
attribute [local irreducible] runM gQ rv dv lX xm EC
mutual
def Ex.depth:Ex->Nat
 | .mk _ _ _ _ _ _ _ ks=>1+xQ ks
def xQ:List Ex->Nat
 | []=>0
 | e :: r=>max e.depth (xQ r)
end
theorem GR (ts:List Ex):xQ ts=gK Ex.depth ts:=by induction ts with|nil=>rfl|cons t r ih=>simp [xQ,gK,ih]
theorem Ex.CI (t:Ex):t.depth=1+gK Ex.depth t.kids:=by obtain⟨k,m,n,x,i,ts,ls,ks⟩:=t;rw [Ex.depth,GR];rfl
theorem Ex.vo:∀ (N:Nat) (t:Ex),t.dE<=N->t.depth<=t.dE:=by intro N;induction N with|zero=>intro t h;have:=t.iE;omega|succ N ih =>intro t hN;rw [Ex.CI];have h1:=t.qO;(have:=CA Ex.depth (l:=t.kids) (B:=aU Ex.dE t.kids) fun i a ha=>by have:=bX Ex.dE ha;have:=ih a (by omega);omega);omega
theorem JI (x:Ex) (hl:x.kids.length<=1048576) (hd:x.depth<=1048576) (kq:∀ (i:Nat) (k:Ex),x.kids[i]?=some k->dz ak 102 [ca k] (num k.depth)):Cn 102 [ca x] (num x.depth):=by
 refine agF tt_ok (fn:=Tryz.f102) Tryz.func102 rfl Tryz.call102 ?_;simp only [dD,dj,Tryz.ntmps102,af,ah,zA,zF,aV,aW];have hde:=x.CI;simp only [aS,aH];refine lY tt_ok 20 [0,2,2] [] rfl rfl fun K hK=>?_;simp only [cD,go_sem,aE];refine hK _ _ rfl ?_;simp only [V8,zA,zE];refine lY tt_ok 20 [0,0,0,2] [] rfl rfl fun K hK=>?_;simp only [cD,go_sem,aE];refine hK _ _ rfl ?_;simp only [V8,zA,zE];refine B8 ?_;refine lY tt_ok 20 [0,0,0,0,0,0,1,2,2,2] [] rfl rfl fun K hK=>?_;simp only [cD,go_sem,aE];refine hK _ _ rfl ?_;simp only [V8,zA,zE];refine B9 ?_;refine SA [9,3] [num 0,num 0] 1 [false,false,true,true,false,false,false,true,true,true] (fun vs=>((x.kids.length:Int)-intOf (vs.headD .undef)).toNat) (fun vs=>∃ (i:Nat),vs=[num i,num (gK Ex.depth (x.kids.take i):Nat)]/\i<=x.kids.length) (by omega) (by simp only [cp,aQ,bC,a6,zB,lP]) (by simp only [cp,aQ,bC,a6,zB,lP]) (by rfl) (⟨0,rfl,by omega⟩) fun vs hI=>?_;obtain⟨i,rfl,hi⟩:=hI;simp only [cp,aQ,bC,a6,zB,vV,kP,ni,lP];refine lY tt_ok 20 (rp 10 0 [2]) [] rfl rfl fun K hK=>?_;simp only [cD,go_sem,aE];refine hK _ _ rfl ?_;simp only [V8,zA,zE];refine B8 ?_;refine agD rfl (fun jf=>?_) (fun jf=>?_);·have bH:=jq jf;obtain⟨k,hx⟩:=gA bH;have hk:=kq i k hx;rw [aS] at hk;simp only [aH] at hk;have hw:=bj i (by omega);refine Gr ?_;show Go.Eng.Ex _ _ _ _ _ _;refine B8 ?_;refine B9 ?_;refine lY tt_ok 20 [0,0,0,0,0,2,0,0,0,0,0,1,1] [] rfl rfl fun K hK=>?_;simp only [hw,ft,hx,aS,aH,cD,go_sem,aE];refine hK _ _ rfl ?_;simp only [V8,zA,zE];refine qK tt_ok 20 [0,0,0,2,0,0,0,0,0,0,0,0,0,2,2,2,2] [] kr rfl rfl fun K hK=>?_;(try simp only [dD]);refine Sx 3 fun K1 l7=>?_;simp only [hw,ft,hx,aS,aH,cD,go_sem,aE];refine Sy (⟨_,rfl,hk⟩) ?_;rintro _ rfl;(try simp only [hw,ft,hx,aS,aH,cD,go_sem,aE]);refine l7 _ ?_;simp only [hw,ft,hx,aS,aH,cD,go_sem,aE];refine hK _ _ rfl ?_;simp only [V8,zA,zE];show Go.Eng.Ex _ _ _ _ _ _;refine qK tt_ok 20 (rp 9 0 [2,0,0,0,0,0,0,0,2]) [] kr rfl rfl fun K hK=>?_;simp only [hw,ft,hx,aS,aH,cD,go_sem,aE];refine hK _ _ rfl ?_;simp only [V8,zA,zE];refine⟨[_,_],?_,?_,1,[false,false,true,true,false,false,false,true,true,true],by omega,by simp only [cp,aQ,bC,a6,zB,lP],by simp only [cp,aQ,bC,a6,zB,lP],by simp only [cp,aQ,bC,a6,zB,vV,kP,ni,lP];rfl⟩;(·refine⟨i+1,?_,bH⟩;rw [lK Ex.depth hx,<- AY]);simp only [intOf,a7];omega
 have ZN:=ki jf;have fP:i=x.kids.length:=by omega
 subst fP;try rw [aE]
 have hw:=bj (gK Ex.depth x.kids) (by omega);have hz:((gK Ex.depth x.kids+1:Nat):Int)=(x.depth:Int):=by omega
 refine Nu ?_;show Go.Eng.Ex _ _ _ _ _ _;refine lY tt_ok 20 (0::0::2::(rp 15 0 [1,1])) [] rfl rfl fun K hK=>?_;simp only [hw,hz,cD,go_sem,aE];refine hK _ _ rfl ?_;simp only [V8,zA,zE];exact Sv ⟨.inl rfl,_,rfl,rfl⟩
theorem Mf:∀ (N:Nat) (x:Ex),x.dE<=N->N<=1048576->dz ak 102 [ca x] (num x.depth):=by intro N;induction N with|zero=>intro x h;have:=x.iE;omega|succ N ih =>intro x hN hb;have h2:=x.lZ;have h4:=Ex.vo _ x (aA _);obtain⟨_,rfl,h⟩:=JI x (by omega) (by omega) fun i k hk=>ih k (by have h1:=bX Ex.dE hk;have h3:=x.qO;omega) (by omega);exact h
end
theorem NQ (e:Ex) (hl:e.types.length+e.labels.length<=34359738368):dz ak 185 [ca e] (.slice (cV e.own)):=by
 have oc:e.types.length<=34359738368:=by omega
 obtain⟨k,m,n,x,z,ts,ls,ks⟩:=e;simp only [Ex.types,Ex.labels] at hl oc;refine jt Tryz.func185 Tryz.call185 ?_;simp only [dD,dj,Tryz.ntmps185,af,ah,zA,zF,aV,aW];refine bY fun K hK=>?_;simp only [ca,go_sem];refine hK _ ?_;refine bY fun K hK=>?_;simp only [ca,go_sem];refine .inr <| .inl ⟨_,_,bK.live (by simp only [ca,bc,go_sem,aE]) (Cz (cV ts) (xz ts 0) (by rw [bc];exact oc)) rfl _,?_⟩
 try simp only [ca,bc,go_sem]
 refine hK _ ?_;refine bS ?_;refine bY fun K hK=>?_;simp only [go_sem];refine hK _ ?_;by_cases hk:k=8;·(have hd:decide (k=8)=true:=by simpa using hk);rw [hd];refine bD rfl ?_;refine bY fun K hK=>?_;simp only [aC,go_sem];refine hK _ ?_;refine cz (dY (fun N st=>∃ (i ej:Nat) (acc:List Ty),N=ls.length-i/\i<=ls.length/\acc=ts++(ls.take i).map Lb.ty /\ st = { fr:=[.undef,.ptr 0 0,.undef,.ms 1 ej 0 acc.length,.undef,.undef,.undef,.undef,.undef,.undef,.undef,.undef,.undef,.slice (ls.map cr),num ls.length,num i]++List.replicate 10 .undef,mem:=[.box (ca (.mk k m n x z ts ls ks)).cells,.rows ej 5 (cV acc)] }) ls.length ?_ ?_);(·exact⟨2,(false::true::false::true::(rp 9 false [true,true,true])),by omega,by simp only [cp,aQ,bC,a6,zB,lP],by simp only [cp,aQ,bC,a6,zB,lP],0,1,ts,by omega,by omega,by simp,rfl⟩);rintro N st ⟨i,ej,acc,rfl,hi,lS,rfl⟩;(have EN:acc.length<=34359738367\/i=ls.length:=by rw [lS];simp;omega);simp only [dD,aV,aW,ca,V.cells];by_cases bH:i<ls.length;(·have hd:=kD bH;(have L5:acc.length<=34359738367:=by omega);refine bY fun K hK=>?_;simp only [hd,go_sem];refine hK _ ?_;refine bS (bD rfl (cR ?_));refine bS (cz ?_);obtain⟨f,hf⟩:=gA bH;(have eW:(ls.take (i+1)).map Lb.ty=(ls.take i).map Lb.ty++[f.ty]:=by rw [cg,hf];simp);refine bY fun K hK=>?_;simp only [ae,hf,cr,au,go_sem];refine hK _ ?_;refine jR fun K hK=>?_;simp only [bc,L5,go_sem];refine hK _ ?_;refine jR fun K hK=>?_;simp only [go_sem];refine hK _ ?_;have hw:=bj i (by omega);rw [hw];refine⟨ls.length-(i+1),by omega,2,(false::true::false::true::(rp 9 false [true,true,true])),by omega,by simp only [cp,aQ,bC,a6,zB,lP],by simp only [cp,aQ,bC,a6,zB,lP],i+1,ej+1,acc++[f.ty],rfl,bH,by rw [lS,eW];simp,?_⟩;simp [rp,cp,ax,aF,au]);have hd:=kE bH;refine bY fun K hK=>?_;simp only [hd,go_sem];refine hK _ ?_;refine bS (bD rfl (fA ?_));(have jx:i=ls.length:=by omega);subst jx;show fc _ _ _ _ _ _;refine bY fun K hK=>?_;simp only [go_sem];refine hK _ ?_;refine cy ⟨.inl rfl,?_⟩;rw [aE] at lS;(have hr:cV (Ex.mk k m n x z ts ls ks).own=cV acc:=by rw [lS];simp [Ex.own,Ex.types,Ex.kind,Ex.labels,hk]);rw [hr];simp [rm,so,vM,Tryz.f185,K0,mT,fE,bc];rw [<- bc];simp
 have hd:decide (k=8)=false:=by simpa using hk
 rw [hd];refine bD rfl (cR ?_);show fc _ _ _ _ _ _;refine bY fun K hK=>?_;simp only [go_sem];refine hK _ ?_;refine cy ⟨.inl rfl,?_⟩;have hr:cV (Ex.mk k m n x z ts ls ks).own=cV ts:=by simp [Ex.own,Ex.types,Ex.kind,Ex.labels,hk]
 rw [hr];simp [rm,so,vM,Tryz.f185,K0,mT,fE,bc];rw [<- bc];simp
theorem Mg (e:Ex) (hl:e.types.length+e.labels.length<=34359738368):dz ak 72 [ca e] (.slice (cV e.own)):=by
 have oc:e.types.length<=34359738368:=by omega
 obtain⟨k,m,n,x,z,ts,ls,ks⟩:=e;simp only [Ex.types,Ex.labels] at hl oc;refine jt Tryz.func72 Tryz.call72 ?_;simp only [dD,dj,Tryz.ntmps72,af,ah,zA,zF,aV,aW];refine bY fun K hK=>?_;simp only [ca,go_sem];refine hK _ ?_;refine bY fun K hK=>?_;simp only [ca,xz,bc,oc,go_sem];refine hK _ ?_;refine bS ?_;refine bY fun K hK=>?_;simp only [go_sem];refine hK _ ?_;by_cases hk:k=8;·(have hd:decide (k=8)=true:=by simpa using hk);rw [hd];refine bD rfl ?_;refine bY fun K hK=>?_;simp only [go_sem];refine hK _ ?_;refine cz (dY (fun N st=>∃ (i ej:Nat) (acc:List Ty),N=ls.length-i/\i<=ls.length/\acc=ts++(ls.take i).map Lb.ty /\ st = { fr:=[.undef,.ptr 0 0,.undef,.ms 1 ej 0 acc.length,num i]++List.replicate 24 .undef,mem:=[.box (ca (.mk k m n x z ts ls ks)).cells,.rows ej 5 (cV acc)] }) ls.length ?_ ?_);(·exact⟨2,[false,true,false,true,true],by omega,by simp only [cp,aQ,bC,a6,zB,lP],by simp only [cp,aQ,bC,a6,zB,lP],0,1,ts,by omega,by omega,by simp,rfl⟩);rintro N st ⟨i,ej,acc,rfl,hi,lS,rfl⟩;(have EN:acc.length<=34359738367\/i=ls.length:=by rw [lS];simp;omega);simp only [dD,aV,aW,ca,V.cells];refine bS ?_;by_cases bH:i<ls.length;(·have hd:=kD bH;(have L5:acc.length<=34359738367:=by omega);refine bY fun K hK=>?_;simp only [aC,hd,go_sem];refine hK _ ?_;refine bD rfl (cR ?_);refine bS (cz ?_);obtain⟨f,hf⟩:=gA bH;(have eW:(ls.take (i+1)).map Lb.ty=(ls.take i).map Lb.ty++[f.ty]:=by rw [cg,hf];simp);refine jR fun K hK=>?_;simp only [ae,hf,cr,au,bc,L5,go_sem];refine hK _ ?_;refine jR fun K hK=>?_;simp only [go_sem];refine hK _ ?_;have hw:=bj i (by omega);rw [hw];refine⟨ls.length-(i+1),by omega,2,[false,true,false,true,true],by omega,by simp only [cp,aQ,bC,a6,zB,lP],by simp only [cp,aQ,bC,a6,zB,lP],i+1,ej+1,acc++[f.ty],rfl,bH,by rw [lS,eW];simp,?_⟩;simp [rp,cp,ax,aF,au]);have hd:=kE bH;refine bY fun K hK=>?_;simp only [aC,hd,go_sem];refine hK _ ?_;refine bD rfl (fA ?_);(have jx:i=ls.length:=by omega);subst jx;show fc _ _ _ _ _ _;refine bY fun K hK=>?_;simp only [go_sem];refine hK _ ?_;refine cy ⟨.inl rfl,?_⟩;rw [aE] at lS;(have hr:cV (Ex.mk k m n x z ts ls ks).own=cV acc:=by rw [lS];simp [Ex.own,Ex.types,Ex.kind,Ex.labels,hk]);rw [hr];simp [rm,so,vM,Tryz.f72,K0,mT,fE,bc];rw [<- bc];simp
 have hd:decide (k=8)=false:=by simpa using hk
 rw [hd];refine bD rfl (cR ?_);show fc _ _ _ _ _ _;refine bY fun K hK=>?_;simp only [go_sem];refine hK _ ?_;refine cy ⟨.inl rfl,?_⟩;have hr:cV (Ex.mk k m n x z ts ls ks).own=cV ts:=by simp [Ex.own,Ex.types,Ex.kind,Ex.labels,hk]
 rw [hr];simp [rm,so,vM,Tryz.f72,K0,mT,fE,bc];rw [<- bc];simp
def Mh (s:Int) (u:Ty):Int:=IntKind.i64.wrap (s+(u.size:Int))
def NR (s:Int) (e:Ex):Int:=e.own.foldl Mh (IntKind.i64.wrap (s+1))
theorem ET:∀ (l:List Ty) (a:Nat),a+aU Ty.size l<=1152921504606846976->l.foldl Mh (a:Int)=((a+aU Ty.size l:Nat):Int)
 | [],a,_=>rfl
 | u :: r,a,h=>by
  simp only [aU] at h ⊢
  rw [kZ,Mh,gf a u.size (by omega),ET r _ (by omega)]
  congr 1;omega
theorem CJ:∀ (l:List Ex) (a:Nat),a+aU (fun e=>1+aU Ty.size e.own) l<=1152921504606846976->l.foldl NR (a:Int)=((a+aU (fun e=>1+aU Ty.size e.own) l:Nat):Int)
 | [],a,_=>rfl
 | e :: r,a,h=>by
  simp only [aU] at h ⊢
  rw [kZ,NR,bj a (by omega),ET _ _ (by omega),CJ r _ (by omega)]
  congr 1;omega
theorem EU (e:Ex) (he:e.dE<=1048576):dz ak 101 [ca e] (num e.size):=by
 have ly:=Ex.jT _ e (aA _);refine jt Tryz.func101 Tryz.call101 ?_;simp only [dD,dj,Tryz.ntmps101,af,ah,zA,zF,aV,aW];have h53:=fun B0 B1 h=>JB e [B0,B1] h;rw [aS] at h53 ⊢;simp only [aH] at h53 ⊢;refine bY fun K hK=>?_;simp only [go_sem];refine hK _ ?_;refine bY fun K hK=>?_;simp only [go_sem];refine hK _ ?_;refine bS ?_;refine bY fun K hK=>?_;simp only [go_sem];refine .inr <| .inl ⟨_,_,h53 _ _ rfl,?_⟩
 try simp only [go_sem]
 refine hK _ ?_;refine cz (P4 (t:=e) (B:=1048576) (fun s:Int=>[.box (aH e),.box [num s],.box (aH e)]) 0 3 2 rfl (fun _=>rfl) (by omega) (fun _=>rfl) (fun _=>rfl) rfl rfl rfl (fun s u=>(NR s u,none)) (by omega) he ?_ ?_);·intro s u hu l LR LB hLR hLB;rw [aS];simp only [dD,pL,aH,ni,kP];have O0:=u.CG;have amO:=u.xN;have ko:=NQ u (by omega);have ZN:=bB Ty.size Ty.size_pos u.own;rw [aS] at ko;simp only [aH] at ko;refine jR fun K hK=>?_;simp only [go_sem];refine hK _ ?_;refine⟨rfl,rfl,cz ?_⟩;refine bS ?_;refine jR fun K hK=>?_;simp only [go_sem];refine hK _ ?_;refine bS ?_;refine jR fun K hK=>?_;simp only [go_sem];refine .inl ⟨_,_,by simp only [bc,go_sem,aE],ko,?_⟩;(try simp only [bc,go_sem]);refine hK _ ?_;obtain⟨ps,nL⟩:=gy u.own;(have hnw:NR s u=ps.foldl Mh (IntKind.i64.wrap (s+1)):=by rw [nL];rfl);rw [hnw,<- nL];rw [<- nL] at O0 ZN;refine cz (dY (fun N st=>∃ (i:Nat),N=ps.length-i/\i<=ps.length /\ st = { fr:=[.undef,.undef,.undef,.ptr 1 0,.undef,.undef,.undef,.undef,.undef,.undef,.undef,.undef,.undef,.slice (cV ps),num ps.length,num i]++List.replicate 9 .undef,mem:=[.box (aH e),.box [num ((ps.take i).foldl Mh (IntKind.i64.wrap (s+1)))],.box (aH e),LB] }) ps.length ?_ ?_);(·exact⟨4,(false::false::false::true::(rp 9 false [true,true,true])),by omega,by simp only [cp,aQ,bC,a6,zB,lP],by have h4:a6 4 LB=true:=hLB;simp only [dD,cI,ew,h4];rfl,0,by omega,by omega,rfl⟩);rintro N st ⟨i,rfl,hi,rfl⟩;simp only [dD,aV,aW];by_cases bH:i<ps.length;(·have hd:=kD bH;refine bY fun K hK=>?_;simp only [hd,go_sem];refine hK _ ?_;refine bS (bD rfl (cR ?_));refine bS (cz ?_);obtain⟨v,hv⟩:=gA bH;have Pf:=bX Ty.size hv;(have OW:(ps.take (i+1)).foldl Mh (IntKind.i64.wrap (s+1))=IntKind.i64.wrap ((ps.take i).foldl Mh (IntKind.i64.wrap (s+1))+(v.size:Int)):=by rw [cg,hv,avQ];rfl);have yn:=nc v (by omega);rw [aF] at yn;simp only [au] at yn;refine bY fun K hK=>?_;simp only [cK,hv,aF,au,go_sem];refine hK _ ?_;refine BU tt_ok nI [pR,pR,pN,pN,⟨.w,0,[],[],[]⟩] 1 kr fun K hK=>?_;simp only [go_sem,List.replicate];refine⟨_,_,by simp only [go_sem,aE],.inl (yn),?_⟩;(try simp only [go_sem,List.replicate]);refine hK _ ?_;rw [<- OW];refine jR fun K hK=>?_;simp only [go_sem];refine hK _ ?_;have iR:=bj i (by omega);rw [iR];exact⟨ps.length-(i+1),by omega,4,(false::false::false::true::(rp 9 false [true,true,true])),by omega,by simp only [cp,aQ,bC,a6,zB,lP],by have h4:a6 4 LB=true:=hLB;simp only [dD,cI,ew,h4];rfl,i+1,rfl,bH,rfl⟩);have hd:=kE bH;refine bY fun K hK=>?_;simp only [hd,go_sem];refine hK _ ?_;refine bS (bD rfl (fA ?_));(have jx:i=ps.length:=by omega);subst jx;(try rw [aE]);exact⟨rfl,rfl,rfl⟩
 rw [we,show (0:Int)=((0:Nat):Int) from rfl,CJ _ _ (by rw [Ex.CF _ e (aA _)];omega),Ex.CF _ e (aA _),dc];show fc _ _ _ _ _ _;refine bY fun K hK=>?_;simp only [go_sem];refine hK _ ?_;exact cy ⟨.inl rfl,rfl⟩
theorem CK:∀ (N:Nat) (e:Ex),e.dE<=N->N<=1048576->dz ak 23 [ca e] (num e.size):=by intro N;induction N with|zero=>intro t h;have:=t.iE;omega|succ N ih =>intro e hN hb;have O0:=e.CG;have amO:=e.xN;have ly:=e.size_eq;have hsb:=Ex.jT _ e (aA _);have ko:=Mg e (by omega);have ZN:=bB Ty.size Ty.size_pos e.own;have yE:=e.lZ;refine jt Tryz.func23 Tryz.call23 ?_;simp only [dD,dj,Tryz.ntmps23,af,ah,zA,zF,aV,aW];rw [aS] at ko ⊢;simp only [aH] at ko ⊢;refine bY fun K hK=>?_;simp only [go_sem];refine hK _ ?_;refine bY fun K hK=>?_;simp only [go_sem];refine hK _ ?_;refine bY fun K hK=>?_;simp only [go_sem];refine .inl ⟨_,_,by simp only [go_sem,aE],ko,?_⟩;(try simp only [go_sem]);refine hK _ ?_;refine bS ?_;refine bY fun K hK=>?_;simp only [go_sem];refine hK _ ?_;obtain⟨ps,nL⟩:=gy e.own;rw [<- nL] at O0 ZN ly ⊢;refine cz (dY (fun N st=>∃ (i:Nat),N=ps.length-i/\i<=ps.length /\ st = { fr:=[.undef,.ptr 0 0,.undef,num ((1+aU Ty.size (ps.take i):Nat)),.slice (cV ps),num i]++List.replicate 32 .undef,mem:=[.box (aH e)] }) ps.length ?_ ?_);(·exact⟨1,[false,true,false,true,true,true],by omega,by simp only [cp,aQ,bC,a6,zB,lP],rfl,0,by omega,by omega,rfl⟩);rintro N' st ⟨i,rfl,hi,rfl⟩;simp only [dD,aV,aW];refine bS ?_;by_cases bH:i<ps.length;(·have hd:=kD bH;refine bY fun K hK=>?_;simp only [bc,hd,go_sem];refine hK _ ?_;refine bD rfl (cR ?_);refine bS (cz ?_);obtain⟨u,hu⟩:=gA bH;have hus:=bX Ty.size hu;have yn:=fX Ty.size hu;have Lp:=gG Ty.size ps (i+1);have kq:=nK u.size u (aA _) (by omega);rw [aF] at kq;simp only [au] at kq;refine jR fun K hK=>?_;simp only [cK,hu,aF,au,go_sem];refine .inl ⟨_,_,by simp only [go_sem,aE],kq,?_⟩;(try simp only [go_sem]);refine hK _ ?_;(have hw:IntKind.i64.wrap (((1+aU Ty.size (ps.take i):Nat):Int)+(u.size:Int))=((1+aU Ty.size (ps.take (i+1)):Nat):Int):=by rw [gf _ _ (by omega)];congr 1;omega);rw [hw];refine jR fun K hK=>?_;simp only [go_sem];refine hK _ ?_;have iR:=bj i (by omega);rw [iR];exact⟨ps.length-(i+1),by omega,1,[false,true,false,true,true,true],by omega,by simp only [cp,aQ,bC,a6,zB,lP],rfl,i+1,rfl,bH,by simp [rp,cp]⟩);have hd:=kE bH;refine bY fun K hK=>?_;simp only [bc,hd,go_sem];refine hK _ ?_;refine bD rfl (fA ?_);(have jx:i=ps.length:=by omega);subst jx;(try rw [aE]);show fc _ _ _ _ _ _;refine bS ?_;refine bY fun K hK=>?_;simp only [go_sem];refine hK _ ?_;obtain⟨ks,V4⟩:=gy e.kids;obtain⟨S,hS⟩:=gy (1+aU Ty.size ps);rw [<- hS];rw [<- V4] at O0 ly yE;refine cz (dY (fun N st=>∃ (i:Nat),N=ks.length-i/\i<=ks.length /\ st = { fr:=[.undef,.ptr 0 0,.undef,num ((S+aU Ex.size (ks.take i):Nat)),.undef,.undef,num i]++List.replicate 31 .undef,mem:=[.box (aH e)] }) ks.length ?_ ?_);(·exact⟨1,[false,true,false,true,false,false,true],by omega,by simp only [cp,aQ,bC,a6,zB,lP],rfl,0,by omega,by omega,rfl⟩);rintro N' st ⟨i,rfl,hi,rfl⟩;simp only [aV,aW,al,aq,aH,<- V4];refine bS ?_;by_cases bH:i<ks.length;(·have hd:=kD bH;refine bY fun K hK=>?_;simp only [cD,hd,go_sem];refine hK _ ?_;refine bD rfl (cR ?_);refine bS (cz ?_);obtain⟨u,hu⟩:=gA bH;have hus:=bX Ex.dE hu;have yn:=fX Ex.size hu;have Lp:=gG Ex.size ks (i+1);have kq:=ih u (by omega) (by omega);rw [aS] at kq;simp only [aH] at kq;refine jR fun K hK=>?_;simp only [ft,hu,aS,aH,go_sem];refine .inl ⟨_,_,by simp only [go_sem,aE],kq,?_⟩;(try simp only [go_sem]);refine hK _ ?_;(have hw:IntKind.i64.wrap (((S+aU Ex.size (ks.take i):Nat):Int)+(u.size:Int))=((S+aU Ex.size (ks.take (i+1)):Nat):Int):=by rw [gf _ _ (by omega)];congr 1;omega);rw [hw];refine jR fun K hK=>?_;simp only [go_sem];refine hK _ ?_;have iR:=bj i (by omega);rw [iR];exact⟨ks.length-(i+1),by omega,1,[false,true,false,true,false,false,true],by omega,by simp only [cp,aQ,bC,a6,zB,lP],rfl,i+1,rfl,bH,by simp [rp,cp,aH,<- V4]⟩);have hd:=kE bH;refine bY fun K hK=>?_;simp only [cD,hd,go_sem];refine hK _ ?_;refine bD rfl (fA ?_);(have jx:i=ks.length:=by omega);subst jx;(try rw [aE]);show fc _ _ _ _ _ _;refine bY fun K hK=>?_;simp only [go_sem];refine hK _ ?_;refine cy ⟨.inl rfl,?_⟩;(have L4:S+aU Ex.size ks=e.size:=by omega);rw [L4];simp [rm,so,vM,Tryz.f23,K0,mT,fE,qy]
noncomputable def sd {α:Type} (a b:α):Bool:=@decide (a=b) (Classical.propDecidable _)
theorem eu {α:Type} {a b:α} (h:a=b):sd a b=true:=by unfold sd;exact @decide_eq_true _ (Classical.propDecidable _) h
theorem cU {α:Type} {a b:α} (h:¬ a=b):sd a b=false:=by unfold sd;exact @decide_eq_false _ (Classical.propDecidable _) h
theorem GU {α:Type} {a b:α}:sd a b=true↔a=b:=by refine⟨fun h=>awT fun hn=>?_,eu⟩;rw [cU hn] at h;cases h
theorem nN (a b:g6):(a.toList==b.toList)=sd a b:=by
 have inj:a.toList=b.toList->a=b:=fun h=>by rw [ByteArray.toList_eq,ByteArray.toList_eq] at h;exact avL (ake.1 h)
 by_cases h:a=b;·rw [eu h,h];simp
 rw [cU h];simpa using fun e=>h (inj e)
theorem JJ (g:FuncId) (ts us:List Ty) (hl:ts.length<=1048576) (hg:∀ (i:Nat) (t u:Ty),ts[i]?=some t->us[i]?=some u->dz ak g [cA t,cA u] (bl (sd t u))) :
  dz ak 262 [.slice (cV ts),.slice (cV us),.sc (.func (.func g) #[] #[])] (bl (sd ts us)):=by
 refine jt Tryz.func262 Tryz.call262 ?_;simp only [dD,dj,Tryz.ntmps262,af,ah,zA,zF,aV,aW];refine bY fun K hK=>?_;simp only [go_sem];refine hK _ ?_;refine bS ?_;by_cases hlen:ts.length=us.length;·(have hd:(!decide ((ts.length:Int)=(us.length:Int)))=false:=by simp [hlen]);refine bY fun K hK=>?_;simp only [bc,hd,go_sem];refine hK _ ?_;refine bD rfl (cR ?_);show fc _ _ _ _ _ _;refine bS ?_;refine bY fun K hK=>?_;simp only [bc,go_sem];refine hK _ ?_;refine cz (dY (fun N st=>∃ (i:Nat),N=ts.length-i/\i<=ts.length/\ts.take i=us.take i /\ st = { fr:=[.undef,.slice (cV us),.sc (.func (.func g) #[] #[]),.undef,.undef,.undef,.undef,.undef,.undef,.undef,.undef,.undef,.undef,.undef,.undef,.slice (cV ts),num ts.length,num i]++List.replicate 14 .undef,mem:=[] }) ts.length ?_ ?_);(·exact⟨0,(false::true::true::(rp 12 false [true,true,true])),by omega,by simp only [cp,aQ,bC,a6,zB,lP],rfl,0,by omega,by omega,by simp,rfl⟩);rintro N' st ⟨i,rfl,hi,AZ,rfl⟩;simp only [dD,aV,aW];by_cases bH:i<ts.length;(·have hd:=kD bH;refine bY fun K hK=>?_;simp only [hd,go_sem];refine hK _ ?_;refine bS (bD rfl (cR ?_));refine bS (cz ?_);obtain⟨t,ht⟩:=gA bH;obtain⟨u,hu⟩:=gB us i (by omega);have Tz:=hg i t u ht hu;rw [aF,aF] at Tz;simp only [au] at Tz;refine bY fun K hK=>?_;simp only [cK,ht,aF,au,go_sem];refine hK _ ?_;refine bY fun K hK=>?_;simp only [cK,hu,aF,au,go_sem];refine hK _ ?_;refine bY fun K hK=>?_;simp only [go_sem];refine .inl ⟨_,_,by simp only [go_sem,aE],Tz,?_⟩;(try simp only [go_sem]);refine hK _ ?_;(have TA:∀ h:t=u,ts.take (i+1)=us.take (i+1):=fun h=>by rw [cg,cg,AZ,ht,hu,h]);by_cases NS:t=u;(·rw [eu NS];refine bD rfl (cR ?_);show fc _ _ _ _ _ _;refine jR fun K hK=>?_;simp only [go_sem];refine hK _ ?_;have iR:=bj i (by omega);rw [iR];exact⟨ts.length-(i+1),by omega,0,(false::true::true::(rp 12 false [true,true,true])),by omega,by simp only [cp,aQ,bC,a6,zB,lP],rfl,i+1,rfl,bH,TA NS,rfl⟩);rw [cU NS];refine bD rfl ?_;refine bY fun K hK=>?_;simp only [go_sem];refine hK _ ?_;refine cy ⟨.inl rfl,?_⟩;rw [cU (fun e=>NS (by rw [e,hu] at ht;exact (mP ht).symm))];rfl);have hd:=kE bH;refine bY fun K hK=>?_;simp only [hd,go_sem];refine hK _ ?_;refine bS (bD rfl (fA ?_));(have jx:i=ts.length:=by omega);show fc _ _ _ _ _ _;refine bY fun K hK=>?_;simp only [go_sem];refine hK _ ?_;refine cy ⟨.inl rfl,?_⟩;rw [jx,aE,hlen,aE] at AZ;rw [eu AZ];rfl
 have hd:(!decide ((ts.length:Int)=(us.length:Int)))=true:=by simpa using fun e=>hlen (by omega)
 refine bY fun K hK=>?_;simp only [bc,hd,go_sem];refine hK _ ?_;refine bD rfl ?_;refine bY fun K hK=>?_;simp only [go_sem];refine hK _ ?_;refine cy ⟨.inl rfl,?_⟩;rw [cU (fun e=>hlen (by rw [e]))];rfl
theorem JK (g:FuncId) (ts us:List Fd) (hl:ts.length<=1048576) (hg:∀ (i:Nat) (t u:Fd),ts[i]?=some t->us[i]?=some u->dz ak g [gZ t,gZ u] (bl (sd t u))) :
  dz ak 263 [.slice (jw ts),.slice (jw us),.sc (.func (.func g) #[] #[])] (bl (sd ts us)):=by
 refine jt Tryz.func263 Tryz.call263 ?_;simp only [dD,dj,Tryz.ntmps263,af,ah,zA,zF,aV,aW];refine bY fun K hK=>?_;simp only [go_sem];refine hK _ ?_;refine bS ?_;by_cases hlen:ts.length=us.length;·(have hd:(!decide ((ts.length:Int)=(us.length:Int)))=false:=by simp [hlen]);refine bY fun K hK=>?_;simp only [dr,hd,go_sem];refine hK _ ?_;refine bD rfl (cR ?_);show fc _ _ _ _ _ _;refine bS ?_;refine bY fun K hK=>?_;simp only [dr,go_sem];refine hK _ ?_;refine cz (dY (fun N st=>∃ (i:Nat),N=ts.length-i/\i<=ts.length/\ts.take i=us.take i /\ st = { fr:=[.undef,.slice (jw us),.sc (.func (.func g) #[] #[]),.undef,.undef,.undef,.undef,.undef,.undef,.undef,.undef,.undef,.undef,.undef,.undef,.slice (jw ts),num ts.length,num i]++List.replicate 14 .undef,mem:=[] }) ts.length ?_ ?_);(·exact⟨0,(false::true::true::(rp 12 false [true,true,true])),by omega,by simp only [cp,aQ,bC,a6,zB,lP],rfl,0,by omega,by omega,by simp,rfl⟩);rintro N' st ⟨i,rfl,hi,AZ,rfl⟩;simp only [dD,aV,aW];by_cases bH:i<ts.length;(·have hd:=kD bH;refine bY fun K hK=>?_;simp only [hd,go_sem];refine hK _ ?_;refine bS (bD rfl (cR ?_));refine bS (cz ?_);obtain⟨t,ht⟩:=gA bH;obtain⟨u,hu⟩:=gB us i (by omega);have Tz:=hg i t u ht hu;rw [bL,bL] at Tz;simp only [dD,au] at Tz;refine bY fun K hK=>?_;simp only [bP,ht,bL,au,go_sem];refine hK _ ?_;refine bY fun K hK=>?_;simp only [bP,hu,bL,au,go_sem];refine hK _ ?_;refine bY fun K hK=>?_;simp only [go_sem];refine .inl ⟨_,_,by simp only [go_sem,aE],Tz,?_⟩;(try simp only [go_sem]);refine hK _ ?_;(have TA:∀ h:t=u,ts.take (i+1)=us.take (i+1):=fun h=>by rw [cg,cg,AZ,ht,hu,h]);by_cases NS:t=u;(·rw [eu NS];refine bD rfl (cR ?_);show fc _ _ _ _ _ _;refine jR fun K hK=>?_;simp only [go_sem];refine hK _ ?_;have iR:=bj i (by omega);rw [iR];exact⟨ts.length-(i+1),by omega,0,(false::true::true::(rp 12 false [true,true,true])),by omega,by simp only [cp,aQ,bC,a6,zB,lP],rfl,i+1,rfl,bH,TA NS,rfl⟩);rw [cU NS];refine bD rfl ?_;refine bY fun K hK=>?_;simp only [go_sem];refine hK _ ?_;refine cy ⟨.inl rfl,?_⟩;rw [cU (fun e=>NS (by rw [e,hu] at ht;exact (mP ht).symm))];rfl);have hd:=kE bH;refine bY fun K hK=>?_;simp only [hd,go_sem];refine hK _ ?_;refine bS (bD rfl (fA ?_));(have jx:i=ts.length:=by omega);show fc _ _ _ _ _ _;refine bY fun K hK=>?_;simp only [go_sem];refine hK _ ?_;refine cy ⟨.inl rfl,?_⟩;rw [jx,aE,hlen,aE] at AZ;rw [eu AZ];rfl
 have hd:(!decide ((ts.length:Int)=(us.length:Int)))=true:=by simpa using fun e=>hlen (by omega)
 refine bY fun K hK=>?_;simp only [dr,hd,go_sem];refine hK _ ?_;refine bD rfl ?_;refine bY fun K hK=>?_;simp only [go_sem];refine hK _ ?_;refine cy ⟨.inl rfl,?_⟩;rw [cU (fun e=>hlen (by rw [e]))];rfl
theorem Ty.ext_iff (t u:Ty):t=u↔t.kind=u.kind/\t.mod=u.mod/\t.name=u.name/\t.args=u.args/\t.bT=u.bT:=by obtain⟨k,m,n,ts,fs⟩:=t;obtain⟨k',m',n',ts',fs'⟩:=u;simp [Ty.kind,Ty.mod,Ty.name,Ty.args,Ty.bT]
theorem Fd.ext_iff (t u:Fd):t=u↔t.name=u.name/\t.opt=u.opt/\t.ty=u.ty:=by obtain⟨n,t,o⟩:=t;obtain⟨n',t',o'⟩:=u;simp only [Fd.name,Fd.opt,Fd.ty,Fd.mk.injEq];exact⟨fun h=>⟨h.1,h.2.2,h.2.1⟩,fun h=>⟨h.1,h.2.2,h.2.1⟩⟩
theorem XH (t u:Fd) (h:dz ak 214 [cA t.ty,cA u.ty] (bl (sd t.ty u.ty))):dz ak 264 [gZ t,gZ u] (bl (sd t u)):=by
 refine jt Tryz.func264 Tryz.call264 ?_;simp only [dD,dj,Tryz.ntmps264,af,ah,zA,zF,aV,aW];rw [aF,aF] at h;rw [bL,bL];simp only [dD,au] at h ⊢;have e1:=nN t.name u.name;have hT:ak.underlying 4=some .bool:=kr;have e2:=fun x y=>WA (P:=ak) (T:=4) x y hT;refine bY fun K hK=>?_;simp only [go_sem];refine hK _ ?_;by_cases h1:t.name=u.name;·rw [eu h1] at e1;by_cases h2:t.opt=u.opt;(·(have e3:(t.opt==u.opt)=true:=by simpa using h2);refine bY fun K hK=>?_;simp only [e1,e2,e3,go_sem];refine .inl ⟨_,_,by simp only [go_sem,aE],h,?_⟩;(try simp only [go_sem]);refine hK _ ?_;refine cy ⟨.inl rfl,?_⟩;(have hr:sd t u=sd t.ty u.ty:=by by_cases h3:t.ty=u.ty;(·rw [eu h3,eu ((Fd.ext_iff t u).2 ⟨h1,h2,h3⟩)]);rw [cU h3,cU fun e=>h3 ((Fd.ext_iff t u).1 e).2.2]);rw [hr];rfl);(have e3:(t.opt==u.opt)=false:=by simpa using h2);refine bY fun K hK=>?_;simp only [e1,e2,e3,go_sem];refine hK _ ?_;refine cy ⟨.inl rfl,?_⟩;rw [cU fun e=>h2 ((Fd.ext_iff t u).1 e).2.1];rfl
 rw [cU h1] at e1;refine bY fun K hK=>?_;simp only [e1,go_sem];refine hK _ ?_;refine cy ⟨.inl rfl,?_⟩;rw [cU fun e=>h1 ((Fd.ext_iff t u).1 e).1];rfl
theorem Ty.EV {t a:Ty} {i:Nat} (h:t.args[i]?=some a):a.size<t.size:=by
 have h1:t.parts[i]?=some a:=by unfold Ty.parts;rw [bz (az.1 h).1];exact h
 have:=bX Ty.size h1;have:=t.eA;omega
theorem Ty.EW {t:Ty} {f:Fd} {i:Nat} (h:t.bT[i]?=some f):f.ty.size<t.size:=by
 have h1:t.parts[t.args.length+i]?=some f.ty:=by unfold Ty.parts;rw [bm (by omega),eC,ae,h];rfl
 have:=bX Ty.size h1;have:=t.eA;omega
theorem CL:∀ (N:Nat) (t u:Ty),t.size<=N->N<=1048576->dz ak 214 [cA t,cA u] (bl (sd t u)):=by intro N;induction N with|zero=>intro t u h;have:=t.size_pos;omega|succ N ih =>intro t u hN hb;have Cx:=t.gI;have hA:=JJ 214 t.args u.args (by omega) fun i a b ha _=>ih a b (by have:=Ty.EV ha;omega) (by omega);have hF:=JK 264 t.bT u.bT (by omega) fun i a b ha _=>XH a b (ih a.ty b.ty (by have:=Ty.EW ha;omega) (by omega));refine jt Tryz.func214 Tryz.call214 ?_;simp only [dD,dj,Tryz.ntmps214,af,ah,zA,zF,aV,aW];rw [aF,aF];simp only [au];have e2:=nN t.mod u.mod;have e3:=nN t.name u.name;refine bY fun K hK=>?_;simp only [go_sem];refine hK _ ?_;by_cases h1:t.kind=u.kind;(·have d1:decide (t.kind=u.kind)=true:=decide_eq_true h1;by_cases h2:t.mod=u.mod;(·rw [eu h2] at e2;by_cases h3:t.name=u.name;(·rw [eu h3] at e3;by_cases h4:t.args=u.args;(·rw [eu h4] at hA;by_cases h5:t.bT=u.bT;(·rw [eu h5] at hF;refine bY fun K hK=>?_;simp only [d1,e2,e3,go_sem];refine .inl ⟨_,_,by simp only [go_sem,aE],hA,?_⟩;(try simp only [go_sem]);refine .inl ⟨_,_,by simp only [go_sem,aE],hF,?_⟩;(try simp only [go_sem]);refine hK _ ?_;refine cy ⟨.inl rfl,?_⟩;rw [eu ((Ty.ext_iff t u).2 ⟨h1,h2,h3,h4,h5⟩)];rfl);rw [cU h5] at hF;refine bY fun K hK=>?_;simp only [d1,e2,e3,go_sem];refine .inl ⟨_,_,by simp only [go_sem,aE],hA,?_⟩;(try simp only [go_sem]);refine .inl ⟨_,_,by simp only [go_sem,aE],hF,?_⟩;(try simp only [go_sem]);refine hK _ ?_;refine cy ⟨.inl rfl,?_⟩;rw [cU fun e=>h5 ((Ty.ext_iff t u).1 e).2.2.2.2];rfl);rw [cU h4] at hA;refine bY fun K hK=>?_;simp only [d1,e2,e3,go_sem];refine .inl ⟨_,_,by simp only [go_sem,aE],hA,?_⟩;(try simp only [go_sem]);refine hK _ ?_;refine cy ⟨.inl rfl,?_⟩;rw [cU fun e=>h4 ((Ty.ext_iff t u).1 e).2.2.2.1];rfl);rw [cU h3] at e3;refine bY fun K hK=>?_;simp only [d1,e2,e3,go_sem];refine hK _ ?_;refine cy ⟨.inl rfl,?_⟩;rw [cU fun e=>h3 ((Ty.ext_iff t u).1 e).2.2.1];rfl);rw [cU h2] at e2;refine bY fun K hK=>?_;simp only [d1,e2,go_sem];refine hK _ ?_;refine cy ⟨.inl rfl,?_⟩;rw [cU fun e=>h2 ((Ty.ext_iff t u).1 e).2.1];rfl);have d1:decide (t.kind=u.kind)=false:=decide_eq_false h1;refine bY fun K hK=>?_;simp only [d1,go_sem];refine hK _ ?_;refine cy ⟨.inl rfl,?_⟩;rw [cU fun e=>h1 ((Ty.ext_iff t u).1 e).1];rfl
section
attribute [local irreducible] runM gQ rv
theorem EX (ts us:List Ty) (hl:ts.length<=1048576) (hg:∀ (i:Nat) (t u:Ty),ts[i]?=some t->us[i]?=some u->dz ak 18 [cA t,cA u] (bl (sd t u))) :
  dz ak 62 [.slice (cV ts),.slice (cV us)] (bl (sd ts us)):=by
 refine jt Tryz.func62 Tryz.call62 ?_;simp only [dD,dj,Tryz.ntmps62,af,ah,zA,zF,aV,aW];refine bY fun K hK=>?_;simp only [go_sem];refine hK _ ?_;refine bS ?_;by_cases hlen:ts.length=us.length;·(have hd:(!decide ((ts.length:Int)=(us.length:Int)))=false:=by simp [hlen]);refine bY fun K hK=>?_;simp only [bc,hd,go_sem];refine hK _ ?_;refine bD rfl (cR ?_);show fc _ _ _ _ _ _;refine bS ?_;refine bY fun K hK=>?_;simp only [go_sem];refine hK _ ?_;refine cz (dY (fun N st=>∃ (i:Nat),N=ts.length-i/\i<=ts.length/\ts.take i=us.take i /\ st = { fr:=[.slice (cV ts),.slice (cV us),.undef,.undef,.undef,num i]++List.replicate 21 .undef,mem:=[] }) ts.length ?_ ?_);(·exact⟨0,[true,true,false,false,false,true],by omega,by simp only [cp,aQ,bC,a6,zB,lP],rfl,0,by omega,by omega,by simp,rfl⟩);rintro N' st ⟨i,rfl,hi,AZ,rfl⟩;simp only [dD,aV,aW];refine bS ?_;by_cases bH:i<ts.length;(·have hd:=kD bH;refine bY fun K hK=>?_;simp only [bc,hd,go_sem];refine hK _ ?_;refine bD rfl (cR ?_);refine bS (cz ?_);obtain⟨t,ht⟩:=gA bH;obtain⟨u,hu⟩:=gB us i (by omega);have Tz:=hg i t u ht hu;rw [aF,aF] at Tz;simp only [au] at Tz;refine vg tt_ok nI [pN,pN,pR,pR,pN,pN,pR,pR,pN,pN] 0 kr fun K hK=>?_;simp only [cK,ht,hu,aF,au,go_sem,List.replicate];refine⟨_,_,by simp only [go_sem,aE],.inl (Tz),?_⟩;(try simp only [go_sem,List.replicate]);refine hK _ ?_;(have TA:∀ h:t=u,ts.take (i+1)=us.take (i+1):=fun h=>by rw [cg,cg,AZ,ht,hu,h]);by_cases NS:t=u;(·rw [eu NS];refine bD rfl (cR ?_);show fc _ _ _ _ _ _;refine jR fun K hK=>?_;simp only [go_sem];refine hK _ ?_;have iR:=bj i (by omega);rw [iR];exact⟨ts.length-(i+1),by omega,0,[true,true,false,false,false,true],by omega,by simp only [cp,aQ,bC,a6,zB,lP],rfl,i+1,rfl,bH,TA NS,rfl⟩);rw [cU NS];refine bD rfl ?_;refine bY fun K hK=>?_;simp only [go_sem];refine hK _ ?_;refine cy ⟨.inl rfl,?_⟩;rw [cU (fun e=>NS (by rw [e,hu] at ht;exact (mP ht).symm))];rfl);have hd:=kE bH;refine bY fun K hK=>?_;simp only [bc,hd,go_sem];refine hK _ ?_;refine bD rfl (fA ?_);(have jx:i=ts.length:=by omega);subst jx;show fc _ _ _ _ _ _;refine bY fun K hK=>?_;simp only [go_sem];refine hK _ ?_;refine cy ⟨.inl rfl,?_⟩;(have he:ts=us:=by rw [aE] at AZ;rw [AZ,hlen,aE]);rw [eu he];rfl
 have hd:(!decide ((ts.length:Int)=(us.length:Int)))=true:=by simp;omega
 refine bY fun K hK=>?_;simp only [bc,hd,go_sem];refine hK _ ?_;refine bD rfl ?_;refine bY fun K hK=>?_;simp only [go_sem];refine hK _ ?_;refine cy ⟨.inl rfl,?_⟩;rw [cU (fun e=>hlen (by rw [e]))];rfl
def ny (id:Nat):Code->Option (Array Oper)
 | .region j ops _=>if j=id then some ops else none
 | .seq a b=>match ny id a with|some x=>some x|none=>ny id b
 | .cond _ a b=>match ny id a with|some x=>some x|none=>ny id b
 | .block _ c=>ny id c
 | .loop c=>ny id c
 | _=>none
def A6 (id:Nat) (fn:Func):Option (Array Oper):=match fn.body with|some b=>ny id b|none=>none
def GV (t u:Ty) (i:Nat) (b:Bool) (K:St->Prop):Prop:=∀ fr:List V,cp ([false,false,true,true,false,true]++List.replicate 78 false++[true]) fr=[.undef,.undef,.ptr 0 0,.ptr 1 0,.undef,num i]++List.replicate 78 .undef++[bl b]++List.replicate 5 .undef ->
 K { fr:=fr,mem:=[.box (au t),.box (au u)] }
section
variable {t u:Ty} {i:Nat} {f g:Fd} (hf:t.bT[i]?=some f) (hg:u.bT[i]?=some g) {a0 a b c d:V} {K:St->Prop} {ops:Array Oper} (ho:A6 6 Tryz.f18=some ops)
include hf hg ho in
theorem Mi (h5:¬ f.name=g.name) (hK:GV t u i true K) :
  runM ak tt ops 2 ops.toList [pN,pR,pN,pR,pN,pR,pN,pR,pN,pR,pN,pR,pN,pN,pN,pR,pN,pR,pN,pR,pN,pR,pN,pR,pN,pR,pN,pN,pN,pN,pR,pN,pR,pN,pR,pN,pR,pN,pR,pN,pR,pN,pN,pN] { fr:=[.undef,.undef,.ptr 0 0,.ptr 1 0,.undef,num i]++List.replicate 28 .undef++[a0,a,b,c,d]++List.replicate 51 .undef,mem:=[.box (au t),.box (au u)]++List.replicate 0 .hole } K:=by simp only [A6,Tryz.f18,ny,zE,if_false,if_true,reduceIte,aD] at ho;subst ho;have e5:=nN f.name g.name;have hT:ak.underlying 4=some .bool:=kr;have e6:=fun x y=>F7 (P:=ak) (T:=4) x y hT;rw [cU h5] at e5;simp only [dD,aV,aW,au];refine eE 5 (by simp) (by simp) fun K1 l7=>?_;simp only [bP,hf,hg,bL,au,e5,go_sem,List.replicate];refine l7 _ ?_;refine eE 5 (by simp) (by simp) fun K1 l7=>?_;simp only [bP,hf,hg,bL,au,e5,go_sem,List.replicate];refine l7 _ ?_;refine eE 5 (by simp) (by simp) fun K1 l7=>?_;simp only [bP,hf,hg,bL,au,e5,go_sem,List.replicate];refine l7 _ ?_;refine eE 5 (by simp) (by simp) fun K1 l7=>?_;simp only [bP,hf,hg,bL,au,e5,go_sem,List.replicate];refine l7 _ ?_;refine eE 5 (by simp) (by simp) fun K1 l7=>?_;simp only [bP,hf,hg,bL,au,e5,go_sem,List.replicate];refine l7 _ ?_;refine eE 5 (by simp) (by simp) fun K1 l7=>?_;simp only [bP,hf,hg,bL,au,e5,go_sem,List.replicate];refine l7 _ ?_;refine eE 5 (by simp) (by simp) fun K1 l7=>?_;simp only [bP,hf,hg,bL,au,e5,go_sem,List.replicate];refine l7 _ ?_;refine eE 5 (by simp) (by simp) fun K1 l7=>?_;simp only [bP,hf,hg,bL,au,e5,go_sem,List.replicate];refine l7 _ ?_;simp only [go_sem,List.replicate];exact hK _ (by simp only [cp,aV,aW,al,aq,lP])
include hf hg ho in
theorem P5 (h5:f.name=g.name) (h6:¬ f.opt=g.opt) (hK:GV t u i true K) :
  runM ak tt ops 2 ops.toList [pN,pR,pN,pR,pN,pR,pN,pR,pN,pR,pN,pR,pN,pN,pN,pR,pN,pR,pN,pR,pN,pR,pN,pR,pN,pR,pN,pN,pN,pN,pR,pN,pR,pN,pR,pN,pR,pN,pR,pN,pR,pN,pN,pN] { fr:=[.undef,.undef,.ptr 0 0,.ptr 1 0,.undef,num i]++List.replicate 28 .undef++[a0,a,b,c,d]++List.replicate 51 .undef,mem:=[.box (au t),.box (au u)]++List.replicate 0 .hole } K:=by
 simp only [A6,Tryz.f18,ny,zE,if_false,if_true,reduceIte,aD] at ho;subst ho;have e5:=nN f.name g.name;have hT:ak.underlying 4=some .bool:=kr;have e6:=fun x y=>F7 (P:=ak) (T:=4) x y hT;rw [eu h5] at e5;have e7:(f.opt==g.opt)=false:=by simpa using h6
 simp only [dD,aV,aW,au];refine eE 5 (by simp) (by simp) fun K1 l7=>?_;simp only [bP,hf,hg,bL,au,e5,e6,e7,go_sem,List.replicate];refine l7 _ ?_;refine eE 5 (by simp) (by simp) fun K1 l7=>?_;simp only [bP,hf,hg,bL,au,e5,e6,e7,go_sem,List.replicate];refine l7 _ ?_;refine eE 5 (by simp) (by simp) fun K1 l7=>?_;simp only [bP,hf,hg,bL,au,e5,e6,e7,go_sem,List.replicate];refine l7 _ ?_;refine eE 5 (by simp) (by simp) fun K1 l7=>?_;simp only [bP,hf,hg,bL,au,e5,e6,e7,go_sem,List.replicate];refine l7 _ ?_;refine eE 5 (by simp) (by simp) fun K1 l7=>?_;simp only [bP,hf,hg,bL,au,e5,e6,e7,go_sem,List.replicate];refine l7 _ ?_;refine eE 5 (by simp) (by simp) fun K1 l7=>?_;simp only [bP,hf,hg,bL,au,e5,e6,e7,go_sem,List.replicate];refine l7 _ ?_;refine eE 5 (by simp) (by simp) fun K1 l7=>?_;simp only [bP,hf,hg,bL,au,e5,e6,e7,go_sem,List.replicate];refine l7 _ ?_;refine eE 5 (by simp) (by simp) fun K1 l7=>?_;simp only [bP,hf,hg,bL,au,e5,e6,e7,go_sem,List.replicate];refine l7 _ ?_;simp only [go_sem,List.replicate];exact hK _ (by simp only [cp,aV,aW,al,aq,lP])
include hf hg ho in
theorem JL (h5:f.name=g.name) (h6:f.opt=g.opt) (r:Bool) (kq:dz ak 18 [.agg (au f.ty),.agg (au g.ty)] (bl r)) (hK:GV t u i (!r) K) :
  runM ak tt ops 2 ops.toList [pN,pR,pN,pR,pN,pR,pN,pR,pN,pR,pN,pR,pN,pN,pN,pR,pN,pR,pN,pR,pN,pR,pN,pR,pN,pR,pN,pN,pN,pN,pR,pN,pR,pN,pR,pN,pR,pN,pR,pN,pR,pN,pN,pN] { fr:=[.undef,.undef,.ptr 0 0,.ptr 1 0,.undef,num i]++List.replicate 28 .undef++[a0,a,b,c,d]++List.replicate 51 .undef,mem:=[.box (au t),.box (au u)]++List.replicate 0 .hole } K:=by
 simp only [A6,Tryz.f18,ny,zE,if_false,if_true,reduceIte,aD] at ho;subst ho;have e5:=nN f.name g.name;have hT:ak.underlying 4=some .bool:=kr;have e6:=fun x y=>F7 (P:=ak) (T:=4) x y hT;rw [eu h5] at e5;have e7:(f.opt==g.opt)=true:=by simpa using h6
 simp only [au] at kq;simp only [dD,aV,aW,au];refine eE 5 (by simp) (by simp) fun K1 l7=>?_;simp only [bP,hf,hg,bL,au,e5,e6,e7,go_sem,List.replicate];refine l7 _ ?_;refine eE 5 (by simp) (by simp) fun K1 l7=>?_;simp only [bP,hf,hg,bL,au,e5,e6,e7,go_sem,List.replicate];refine l7 _ ?_;refine eE 5 (by simp) (by simp) fun K1 l7=>?_;simp only [bP,hf,hg,bL,au,e5,e6,e7,go_sem,List.replicate];refine l7 _ ?_;refine eE 5 (by simp) (by simp) fun K1 l7=>?_;simp only [bP,hf,hg,bL,au,e5,e6,e7,go_sem,List.replicate];refine l7 _ ?_;refine eE 5 (by simp) (by simp) fun K1 l7=>?_;simp only [bP,hf,hg,bL,au,e5,e6,e7,go_sem,List.replicate];refine l7 _ ?_;refine eE 5 (by simp) (by simp) fun K1 l7=>?_;simp only [bP,hf,hg,bL,au,e5,e6,e7,go_sem,List.replicate];refine l7 _ ?_;refine eE 5 (by simp) (by simp) fun K1 l7=>?_;simp only [bP,hf,hg,bL,au,e5,e6,e7,go_sem,List.replicate];refine l7 _ ?_;refine eE 5 (by simp) (by simp) fun K1 l7=>?_;simp only [bP,hf,hg,bL,au,e5,e6,e7,go_sem,List.replicate];refine l7 _ ?_;simp only [bP,hf,hg,bL,au,go_sem,List.replicate];refine⟨_,_,by simp only [go_sem,aE],.inl (kq),?_⟩;try simp only [go_sem,List.replicate]
 exact hK _ (by simp only [cp,aV,aW,al,aq,lP])
end
theorem xR:∀ (N:Nat) (t u:Ty),t.size<=N->N<=1048576->dz ak 18 [cA t,cA u] (bl (sd t u)):=by
 intro N
 induction N with
 | zero=>intro t u h;have:=t.size_pos;omega
 | succ N ih =>
  intro t u hN hb
  have Cx:=t.gI
  have hA:=EX t.args u.args (by omega) fun i a b ha _=>ih a b (by have:=Ty.EV ha;omega) (by omega)
  refine jt Tryz.func18 Tryz.call18 ?_
  simp only [dD,dj,Tryz.ntmps18,af,ah,zA,zF,aV,aW]
  rw [aF,aF]
  simp only [au]
  have e2:=nN t.mod u.mod
  have e3:=nN t.name u.name
  refine bY fun K hK=>?_
  simp only [go_sem]
  refine hK _ ?_
  refine bS ?_
  by_cases cZ:t.kind=u.kind/\t.mod=u.mod/\t.name=u.name/\t.bT.length=u.bT.length
  ·obtain⟨h1,h2,h3,h4⟩:=cZ
   have d1:decide (t.kind=u.kind)=true:=decide_eq_true h1
   rw [eu h2] at e2
   rw [eu h3] at e3
   have d4:decide ((t.bT.length:Int)=(u.bT.length:Int))=true:=by simp [h4]
   refine bY fun K hK=>?_
   simp only [d1,e2,e3,d4,dr,go_sem]
   refine hK _ ?_
   refine bD rfl (cR ?_)
   show fc _ _ _ _ _ _
   refine bS ?_
   refine bY fun K hK=>?_
   simp only [go_sem]
   refine hK _ ?_
   refine cz (dY (fun N st=>∃ (i:Nat),N=t.bT.length-i/\i<=t.bT.length/\t.bT.take i=u.bT.take i /\
    st = { fr:=[.undef,.undef,.ptr 0 0,.ptr 1 0,.undef,num i]++List.replicate 84 .undef,mem:=[.box (au t),.box (au u)] }) t.bT.length ?_ ?_)
   ·exact⟨2,[false,false,true,true,false,true],by omega,by simp only [cp,aQ,bC,a6,zB,lP],by simp only [cp,aQ,bC,a6,zB,lP],0,by omega,by omega,by simp,rfl⟩
   rintro N' st ⟨i,rfl,hi,AZ,rfl⟩
   simp only [dD,aV,aW,au]
   refine bS ?_
   by_cases bH:i<t.bT.length
   ·have hd:=kD bH
    refine bY fun K hK=>?_
    simp only [dr,hd,go_sem]
    refine hK _ ?_
    refine bD rfl (cR ?_)
    refine bS (cz ?_)
    obtain⟨f,hf⟩:=gA bH
    obtain⟨g,hg⟩:=gB u.bT i (by omega)
    have kq:=ih f.ty g.ty (by have:=Ty.EW hf;omega) (by omega)
    rw [aF,aF] at kq
    have no:¬ f=g->¬ t=u:=fun h e=>h (by rw [e,hg] at hf;exact (mP hf).symm)
    refine vg tt_ok nI [pN,pR,pN,pR,pN,pR,pN,pR,pN,pR,pN,pR,pN,pN,pN,pR,pN,pR,pN,pR,pN,pR,pN,pR,pN,pR,pN,pN,pN,pN,pR,pN,pR,pN,pR,pN,pR,pN,pR,pN,pR,pN,pN,pN] 0 kr fun K hK=>?_
    have TB:¬ t=u->GV t u i true K:=fun dI fr AM=>by
     refine hK _ ?_
     refine qC 2 ([false,false,true,true,false,true]++List.replicate 78 false++[true]) (by omega) (by rw [AM];simp only [aV,aW,al,aq,cp,aQ,bC,a6,zB,lP]) (by simp only [au,cp,aQ,bC,a6,zB,lP]) ?_
     rw [AM]
     simp only [dD,aV,aW]
     refine bD rfl ?_
     refine bY fun K hK=>?_
     simp only [go_sem]
     refine hK _ ?_
     refine cy ⟨.inl rfl,?_⟩
     rw [cU dI];rfl
    by_cases h5:f.name=g.name
    ·by_cases h6:f.opt=g.opt
     ·by_cases h7:f.ty=g.ty
      ·rw [eu h7] at kq
       refine JL hf hg rfl h5 h6 true kq fun fr AM=>?_
       refine hK _ ?_
       refine qC 2 ([false,false,true,true,false,true]++List.replicate 78 false++[true]) (by omega) (by rw [AM];simp only [aV,aW,al,aq,cp,aQ,bC,a6,zB,lP]) (by simp only [au,cp,aQ,bC,a6,zB,lP]) ?_
       rw [AM]
       simp only [dD,aV,aW]
       refine bD rfl (cR ?_)
       show fc _ _ _ _ _ _
       refine jR fun K hK=>?_
       simp only [go_sem]
       refine hK _ ?_
       have iR:=bj i (by omega)
       rw [iR]
       have hfg:f=g:=(Fd.ext_iff f g).2 ⟨h5,h6,h7⟩
       exact⟨t.bT.length-(i+1),by omega,2,[false,false,true,true,false,true],by omega,by simp only [cp,aQ,bC,a6,zB,lP],by simp only [au,cp,aQ,bC,a6,zB,lP],i+1,rfl,bH,by rw [cg,cg,AZ,hf,hg,hfg],rfl⟩
      rw [cU h7] at kq
      exact JL hf hg rfl h5 h6 false kq (TB (no fun e=>h7 ((Fd.ext_iff f g).1 e).2.2))
     exact P5 hf hg rfl h5 h6 (TB (no fun e=>h6 ((Fd.ext_iff f g).1 e).2.1))
    exact Mi hf hg rfl h5 (TB (no fun e=>h5 ((Fd.ext_iff f g).1 e).1))
   have hd:=kE bH
   refine bY fun K hK=>?_
   simp only [dr,hd,go_sem]
   refine hK _ ?_
   refine bD rfl (fA ?_)
   have jx:i=t.bT.length:=by omega
   subst jx
   show fc _ _ _ _ _ _
   refine bY fun K hK=>?_
   simp only [go_sem]
   refine .inl ⟨_,_,by simp only [go_sem,aE],hA,?_⟩
   try simp only [go_sem]
   refine hK _ ?_
   refine cy ⟨.inl rfl,?_⟩
   have nX:t.bT=u.bT:=by
    rw [aE] at AZ
    rw [AZ,h4,aE]
   by_cases h8:t.args=u.args
   ·rw [eu h8,eu ((Ty.ext_iff t u).2 ⟨h1,h2,h3,h8,nX⟩)];rfl
   rw [cU h8,cU fun e=>h8 ((Ty.ext_iff t u).1 e).2.2.2.1];rfl
  have fin:∀ x,x=false->sd t u=x:=fun x hx=>by
   rw [hx]
   refine cU fun e=>cZ ?_
   obtain⟨h1,h2,h3,-,h5⟩:=(Ty.ext_iff t u).1 e
   exact⟨h1,h2,h3,by rw [h5]⟩
  rw [fin false rfl]
  have no:decide (t.kind=u.kind)=true->sd t.mod u.mod=true->sd t.name u.name=true->decide ((t.bT.length:Int)=(u.bT.length:Int))=true->False:=fun a b c d =>
   cZ ⟨qB a,GU.1 b,GU.1 c,by have:=qB d;omega⟩
  cases d1:decide (t.kind=u.kind) with
  | false =>
   refine bY fun K hK=>?_
   simp only [d1,go_sem]
   refine hK _ ?_
   refine bD rfl ?_
   refine bY fun K hK=>?_
   simp only [go_sem]
   refine hK _ ?_
   exact cy ⟨.inl rfl,rfl⟩
  | true =>
   cases d2:sd t.mod u.mod with
   | false =>
    rw [d2] at e2
    refine bY fun K hK=>?_
    simp only [d1,e2,go_sem]
    refine hK _ ?_
    refine bD rfl ?_
    refine bY fun K hK=>?_
    simp only [go_sem]
    refine hK _ ?_
    exact cy ⟨.inl rfl,rfl⟩
   | true =>
    rw [d2] at e2
    cases d3:sd t.name u.name with
    | false =>
     rw [d3] at e3
     refine bY fun K hK=>?_
     simp only [d1,e2,e3,go_sem]
     refine hK _ ?_
     refine bD rfl ?_
     refine bY fun K hK=>?_
     simp only [go_sem]
     refine hK _ ?_
     exact cy ⟨.inl rfl,rfl⟩
    | true =>
     rw [d3] at e3
     cases d4:decide ((t.bT.length:Int)=(u.bT.length:Int)) with
     | false =>
      refine bY fun K hK=>?_
      simp only [d1,e2,e3,d4,dr,go_sem]
      refine hK _ ?_
      refine bD rfl ?_
      refine bY fun K hK=>?_
      simp only [go_sem]
      refine hK _ ?_
      exact cy ⟨.inl rfl,rfl⟩
     | true=>exact (no d1 d2 d3 d4).elim
end
section
attribute [local irreducible] runM gQ rv
noncomputable def Dc.clear (d:Dc):Bool:=sd d.lower d.upper&&sd d.upper d.type
theorem Dc.P6 (d:Dc):(sd d.lower d.type&&sd d.upper d.type)=d.clear:=by rw [jA];simp only [Dc.clear,aG,GU];exact⟨fun h=>⟨h.1.trans h.2.symm,h.2⟩,fun h=>⟨h.1.trans h.2,h.2⟩⟩
noncomputable def Dc.size (d:Dc):Nat :=
 1+d.params.length+(if d.kind=0 then d.type.size+(if d.clear=true then 0 else d.lower.size+d.upper.size)
  else if d.kind=1 then d.type.size+d.expr.size+aU (fun p=>p.bound.size) d.params else 0)
theorem Dc.size_le (d:Dc):d.size<=d.dE:=by
 have:=Ex.jT _ d.expr (aA _);unfold Dc.size Dc.dE;split;·split <;> omega
 split <;> omega
noncomputable def Md.size (m:Md):Nat:=1+m.imports.length+aU Dc.size m.decls
theorem P7 (d:Dc) (hd:d.dE<=1048576):dz ak 254 [ct d] (bl d.clear):=by unfold Dc.dE at hd;have hA:=CL d.lower.size d.lower d.upper (aA _) (by omega);have hB:=CL d.upper.size d.upper d.type (aA _) (by omega);rw [aF,aF] at hA hB;simp only [au] at hA hB;refine jt Tryz.func254 Tryz.call254 ?_;simp only [dD,dj,Tryz.ntmps254,af,ah,zA,zF,aV,aW];rw [JH];simp only [dD,iX,au,aH];refine bY fun K hK=>?_;simp only [go_sem];refine hK _ ?_;unfold Dc.clear;cases h1:sd d.lower d.upper with|false =>rw [h1] at hA;refine bY fun K hK=>?_;simp only [go_sem];refine .inl ⟨_,_,by simp only [go_sem,aE],hA,?_⟩;(try simp only [go_sem]);refine hK _ ?_;exact cy ⟨.inl rfl,rfl⟩|true =>rw [h1] at hA;refine bY fun K hK=>?_;simp only [go_sem];refine .inl ⟨_,_,by simp only [go_sem,aE],hA,?_⟩;(try simp only [go_sem]);refine .inl ⟨_,_,by simp only [go_sem,aE],hB,?_⟩;(try simp only [go_sem]);refine hK _ ?_;exact cy ⟨.inl rfl,rfl⟩
theorem EY (d:Dc) (hd:d.dE<=1048576):dz ak 83 [ct d] (bl d.clear):=by unfold Dc.dE at hd;have hA:=xR d.lower.size d.lower d.type (aA _) (by omega);have hB:=xR d.upper.size d.upper d.type (aA _) (by omega);rw [aF,aF] at hA hB;simp only [au] at hA hB;rw [<- Dc.P6];refine jt Tryz.func83 Tryz.call83 ?_;simp only [dD,dj,Tryz.ntmps83,af,ah,zA,zF,aV,aW];rw [JH];simp only [dD,iX,au,aH];refine bY fun K hK=>?_;simp only [go_sem];refine hK _ ?_;cases h1:sd d.lower d.type with|false =>rw [h1] at hA;refine bY fun K hK=>?_;simp only [go_sem];refine .inl ⟨_,_,by simp only [go_sem,aE],hA,?_⟩;(try simp only [go_sem]);refine hK _ ?_;exact cy ⟨.inl rfl,rfl⟩|true =>rw [h1] at hA;refine bY fun K hK=>?_;simp only [go_sem];refine .inl ⟨_,_,by simp only [go_sem,aE],hA,?_⟩;(try simp only [go_sem]);refine .inl ⟨_,_,by simp only [go_sem,aE],hB,?_⟩;(try simp only [go_sem]);refine hK _ ?_;exact cy ⟨.inl rfl,rfl⟩
end
structure Fo where
  fl:g6
  ty:Int
  lb:Bool
  kd:Int
def kI (k:Int):Option Fo :=
  if k=0 then some ⟨⟨#[98]⟩,0,false,0⟩ else if k=1 then some ⟨⟨#[120]⟩,0,false,0⟩ else if k=2 then some ⟨⟨#[98]⟩,0,false,0⟩ else if k=3 then some ⟨⟨#[110]⟩,0,false,0⟩
  else if k=4 then some ⟨⟨#[109,110]⟩,-1,false,0⟩ else if k=5 then some ⟨⟨#[]⟩,0,true,0⟩ else if k=6 then some ⟨⟨#[110]⟩,0,false,1⟩ else if k=7 then some ⟨⟨#[110]⟩,0,false,1⟩
  else if k=8 then some ⟨⟨#[116,111]⟩,0,true,1⟩ else if k=9 then some ⟨⟨#[]⟩,0,true,1⟩ else if k=10 then some ⟨⟨#[110]⟩,0,false,2⟩ else if k=11 then some ⟨⟨#[]⟩,1,false,1⟩
  else if k=12 then some ⟨⟨#[]⟩,1,false,3⟩ else if k=13 then some ⟨⟨#[118]⟩,1,true,1⟩ else if k=14 then some ⟨⟨#[]⟩,1,false,-1⟩ else if k=15 then some ⟨⟨#[110,120]⟩,1,false,3⟩
  else if k=16 then some ⟨⟨#[110]⟩,0,false,-1⟩ else none
def me (fl s:g6):Bool:=Lib.contains fl.data.toList s.data.toList
def uX:List g6:=[⟨#[43]⟩,⟨#[45]⟩,⟨#[42]⟩,⟨#[60]⟩,⟨#[61,61]⟩,⟨#[61,61,61]⟩,⟨#[43,43]⟩,⟨#[97,110,100]⟩,⟨#[111,114]⟩]
def wi:List g6:=[⟨#[110,111,116]⟩,⟨#[108,101,110,103,116,104]⟩]
def Ac (s:g6):Int:=if qk s uX=true then 2 else if qk s wi=true then 1 else 0
def fR (l:List Lb):Nat:=(l.filter Lb.opt).length
def mH (x:Ex) (kd:Int):Int:=if x.kind=16 then Ac x.name else if x.kind=8 then 1+fR x.labels else if kd<0 then -1 else kd+x.labels.length
def mK (fl:g6) (l:Lb):Bool:=!jI l.var && !me fl ⟨#[118]⟩ || !eZ l.ty && !me fl ⟨#[116]⟩||l.opt && !me fl ⟨#[111]⟩
def q1 (x:Ex) (fl:g6):Bool:=!jI x.mod && !me fl ⟨#[109]⟩
def q2 (x:Ex) (fl:g6):Bool:=!jI x.name && !me fl ⟨#[110]⟩
def q3 (x:Ex) (fl:g6):Bool:=!jI x.text && !me fl ⟨#[120]⟩
def q4 (x:Ex) (fl:g6):Bool:=!decide (x.num=0) && !me fl ⟨#[98]⟩
def q5 (x:Ex):Bool:=decide (x.kind=2) && !decide (x.num=0) && !decide (x.num=1)
def q6 (x:Ex) (kd:Int):Bool:=decide (x.kind=16)&&decide (mH x kd=0)
def q7 (x:Ex) (ty:Int):Bool:=decide (0<=ty) && !decide ((x.types.length:Int)=ty)
def q8 (x:Ex) (lb:Bool):Bool:=decide (0<x.labels.length) && !lb
def q9 (x:Ex) (kd:Int):Bool:=decide (0<=mH x kd) && !decide ((x.kids.length:Int)=mH x kd)
def oY (x:Ex) (fl:g6) (ty:Int) (lb:Bool) (kd:Int):Bool :=
  !q1 x fl && !q2 x fl && !q3 x fl && !q4 x fl && !q5 x && !q6 x kd && !q7 x ty && !q8 x lb && !q9 x kd && !(x.labels.any (mK fl))
def sf (fl:g6) (l:Lb):Bool:=!dC l.name||me fl ⟨#[118]⟩ && !dC l.var
def m1 (x:Ex) (fl:g6):Bool:=me fl ⟨#[109]⟩ && !lD x.mod
def m2 (x:Ex) (fl:g6):Bool:=me fl ⟨#[110]⟩ && !decide (x.kind=16) && !dC x.name
def m3 (x:Ex):Bool:=decide (x.kind=15) && !dC x.text
def rM (x:Ex) (fl:g6):Bool:=m1 x fl||m2 x fl||m3 x||x.labels.any (sf fl)
def ou (x:Ex):Int:=match kI x.kind with
  | none=>1
  | some f=>if oY x f.fl f.ty f.lb f.kd=false then 1
    else if 32<x.labels.length\/8<x.types.length\/65536<x.text.size then 7
    else if rM x f.fl=true then 4
    else if iU (x.labels.map Lb.name)≠0 then iU (x.labels.map Lb.name)
    else if x.kind=15/\x.name=x.text then 5
    else cx j0 x.own
noncomputable def sg (e:Ex):Int:=if 4096<e.size\/32<e.depth then 7 else cx ou e.nodes
def mL (x:Ex):Bool:=decide (x.kind=0)&&jI x.mod&&jI x.name&&jI x.text&&decide (x.num=0)&&decide (x.types.length=0)&&decide (x.labels.length=0)&&decide (x.kids.length=0)
def od (d:Dc):Bool :=
  !(d.deprecated && !d.exported) && !(!jI d.note && !d.deprecated) &&
  (if d.kind=0 then !(d.params.any fun p=>!eZ p.bound) && !(d.params.any fun p=>decide (p.cQ<0)||decide (2<p.cQ))&&mL d.expr&&jI d.mod&&jI d.target
   else if d.kind=1 then !(d.params.any fun p=>!decide (p.cQ=0))&&eZ d.lower&&eZ d.upper&&jI d.mod&&jI d.target
   else if d.kind=2 then decide (d.params.length=0)&&eZ d.lower&&eZ d.upper&&eZ d.type&&mL d.expr else false)
def CM (d:Dc):Bool :=
  !(d.params.any fun p=>!iv p.name) &&
  (if d.kind=0 then iv d.name else if d.kind=1 then dC d.name
   else (dC d.name&&dC d.target||iv d.name&&iv d.target) && !jI d.mod&&lD d.mod)
noncomputable def qY (before:List Dc) (d:Dc):Int :=
  if od d=false then 1
  else if 8<d.params.length\/65536<d.note.size then 7
  else if CM d=false then 4
  else if (before.any fun x=>decide (x.name=d.name))=true then 5
  else if qN (d.params.map Pm.name)=true then 5
  else if cx j0 ([d.lower,d.upper,d.type]++d.params.map Pm.bound)≠0 then cx j0 ([d.lower,d.upper,d.type]++d.params.map Pm.bound)
  else sg d.expr
def qZ (path:g6) (before:List Im) (x:Im):Int :=
  if dH x.path=false\/dC x.alias=false then 4
  else if x.path=path then 14
  else if (before.any fun y=>decide (y.path=x.path)||decide (y.alias=x.alias))=true then 5 else 0
def ig {α:Type} (f:List α->α->Int):List α->List α->Nat×Int
  | _,[]=>(0,0)
  | b,x :: r=>if f b x=0 then (if (ig f (b++[x]) r).2=0 then (0,0) else ((ig f (b++[x]) r).1+1,(ig f (b++[x]) r).2)) else (0,f b x)
noncomputable def yZ (m:Md):Int :=
  if dH m.path=false then 4
  else if 16<m.imports.length\/64<m.decls.length\/4096<m.size then 7
  else (ig (qZ m.path) [] m.imports).2
noncomputable def qP (m:Md):Int×Int:=if yZ m≠0 then (-1,yZ m) else (((ig qY [] m.decls).1:Nat),(ig qY [] m.decls).2)
end Go.Proofs.YtfbbfmcggbapoaaGreatDoor
end
section
namespace Go.Proofs.YtfbbfmcggbapoaaGreatDoor
open Go.Eng
def bt (s:g6):List UInt8:=s.data.toList
def jn (sep:List UInt8):List (List UInt8)->List UInt8
  | []=>[]
  | x :: r=>x++r.flatMap fun y=>sep++y
theorem XI (sep x:List UInt8):∀ l:List (List UInt8),jn sep (l++[x])=jn sep l++(if l=[] then [] else sep)++x
  | []=>by simp [jn]
  | y :: r=>by simp [jn,qq]
theorem ov {sep:List UInt8} {l:List (List UInt8)} {i:Nat} {x:List UInt8} (h:l[i]?=some x):jn sep (l.take (i+1))=jn sep (l.take i)++(if 0<i then sep else [])++x:=by
  have bH:=(az.1 h).1;rw [cg,h,awE,XI];by_cases hi:0<i;·rw [gH hi,g5];intro e;have h2:=yJ List.length e;rw [eK,ah] at h2;omega
  ·(have:i=0:=by omega);subst this;simp
def EZ (m n:g6) (l:List (List UInt8)):List UInt8:=(if m=⟨#[]⟩ then [] else bt m++[58,58])++bt n++(if l=[] then [] else [91]++jn [44,32] l++[93])
def ZO (k:Int):List UInt8:=if k=0 then [97,110,121] else if k=1 then [110,111,110,101] else if k=2 then [105,110,116] else if k=3 then [98,111,111,108] else [116,101,120,116]
mutual
def Ty.pr:Ty->List UInt8
  | .mk k m n ar fs =>
    if k=5 then [108,105,115,116,91]++lj ar++[93]
    else if k=6 then [123]++jn [44,32] (E4 fs)++[125]
    else if k=7 then [60]++jn [32,124,32] (E4 fs)++[62]
    else if k=8 then [102,110,40]++jn [44,32] (E4 fs)++[41,32]++lj ar
    else if k=10 then EZ m n (NT ar)
    else ZO k
def lj:List Ty->List UInt8
  | []=>[]
  | t :: _=>t.pr
def NT:List Ty->List (List UInt8)
  | []=>[]
  | t :: r=>t.pr :: NT r
def Fd.pr:Fd->List UInt8
  | .mk n t o=>bt n++(if o=true then [63] else [])++[58,32]++t.pr
def E4:List Fd->List (List UInt8)
  | []=>[]
  | f :: r=>f.pr :: E4 r
end
theorem P8 (l:List Ty):NT l=l.map Ty.pr:=by induction l with|nil=>rfl|cons t r ih=>simp [NT,ih]
theorem P9 (l:List Fd):E4 l=l.map Fd.pr:=by induction l with|nil=>rfl|cons t r ih=>simp [E4,ih]
theorem Fd.eS (f:Fd):f.pr=bt f.name++(if f.opt=true then [63] else [])++[58,32]++f.ty.pr:=by obtain⟨n,t,o⟩:=f;rw [Fd.pr];rfl
theorem Ty.eS (t:Ty):t.pr=if t.kind=5 then [108,105,115,116,91]++lj t.args++[93]
    else if t.kind=6 then [123]++jn [44,32] (t.bT.map Fd.pr)++[125]
    else if t.kind=7 then [60]++jn [32,124,32] (t.bT.map Fd.pr)++[62]
    else if t.kind=8 then [102,110,40]++jn [44,32] (t.bT.map Fd.pr)++[41,32]++lj t.args
    else if t.kind=10 then EZ t.mod t.name (t.args.map Ty.pr)
    else ZO t.kind:=by obtain⟨k,m,n,ar,fs⟩:=t;rw [Ty.pr,P8,P9];rfl
def Av (s:g6):Int×Int×Int :=
  if s=⟨#[111,114]⟩ then (1,1,2) else if s=⟨#[97,110,100]⟩ then (2,2,3) else if s=⟨#[110,111,116]⟩ then (3,3,0)
  else if s=⟨#[61,61]⟩\/s=⟨#[61,61,61]⟩\/s=⟨#[60]⟩ then (4,5,5) else if s=⟨#[43]⟩\/s=⟨#[45]⟩\/s=⟨#[43,43]⟩ then (5,5,6)
  else if s=⟨#[42]⟩ then (6,6,7) else (7,7,0)
def Ex.lvl (x:Ex):Int :=
  if x.kind=10\/x.kind=12\/x.kind=13\/x.kind=15\/x.kind=8 then 0 else if x.kind=16 then (Av x.name).1
  else if x.kind=6\/x.kind=9 then 8 else if x.kind=0/\x.num<0 then 7 else 9
def ku (lv least:Int) (s:List UInt8):List UInt8:=if least<=lv then s else [40]++s++[41]
def NU (ls:List Lb) (P:List (List UInt8)):List UInt8:=jn [44,32] (List.zipWith (fun l p=>bt l.name++[58,32]++p) ls P)
def D1 (ls:List Lb) (P:List (List UInt8)):List UInt8:=jn [44,32] (List.zipWith (fun l p=>bt l.name++[32]++bt l.var++[32,61,62,32]++p) ls P)
def A7:List Lb->List (List UInt8)->List (List UInt8)
  | [],_=>[]
  | l :: r,P=>if l.opt=true then (bt l.name++[58,32]++l.ty.pr++[32,61,32]++P.headD []) :: A7 r P.tail else (bt l.name++[58,32]++l.ty.pr) :: A7 r P
def Qa (n:UInt8):UInt8:=if n<10 then 48+n else 87+n
def A8 (c:UInt8):List UInt8:=if c=34\/c=92 then [92,c] else if c=10 then [92,110] else if 32<=c/\c<=126 then [c] else [92,120,Qa (c / 16),Qa (c % 16)]
def Dy (s:g6):List UInt8:=[34]++(bt s).flatMap A8++[34]
def ZP (x:Ex) (P:List (List UInt8)):List UInt8 :=
  let a (i:Nat) (least:Int):List UInt8:=ku ((x.kids.map Ex.lvl)[i]?.getD 9) least (P[i]?.getD [])
  if x.kids.length=1 then bt x.name++[32]++a 0 (Av x.name).2.1 else a 0 (Av x.name).2.1++[32]++bt x.name++[32]++a 1 (Av x.name).2.2
def Dz (w:List UInt8) (ts:List Ty):List UInt8:=w++[91]++lj ts++[93]
def rN (x:Ex) (P:List (List UInt8)):List UInt8 :=
  let p (i:Nat):List UInt8:=P[i]?.getD []
  let f:List UInt8:=ku ((x.kids.map Ex.lvl)[0]?.getD 9) 8 (p 0)
  if x.kind=0 then Lib.itoa x.num else if x.kind=1 then Dy x.text
  else if x.kind=2 then (if x.num=1 then [116,114,117,101] else [102,97,108,115,101])
  else if x.kind=3\/x.kind=4 then EZ x.mod x.name (x.types.map Ty.pr)
  else if x.kind=5 then [123]++NU x.labels P++[125]
  else if x.kind=6 then f++[46]++bt x.name
  else if x.kind=7 then [60]++bt x.name++[58,32]++p 0++[62]
  else if x.kind=8 then [102,110,40]++jn [44,32] (A7 x.labels P)++[41,32,61,62,32]++p (x.labels.filter Lb.opt).length
  else if x.kind=9 then f++[40]++NU x.labels P.tail++[41]
  else if x.kind=10 then [108,101,116,32]++bt x.name++[32,61,32]++p 0++[32,105,110,32]++p 1
  else if x.kind=11 then [40]++p 0++[32,58,32]++lj x.types++[41]
  else if x.kind=12 then Dz [105,102] x.types++[32]++p 0++[32,116,104,101,110,32]++p 1++[32,101,108,115,101,32]++p 2
  else if x.kind=13 then Dz [109,97,116,99,104] x.types++[32]++p 0++[32,123]++D1 x.labels P.tail++[125]
  else if x.kind=14 then [91]++lj x.types++[124]++(if P=[] then [] else [32]++jn [44,32] P)++[93]
  else if x.kind=15 then Dz [102,111,108,100] x.types++[32]++bt x.name++[44,32]++bt x.text++[32,105,110,32]++p 0++[32,102,114,111,109,32]++p 1++[32,61,62,32]++p 2
  else ZP x P
mutual
def Ex.pr:Ex->List UInt8
  | .mk k m n t nu ts ls ks=>rN (.mk k m n t nu ts ls ks) (NV ks)
def NV:List Ex->List (List UInt8)
  | []=>[]
  | x :: r=>x.pr :: NV r
end
theorem Qb (l:List Ex):NV l=l.map Ex.pr:=by induction l with|nil=>rfl|cons t r ih=>simp [NV,ih]
theorem Ex.eS (x:Ex):x.pr=rN x (x.kids.map Ex.pr):=by obtain⟨k,m,n,t,nu,ts,ls,ks⟩:=x;rw [Ex.pr,Qb];rfl
def TC (v:Int):List UInt8:=if v=0 then [43] else if v=1 then [45] else [61]
def sw (kind:Int) (p:Pm):List UInt8:=if kind=0 then TC p.cQ++bt p.name else bt p.name++(if p.bound.kind=0 then [] else [32,60,58,32]++p.bound.pr)
def jl (kind:Int) (l:List Pm):List UInt8:=if l=[] then [] else [91]++jn [44,32] (l.map (sw kind))++[93]
def TD (trans:Bool) (d:Dc):List UInt8 :=
  if trans=true then [] else (if d.lower.kind=1 then [] else [32,62,58,32]++d.lower.pr)++(if d.upper.kind=0/\¬ d.lower.kind=1 then [] else [32,60,58,32]++d.upper.pr)
def A9 (trans:Bool) (d:Dc):List UInt8 :=
  (if d.exported=true then [101,120,112,111,114,116,32] else []) ++
  (if d.deprecated=true then [100,101,112,114,101,99,97,116,101,100,32]++Dy d.note++[32] else []) ++
  (if d.kind=0 then [116,121,112,101,32]++bt d.name++jl 0 d.params++TD trans d++[32,61,32]++d.type.pr
   else if d.kind=1 then [108,101,116,32]++bt d.name++jl 1 d.params++[58,32]++d.type.pr++[32,61,32]++d.expr.pr
   else [117,115,101,32]++bt d.mod++[58,58]++bt d.target++[32,97,115,32]++bt d.name)++[10]
def Ba (x:Im):List UInt8:=[105,109,112,111,114,116,32]++bt x.path++[32,97,115,32]++bt x.alias++[10]
def Bb (trans:Dc->Bool) (m:Md):List UInt8:=[109,111,100,117,108,101,32]++bt m.path++[10]++m.imports.flatMap Ba++m.decls.flatMap (fun d=>A9 (trans d) d)
end Go.Proofs.YtfbbfmcggbapoaaGreatDoor
end
section
namespace Go.Proofs.YtfbbfmcggbapoaaGreatDoor
open Go.Eng
variable [bJ]
theorem jK {α:Type} (f:α->Int) (l:List α):cx f l=0↔∀ u∈l,f u=0:=by induction l with|nil=>simp [cx]|cons a r ih =>unfold cx;by_cases h:f a=0;(·rw [gH h,ih];simp [h]);rw [g5 h];simp [h]
theorem bA (s:g6):(bt s).length=s.size:=by cases s;simp [bt,ByteArray.size]
theorem y0 (sep:List UInt8) (l:List (List UInt8)):(jn sep l).length<=aU (fun x=>x.length+sep.length) l:=by cases l with|nil=>simp [jn]|cons x r =>(have:(r.flatMap fun y=>sep++y).length=aU (fun x=>x.length+sep.length) r:=by induction r with|nil=>rfl|cons y r ih=>simp only [ag,ab,aU,ih];omega);simp only [jn,ab,aU,this];omega
theorem jU {α:Type} {g h:α->Nat} {l:List α} (e:∀ a∈l,g a<=h a):aU g l<=aU h l:=by induction l with|nil=>simp [aU]|cons a r ih =>have h1:=e a (by simp);have h2:=ih fun b hb=>e b (by simp [hb]);simp only [aU];omega
theorem l0 {α:Type} (c:Nat) (g:α->Nat) (l:List α):aU (fun a=>c*g a) l=c*aU g l:=by induction l with|nil=>simp [aU]|cons a r ih=>simp only [aU,ih,Nat.mul_add]
theorem lT {s:g6} (h:dC s=true):s.size<=32:=by simp only [dC,aG,decide_eq_true_eq] at h;omega
theorem Qc {s:g6} (h:iv s=true):s.size<=32:=by simp only [iv,aG,decide_eq_true_eq] at h;omega
theorem CN {s:g6} (h:jI s=true):s.size=0:=by simp only [jI,decide_eq_true_eq] at h;subst h;rfl
theorem Mj {s:g6} (h:dH s=true):s.size<=64:=by simp only [dH,aG,decide_eq_true_eq] at h;omega
theorem Qd {s:g6} (h:lD s=true):s.size<=64:=by
 simp only [lD,ez] at h;rcases h with (h|h)|h
 ·have:=CN h;omega
 ·have:=lT h;omega
 exact Mj h
theorem CO {m n:g6} {l:List (List UInt8)} {a b:Nat} (hm:m.size<=a) (hn:n.size<=b):(EZ m n l).length<=a+b+4+aU (fun x=>x.length+2) l:=by
 have h:(jn [44,32] l).length<=aU (fun x=>x.length+2) l:=y0 [44,32] l;have h1:(if m=⟨#[]⟩ then ([]:List UInt8) else bt m++[58,58]).length<=a+2:=by split;(·simp);rw [ab,bA];simp;omega
 have h2:(if l=[] then ([]:List UInt8) else [91]++jn [44,32] l++[93]).length<=2+aU (fun x=>x.length+2) l:=by split;(·simp);simp only [ab,af,ah];omega
 simp only [EZ,ab,bA];omega
theorem Ty.oF:∀ (N:Nat) (t:Ty),t.size<=N->(∀ u∈t.nodes,pd u=0)->t.pr.length+40<=144*t.size:=by intro N;induction N with|zero=>intro t h;have:=t.size_pos;omega|succ N ih =>intro t hN hn;have hs:=t.eA;rw [Ty.dZ] at hn;have h0:pd t=0:=hn t (by simp);(have hp:∀ u∈t.parts,u.pr.length+40<=144*u.size:=fun u hu=>by obtain⟨i,hi⟩:=br.1 hu;have:=bX Ty.size hi;exact ih u (by omega) fun v hv=>hn v (bZ _ (fU.2 ⟨u,hu,hv⟩)));(have ha:aU (fun u=>u.pr.length+40) t.args<=144*aU Ty.size t.args:=by rw [<- l0];exact jU fun u hu=>hp u (by simp [Ty.parts,hu]));(have M0:aU Ty.size t.parts=aU Ty.size t.args+aU (fun f=>f.ty.size) t.bT:=by simp only [Ty.parts,fO,ju]);(have EK:∀ f∈t.bT,f.name.size<=32:=by intro f hf;unfold pd at h0;(split at h0;· simp at h0);(split at h0;· simp at h0);(split at h0;· simp at h0);(split at h0;· simp at h0);rename_i h4;(have:dC f.name=true:=by cases h5:dC f.name with|true=>rfl|false=>exact absurd (u1.2 ⟨f,hf,by simp [h5]⟩) h4);exact lT this);(have hf:aU (fun f=>f.pr.length+3) t.bT<=144*aU (fun f=>f.ty.size) t.bT:=by rw [<- l0];refine jU fun f hf=>?_;have h1:=hp f.ty (by simp only [Ty.parts,ey,dS];exact .inr ⟨f,hf,rfl⟩);have h2:=EK f hf;(have h3:(if f.opt=true then ([63]:List UInt8) else []).length<=1:=by split <;> simp);rw [Fd.eS];simp only [ab,bA,af,ah];omega);(have ZQ:(lj t.args).length<=aU (fun u=>u.pr.length+40) t.args:=by cases t.args with|nil=>simp [lj]|cons a r=>simp only [lj,aU];omega);(have hj:∀ sep:List UInt8,sep.length<=3->(jn sep (t.bT.map Fd.pr)).length<=aU (fun f=>f.pr.length+3) t.bT:=fun sep wC=>by refine gw (y0 _ _) ?_;rw [ju];exact jU fun f _=>by omega);rw [Ty.eS];split;(·simp only [ab,af,ah];omega);split;(·have:=hj [44,32] (by simp);simp only [ab,af,ah];omega);split;(·have:=hj [32,124,32] (by simp);simp only [ab,af,ah];omega);split;(·have:=hj [44,32] (by simp);simp only [ab,af,ah];omega);split;(·rename_i sZ;(have RJ:t.mod.size<=64/\t.name.size<=32:=by unfold pd at h0;(split at h0;· simp at h0);(split at h0;· simp at h0);(split at h0;· simp at h0);rename_i h4;(have h5:lD t.mod=true/\iv t.name=true:=by cases h6:lD t.mod <;> cases h7:iv t.name <;> simp [sZ,h6,h7] at h4 ⊢);exact⟨Qd h5.1,Qc h5.2⟩);have:=CO (l:=t.args.map Ty.pr) RJ.1 RJ.2;rw [ju] at this;(have h8:aU (fun u:Ty=>u.pr.length+2) t.args<=aU (fun u=>u.pr.length+40) t.args:=jU fun u _=>by omega);omega);(have:(ZO t.kind).length<=4:=by unfold ZO;(repeat' split);all_goals simp);omega
end Go.Proofs.YtfbbfmcggbapoaaGreatDoor
end
section
namespace Go.Proofs.YtfbbfmcggbapoaaGreatDoor
section
open Go.Proofs Go.Lib Go.RowKit
theorem NW:∃ j,ak.info? 127=some j/\j.size=2:=bp.1 (show (ak.info? 127).map (·.size)=some 2 from kr)
def okB (T:g9):Prop:=liesAt ak ak.depth T (2 / ak.cellsOf T) 0 127 1=true
theorem xS:okB 127:=by unfold okB;kernel_rfl
theorem ahp:okB 129:=by unfold okB;kernel_rfl
theorem CP (b:Nat) (w:World) (h0:w.cell? ⟨b,0,none⟩=some (.pointer (some ⟨b,0,none⟩))) :
  Calls ak 212 #[.pointer (some ⟨b,0,none⟩)] w fun e w'=>e = .returned (.tuple #[])/\w'=w:=by obtain⟨j,hj,_⟩:=NW;go_enter Tryz.func212,Tryz.ntmps212;go_wp2;rw [Lib.run_neq_ptr_same w _ Tryz.underlying124 hj];go_wp2;go_end0;exact⟨rfl,rfl⟩
theorem Aw (T:g9) (hT:okB T) (b:Nat) (w:World) (h0:w.cell? ⟨b,0,none⟩=some (.pointer none)) (qp:w.shape? b=some (T,2)) (hfz:w.frozen? ⟨b,0,none⟩=false) :
  Calls ak 212 #[.pointer (some ⟨b,0,none⟩)] w fun e w'=>e = .returned (.tuple #[])/\w'=w.setCell ⟨b,0,none⟩ (.pointer (some ⟨b,0,none⟩)):=by obtain⟨j,hj,hjs⟩:=NW;go_enter Tryz.func212,Tryz.ntmps212;go_wp2;rw [Lib.run_to_unsafe w ⟨b,0,none⟩ Tryz.underlying124 Tryz.underlying245 hj (by rw [hjs];decide) qp (Nat.zero_lt_succ 1)];simp only [Result.andThen];rw [Oper.upon_value];go_wp2;rw [run_callFunc_extern Tryz.func261 kr kr kr (e:=Extern.AbiNoEscape.same) kr];rw [Lib.run_noEscape];simp only [Result.andThen];rw [Oper.upon_value];go_wp2;rw [Lib.run_from_unsafe w ⟨b,0,none⟩ Tryz.underlying245 Tryz.underlying124 hj qp hT];simp only [Result.andThen];rw [Oper.upon_value];go_wp2;go_end0;exact⟨rfl,rfl⟩
theorem CQ {P:g7} {ops:Array Oper} {rest:List Oper} {o:Oper} {a:Act} {Q:Exit->Act->World->Prop} {w w':World} (hgd:o.guard=none) (sl x:Operand) (t u:g9) (ho:o.op = .call { callee:=.builtin .append,args := #[sl,x],argTypes := #[t,u] })
  {v v' z:Value} (hs:a.eval sl=v) (hx:a.eval x=z) (hr:(Builtin.append_ #[t,u] o.type #[v,z]).run P w = .ok v' w') (h:wpList P ops Q rest (a.put o.dst v') w'):wpList P ops Q (o :: rest) a w:=by refine wpList_plain hgd fun K hK=>?_;unfold Oper.wp execOp;simp only [ho,resolve,invoke,builtin,Sem.run_bind,Sem.run_pure,Result.andThen_ok,List.map_toArray,bo,dR,hs,hx,hr];exact hK _ _ h
theorem xT (b:Nat) (s:g6) (w w1 w2:World) (sv sv2:Value) (va:Option Addr) (vn vc:Nat)
  (wD:Calls ak 212 #[.pointer (some ⟨b,0,none⟩)] w fun e w'=>e = .returned (.tuple #[])/\w'=w1) (c1:w1.cell? ⟨b,1,none⟩=some sv)
  (hr:(Builtin.append_ #[125,9] 125 #[sv,.string s]).run ak w1 = .ok (.slice va vn vc) w2) (d1:w2.cell? ⟨b,1,none⟩=some sv2) (f1:w2.frozen? ⟨b,1,none⟩=false) :
  Calls ak 135 #[.pointer (some ⟨b,0,none⟩),.string s] w fun e w'=>e = .returned (.tuple #[.int .i64 s.size,.nilIface])/\w'=w2.setCell ⟨b,1,none⟩ (.slice va vn vc):=by go_enter Tryz.func135,Tryz.ntmps135;go_wp2_with (go_at_call 212;refine wD.mono ?_);rintro e w' ⟨rfl,rfl⟩;go_wp2_with (at_builtin;refine CQ rfl _ _ 125 9 rfl rfl rfl hr ?_);go_wp2;go_ret2;exact⟨rfl,rfl⟩
theorem Ax (b:Nat) (c:Int) (w w1 w2:World) (sv sv2:Value) (va:Option Addr) (vn vc:Nat)
  (wD:Calls ak 212 #[.pointer (some ⟨b,0,none⟩)] w fun e w'=>e = .returned (.tuple #[])/\w'=w1) (c1:w1.cell? ⟨b,1,none⟩=some sv)
  (hr:(Builtin.append_ #[125,125] 125 #[sv,.slice (some ⟨w1.heap.size,0,none⟩) 1 1]).run ak (w1.alloc (.cells #[.int .u8 c] 5 (0,0))) = .ok (.slice va vn vc) w2) (d1:w2.cell? ⟨b,1,none⟩=some sv2) (f1:w2.frozen? ⟨b,1,none⟩=false) :
  Calls ak 195 #[.pointer (some ⟨b,0,none⟩),.int .u8 c] w fun e w'=>e = .returned .nilIface/\w'=w2.setCell ⟨b,1,none⟩ (.slice va vn vc):=by go_enter Tryz.func195,Tryz.ntmps195;go_wp2_with (go_at_call 212;refine wD.mono ?_);rintro e w' ⟨rfl,rfl⟩;go_wp2_with (at_builtin;refine CQ rfl _ _ 125 125 rfl rfl rfl hr ?_);go_wp2;go_ret;exact⟨rfl,rfl⟩
theorem Qe (b:Nat) (w:World) (va:Option Addr) (vn vc:Nat) (c1:w.cell? ⟨b,1,none⟩=some (.slice va vn vc)) :
  Calls ak 84 #[.pointer (some ⟨b,0,none⟩)] w fun e w'=>e = .returned (.int .i64 vn)/\w'=w:=by go_enter Tryz.func84,Tryz.ntmps84;go_wp2;go_ret;exact⟨rfl,rfl⟩
end
end Go.Proofs.YtfbbfmcggbapoaaGreatDoor
end
section
namespace Go.Proofs.YtfbbfmcggbapoaaGreatDoor
open Go.Eng
variable [bJ]
def bs (l:List UInt8):g6:=⟨l.toArray⟩
theorem E5 (l:List UInt8):bt (bs l)=l:=by simp [bt,bs]
theorem jL (s:g6):bs (bt s)=s:=by obtain⟨⟨l⟩⟩:=s;rfl
theorem nz (l:List UInt8):(bs l).size=l.length:=by simp [bs,ByteArray.size]
def bM (T:g9) (v:Nat) (O:List UInt8) (l:List bx):List bx:=.ox T 1 v O.length :: .pq 5 v O :: l
def WG (x:V) (T:g9) (O X:List UInt8) (l:List bx) (r:V) (m:List bx):Prop:=r=x/\∃ O' v',O'=O++X/\m=bM T v' O' l
abbrev WR:=WG (.fZ []) 129
theorem JM (T:g9) (v:Nat) (O:List UInt8):(bM T v O []).all (a6 2)=true:=rfl
theorem JN {x:V} {T:g9} {f:FuncId} {vs:List V} {O X:List UInt8} {v:Nat} (h:∃ r m,WG x T O X [] r m/\bK ak f vs (bM T v O []) r m) (hv:vs.all (aQ 2)=true) (hx:aQ 2 x=true) (l:List bx) :
  ∃ r m,WG x T O X l r m/\bK ak f vs (.ox T 1 v O.length :: .pq 5 v O :: l) r m:=by obtain⟨r,m,⟨rfl,O',v',rfl,rfl⟩,h⟩:=h;exact⟨_,_,⟨rfl,_,v',rfl,rfl⟩,h.frame hv (JM T v O) hx rfl (JM T v' _) l⟩
theorem uC {f:FuncId} {vs:List V} {O X:List UInt8} {v:Nat} (h:∃ r m,WR O X [] r m/\bK ak f vs (bM 129 v O []) r m) (hv:vs.all (aQ 2)=true) (l:List bx) :
  ∃ r m,WR O X l r m/\bK ak f vs (.ox 129 1 v O.length :: .pq 5 v O :: l) r m:=JN h hv rfl l
theorem nO (w:World) {g:Nat} {cs:Array Value} {T:g9} (h:w.heap[g]?=some (.cells cs T (0,0))) (o:Nat):w.cell? ⟨g,o,none⟩=cs[o]?:=by simp [World.cell?,h]
theorem ac2 {w:World} {g i:Nat} {cs:Array Value} {T:g9} (v:Value) (h:w.heap[g]?=some (.cells cs T (0,0))):pF w (w.setCell ⟨g,i,none⟩ v) g/\(w.setCell ⟨g,i,none⟩ v).heap[g]?=some (.cells (cs.setIfInBounds i v) T (0,0)) :=
 ⟨⟨rfl,rfl,rfl,by simp [World.setCell],fun b hb=>heap_setCell_other w _ b v hb⟩,heap_setCell_same w g i cs T v h⟩
theorem ZR {E:Env} {a b:V} {xs:Array Value} (hx:dh E [a,b] xs.toList):∃ x y,xs = #[x,y]/\df E a x/\df E b y:=by obtain⟨x0,ys,sA,DN,Co⟩:=hx.of_cons;obtain⟨x1,zs,hys,DJ,ac3⟩:=Co.of_cons;have Rr:=ac3.of_nil;subst Rr;subst hys;exact⟨x0,x1,by rw [<- cJ (xs:=xs),sA],DN,DJ⟩
theorem ZS {E:Env} {a:V} {xs:Array Value} (hx:dh E [a] xs.toList):∃ x,xs = #[x]/\df E a x:=by obtain⟨x0,ys,sA,DN,Co⟩:=hx.of_cons;obtain rfl:=Co.of_nil;exact⟨x0,by rw [<- cJ (xs:=xs),sA],DN⟩
theorem tt5i:∃ i,ak.info? 5=some i/\i.zero=some (.int .u8 0)/\i.size=1/\i.bytes=1:=by obtain⟨i,h1,h2⟩:=bp.1 (show (ak.info? 5).map (fun i=>(i.zero,i.size,i.bytes))=some (some (.int .u8 0),1,1) from kr);simp only [dK] at h2;exact⟨i,h1,h2.1,h2.2.1,h2.2.2⟩
theorem ZT {T:g9} (hT:okB T) {E:Env} {w:World} {a:Act} {fr:List V} {v:Nat} {O:List UInt8} {l:List bx} (hs:dt E w a { fr:=fr,mem:=bM T v O l }) :
  ∃ g T' sv w1,E.cE 0 0=some (g,0,0)/\Calls ak 212 #[.pointer (some ⟨g,0,none⟩)] w (fun e w'=>e = .returned (.tuple #[])/\w'=w1)/\w1.heap[g]?=some (.cells #[.pointer (some ⟨g,0,none⟩),sv] T' (0,0))/\df E (.ms 1 v 0 O.length) sv /\
   dt E w1 a { fr:=fr,mem:=bM T v O l }/\iF E w E w1:=by
 obtain⟨g,T',p,sv,gY,hh,hp,ym,hF⟩:=hs.mem 0 _ rfl;obtain⟨w1,wD,DO,OY⟩:∃ w1,Calls ak 212 #[.pointer (some ⟨g,0,none⟩)] w (fun e w'=>e = .returned (.tuple #[])/\w'=w1)/\pF w w1 g/\w1.heap[g]?=some (.cells #[.pointer (some ⟨g,0,none⟩),sv] T' (0,0)):=by (rcases hp with ⟨rfl,rfl⟩|rfl);(·obtain⟨h1,h2⟩:=ac2 (i:=0) (.pointer (some ⟨g,0,none⟩)) hh;exact⟨_,Aw T' hT g w (by rw [nO w hh];rfl) (by simp [World.shape?,hh]) (by simp [World.frozen?,hh]),h1,h2⟩);exact⟨w,CP g w (by rw [nO w hh];rfl),⟨rfl,rfl,rfl,rfl,fun _ _=>rfl⟩,hh⟩
 obtain⟨sn,TF⟩:=hs.Bl (b:=0) (B:=.ox T 1 v O.length) (B':=.ox T 1 v O.length) rfl rfl rfl gY hF DO ⟨g,T',_,sv,gY,OY,.inr rfl,ym,hF⟩;exact⟨g,T',sv,w1,gY,wD,OY,ym,sn,TF⟩
theorem xU {T:g9} (hT:okB T) (s:g6) (h0:0<s.size) (v:Nat) (O:List UInt8) (hO:O.length+s.size<=34359738368):∃ r m,WG (.fZ [num s.size,.sc .nilIface]) T O (bt s) [] r m/\bK ak 135 [.ptr 0 0,str s] (bM T v O []) r m:=by refine⟨.fZ [num s.size,.sc .nilIface],bM T (v+1) (O++bt s) [],⟨rfl,_,_,rfl,rfl⟩,Tryz.call135,fun E w xs hs hx=>?_⟩;obtain⟨x0,x1,rfl,DN,DJ⟩:=ZR hx;obtain rfl:=fL DJ;obtain⟨g,T',sv,w1,gY,wD,OY,ym,sn,TF⟩:=ZT hT hs;cases DN with|ptr _ _ _ g e c hb =>rw [gY] at hb;cases hb;obtain⟨v',w2,E2,fG,HE,gM,kV⟩:=sn.acF tt_ok (k:=1) (t:=125) (u:=9) (ty:=125) (s:=s) Sj rfl tt5 tt5i tt9 rfl rfl rfl rfl ym h0 hO;obtain⟨g2,T2,p2,sv2,nD,KG,rn,-,j7⟩:=HE.mem 0 _ rfl;rw [gM.le.cE _ _ _ gY] at nD;cases nD;(obtain⟨va,vn,vc,rfl⟩:∃ va vn vc,v' = .slice va vn vc:=by rcases kV.vW with ⟨-,rfl⟩|⟨_,_,_,rfl,-⟩ <;> exact⟨_,_,_,rfl⟩);obtain⟨ac4,hh4⟩:=ac2 (i:=1) (.slice va vn vc) KG;(have hO':(O++bt s).length=O.length+s.size:=by rw [ab,bA]);obtain⟨hs4,Ph⟩:=HE.Bl (b:=0) (B:=.ox T 1 v O.length) (B':=.ox T 1 (v+1) (O++bt s).length) rfl rfl rfl (gM.le.cE _ _ _ gY) j7 ac4 ⟨g,T2,p2,_,gM.le.cE _ _ _ gY,hh4,rn,by rw [hO'];exact kV,j7⟩;refine (xT g s w w1 w2 sv sv2 va vn vc wD (by rw [nO w1 OY];rfl) fG (by rw [nO w2 KG];rfl) (by simp [World.frozen?,KG])).mono ?_;rintro e w' ⟨rfl,rfl⟩;exact⟨E2,_,rfl,(TF.trans gM).trans Ph,hs4,.fZ _ _ _ (by simp) fun i c x hc hx=>mQ E2 #[.int .i64 s.size,.nilIface] i c x hc hx⟩
theorem kJ {T:g9} (hT:okB T) (b:UInt8) (v:Nat) (O:List UInt8) (hO:O.length+1<=34359738368):∃ r m,WG (.sc .nilIface) T O [b] [] r m/\bK ak 195 [.ptr 0 0,.sc (.int .u8 (b.toNat:Int))] (bM T v O []) r m:=by refine⟨.sc .nilIface,bM T (v+1) (O++[b]) [],⟨rfl,_,_,rfl,rfl⟩,Tryz.call195,fun E w xs hs hx=>?_⟩;obtain⟨x0,x1,rfl,DN,DJ⟩:=ZR hx;obtain rfl:=fL DJ;obtain⟨g,T',sv,w1,gY,wD,OY,ym,sn,TF⟩:=ZT hT hs;cases DN with|ptr _ _ _ g e c hb =>rw [gY] at hb;cases hb;obtain⟨v',w2,E2,fG,HE,gM,kV⟩:=sn.Xl tt_ok (k:=1) (t:=125) (ty:=125) (b:=b) Sj rfl tt5 tt5i rfl ym hO;obtain⟨g2,T2,p2,sv2,nD,KG,rn,-,j7⟩:=HE.mem 0 _ rfl;rw [gM.le.cE _ _ _ gY] at nD;cases nD;(obtain⟨va,vn,vc,rfl⟩:∃ va vn vc,v' = .slice va vn vc:=by rcases kV.vW with ⟨-,rfl⟩|⟨_,_,_,rfl,-⟩ <;> exact⟨_,_,_,rfl⟩);obtain⟨ac4,hh4⟩:=ac2 (i:=1) (.slice va vn vc) KG;(have hO':(O++[b]).length=O.length+1:=by rw [ab];rfl);obtain⟨hs4,Ph⟩:=HE.Bl (b:=0) (B:=.ox T 1 v O.length) (B':=.ox T 1 (v+1) (O++[b]).length) rfl rfl rfl (gM.le.cE _ _ _ gY) j7 ac4 ⟨g,T2,p2,_,gM.le.cE _ _ _ gY,hh4,rn,by rw [hO'];exact kV,j7⟩;refine (Ax g _ w w1 w2 sv sv2 va vn vc wD (by rw [nO w1 OY];rfl) fG (by rw [nO w2 KG];rfl) (by simp [World.frozen?,KG])).mono ?_;rintro e w' ⟨rfl,rfl⟩;exact⟨E2,_,rfl,(TF.trans gM).trans Ph,hs4,.sc _ _⟩
theorem XJ {T:g9} (v:Nat) (O:List UInt8):∃ r m,WG (num O.length) T O [] [] r m/\bK ak 84 [.ptr 0 0] (bM T v O []) r m:=by refine⟨num O.length,bM T v O [],⟨rfl,O,v,by simp,rfl⟩,Tryz.call84,fun E w xs hs hx=>?_⟩;obtain⟨x0,rfl,DN⟩:=ZS hx;cases DN with|ptr _ _ _ g e c hb =>obtain⟨g,T',p,sv,gY,hh,hp,ym,hF⟩:=hs.mem 0 _ rfl;rw [gY] at hb;cases hb;(obtain⟨va,vc,rfl⟩:∃ va vc,sv = .slice va O.length vc:=by rcases ym.vW with ⟨h0,rfl⟩|⟨_,_,_,rfl,-⟩ <;> first|exact⟨_,_,rfl⟩|(rw [h0];exact⟨_,_,rfl⟩));refine (Qe g w va _ vc (by rw [nO w hh];rfl)).mono ?_;rintro e w' ⟨rfl,rfl⟩;exact⟨E,_,rfl,iF.refl E _,hs,.sc _ _⟩
theorem GX (b g cap cells:Nat) (w:World) (l:List UInt8) (h0:l≠[]) (mF:cap≠0) (c1:w.cell? ⟨b,1,none⟩=some (.slice (some ⟨g,0,none⟩) l.length cap)) (qp:w.shape? g=some (5,cells)) (hn:l.length<=cells) (hm:l.length<=maxLen)
  (qz:∀ j x,l[j]?=some x->w.cell? ((⟨g,0,none⟩:Addr).add j)=some (.int .u8 x.toNat)) :
  Calls ak 85 #[.pointer (some ⟨b,0,none⟩)] w fun e w'=>e = .returned (.string ⟨l.toArray⟩)/\w'=w.drew.freeze ⟨g,0,none⟩ l.length:=by have c1':w.drew.cell? ⟨b,1,none⟩=some (.slice (some ⟨g,0,none⟩) l.length cap):=c1;have hSD:(Builtin.unsafeSliceData_ #[125] 194 #[.slice (some ⟨g,0,none⟩) l.length cap]).run ak w.drew = .ok (.pointer (some ⟨g,0,none⟩)) w.drew := Lib.run_unsafeSliceData_row _ _ _ _ _ _ mF;have hUS:(Builtin.unsafeString_ #[194,3] 9 #[.pointer (some ⟨g,0,none⟩),.int .i64 l.length]).run ak w.drew = .ok (.string ⟨l.toArray⟩) (w.drew.freeze ⟨g,0,none⟩ l.length) := Lib.run_unsafeString_row w.drew 194 3 9 5 kr kr g cells qp l h0 hn (by unfold maxLen at hm;omega) qz;have mixed:=nI;go_enter Tryz.func85,Tryz.ntmps85;go_wp2;go_region_o;all_goals (go_wp2;go_ret;exact⟨rfl,rfl⟩)
theorem E6 {T:g9} (v:Nat) (O:List UInt8) (h0:O≠[]):bK ak 85 [.ptr 0 0] (bM T v O []) (str (bs O)) [.ox T 1 v O.length,.sF v 1 (jB O)]:=by refine⟨Tryz.call85,fun E w xs hs hx=>?_⟩;obtain⟨x0,rfl,DN⟩:=ZS hx;cases DN with|ptr _ _ _ g e c hb =>obtain⟨g,T',p,sv,gY,hh,hp,ym,hF⟩:=hs.mem 0 _ rfl;rw [gY] at hb;cases hb;obtain⟨gr,cap,cells,E',rfl,mF,qp,hn,hm,qz,sn,gM⟩:=hs.acJ (k:=1) rfl h0 ym;refine (GX g gr cap cells w O h0 mF (by rw [nO w hh];rfl) qp hn hm qz).mono ?_;rintro e w' ⟨rfl,rfl⟩;exact⟨E',_,rfl,gM,sn,.sc _ _⟩
section
theorem l5 {α β:Type} (g:α->List β) {l:List α} {i:Nat} {x:α} (h:l[i]?=some x):(l.take (i+1)).flatMap g=(l.take i).flatMap g++g x:=by rw [cg,h,qq];simp
theorem uD {α β:Type} (g:α->List β) (l:List α) (i:Nat):((l.take i).flatMap g).length<=(l.flatMap g).length:=by
 have e:l.flatMap g=(l.take i).flatMap g++(l.drop i).flatMap g:=by rw [<- qq,ji]
 rw [e,ab];omega
theorem vp (sep:List UInt8):∀ (L:List (List UInt8)) (i:Nat),(jn sep (L.take i)).length<=(jn sep L).length
 | [],i=>by rw [avD];exact aA _
 | x :: r,0=>by simp [jn]
 | x :: r,i+1=>by
  rw [AH,jn,jn,ab,ab]
  have:=uD (fun y=>sep++y) r i
  omega
def sgK (k N j:Nat):Nat:=if j=2 then k+2 else if j<2 then j else N+(j-3)
theorem JO {P:g7} {f:FuncId} {vs:List V} {M m m':List bx} {r:V} (h:bK P f vs M r m) (e:m=m'):bK P f vs M r m':=e ▸ h
theorem mf {f:FuncId} {vs vs' rs:List V} {O X:List UInt8} {v e:Nat} (h:∃ r m,WR O X [.rows 0 e rs] r m/\bK ak f vs (bM 129 v O [.rows 0 e rs]) r m) (l:List bx) (k:Nat) (hk:l[k]?=some (.rows 0 e rs)) (hv:vs.all (aQ 3)=true) (Pf:∀ N,uU (sgK k N) vs=vs') (ym:a6 3 (.rows 0 e rs)=true) :
  ∃ r m,WR O X l r m/\bK ak f vs' (.ox 129 1 v O.length :: .pq 5 v O :: l) r m:=by
 obtain⟨r,m,⟨rfl,O',v',rfl,rfl⟩,h⟩:=h;refine⟨_,_,⟨rfl,_,v',rfl,rfl⟩,?_⟩;have h2:=h.LO (bM 129 v O l) (sgK k (bM 129 v O l).length) 3 rfl hv (by simp only [bM,cI,ym,ew,aJ];rfl) rfl (by simp only [bM,cI,ym,ew,aJ];rfl) (aA _) (fun i B hi=>?_) (fun i j hi hj he=>?_) (fun j hj=>by unfold sgK;rw [g5 (by omega),g5 (by omega)]);·rw [Pf] at h2;refine JO h2 ((ai _).trans ?_);show (((bM 129 v O l).set 0 (.ox 129 1 v' (O++X).length)).set 1 (.pq 5 v' (O++X))).set (k+2) (DW (sgK k (bM 129 v O l).length) (.rows 0 e rs))=_;show .ox 129 1 v' (O++X).length :: .pq 5 v' (O++X) :: l.set k (.rows 0 e rs)=_;rw [tg hk];rfl
 ·match i,hi with|0,hi=>cases hi;rfl|1,hi=>cases hi;rfl|2,hi=>cases hi;exact hk|i+3,hi=>cases hi
 have:i=0\/i=1\/i=2:=by omega
 have:j=0\/j=1\/j=2:=by omega
 rcases ‹i=0\/i=1\/i=2› with rfl|rfl|rfl <;> rcases ‹j=0\/j=1\/j=2› with rfl|rfl|rfl <;> first|rfl|(simp [sgK] at he)|(simp [sgK] at he;omega)
section
attribute [local go_sem] aC bM
theorem cO (l:List g6) (hl:l.length<=1048576) (hx:∀ x∈l,0<x.size) (v:Nat) (O:List UInt8) (hO:O.length+(l.flatMap bt).length<=34359738368):∃ r_ m_,(WR O (l.flatMap bt) [.rows 0 1 (l.map str)]) r_ m_/\bK ak 53 [.ptr 0 0,.ms 2 0 0 l.length] (bM 129 v O [.rows 0 1 (l.map str)]) r_ m_:=by
 refine ma [] 18 [] 3 Tryz.func53 Tryz.call53 fun K hK=>?_;simp only [bM];simp only [go_sem];refine ij tt_ok [] (fun a:Nat×Nat×List UInt8=>[(0,.ptr 0 0),(6,.ms 2 0 0 l.length),(7,num l.length),(8,num a.1)]) (fun a:Nat×Nat×List UInt8=>bM 129 a.2.1 a.2.2 [.rows 0 1 (l.map str)]) (fun a=>l.length-a.1) (fun a=>a.1<=l.length/\a.2.2=O++(l.take a.1).flatMap bt) ((0,v,O)) 3 (da (by omega) (by simp only [bQ,go_sem] <;> rfl)) (⟨aY _,by simp⟩) ?_;rintro⟨i,va,Oa⟩ ⟨hi,lE⟩;try dsimp only at hi lE
 try dsimp only [bM]
 intro Z1 dm;simp only [go_sem];apply bE <;> intro kj;·have bH:=jq kj;have hw:=bj i (by omega);obtain⟨x,DA⟩:=gA bH;(have bF:(i:Int)<(l.length:Int):=by omega);have eW:=l5 bt DA;have nX:=uD bt l (i+1);have eX:=nX;rw [eW,ab] at eX;have hxb:=hx x (aw DA);have uP:=yJ List.length lE;rw [ab] at uP;simp only [hw,ae,DA,bF,go_sem];refine cW (JN (xU ahp x hxb va Oa (by rw [bA] at eX;omega)) rfl rfl [.rows 0 1 (l.map str)]) ?_;rintro _ _ ⟨rfl,O1,v1,k7,rfl⟩;simp only [hw,ae,DA,bF,go_sem];refine dm _ ⟨(i+1,v1,O1),?_,?_,da (by omega) (by simp only [hw,go_sem])⟩;(·exact⟨bH,by rw [k7,lE,eW,ay]⟩);dsimp only;omega
 have fP:=ki kj;have jx:i=l.length:=by omega
 rw [jx,aE] at lE;simp only [go_sem];exact hK _ _ ⟨rfl,_,_,lE,rfl⟩
end
theorem wf2 {f:FuncId} {vs:List V} {A0 A1 B0 B1:bx} {O Y:List UInt8} {v:Nat} (h:∃ r m,WR O Y [B0,B1] r m/\bK ak f vs (bM 129 v O [A0,A1]) r m) (hv:vs.all (aQ 4)=true) (hb:[A0,A1].all (a6 4)=true) (gY:[B0,B1].all (a6 4)=true) (l:List bx) :
  ∃ r m,WR O Y (B0 :: B1 :: l) r m/\bK ak f vs (.ox 129 1 v O.length :: .pq 5 v O :: A0 :: A1 :: l) r m:=by obtain⟨r,m,⟨rfl,O',v',rfl,rfl⟩,h⟩:=h;exact⟨_,_,⟨rfl,_,v',rfl,rfl⟩,h.frame hv (by show (true&&(true&&[A0,A1].all (a6 4)))=true;rw [hb];rfl) rfl rfl (by show (true&&(true&&[B0,B1].all (a6 4)))=true;rw [gY];rfl) l⟩
theorem wf3 {f:FuncId} {vs:List V} {A0 A1 A2 B0 B1 B2:bx} {O Y:List UInt8} {v:Nat} (h:∃ r m,WR O Y [B0,B1,B2] r m/\bK ak f vs (bM 129 v O [A0,A1,A2]) r m) (hv:vs.all (aQ 5)=true) (hb:[A0,A1,A2].all (a6 5)=true) (gY:[B0,B1,B2].all (a6 5)=true) (l:List bx) :
  ∃ r m,WR O Y (B0 :: B1 :: B2 :: l) r m/\bK ak f vs (.ox 129 1 v O.length :: .pq 5 v O :: A0 :: A1 :: A2 :: l) r m:=by obtain⟨r,m,⟨rfl,O',v',rfl,rfl⟩,h⟩:=h;exact⟨_,_,⟨rfl,_,v',rfl,rfl⟩,h.frame hv (by show (true&&(true&&[A0,A1,A2].all (a6 5)))=true;rw [hb];rfl) rfl rfl (by show (true&&(true&&[B0,B1,B2].all (a6 5)))=true;rw [gY];rfl) l⟩
theorem blA {n:Nat}:∀ {l:List V},bC n l=true->l.all (aQ n)=true
 | [],_=>rfl
 | x :: r,h=>by
  simp only [bC,aG] at h
  simp only [cI,aG]
  exact⟨h.1,blA h.2⟩
theorem ahr {f:FuncId} {cs:List V} {A0 A1 B0 B1:bx} {i:Int} {O Y:List UInt8} {v:Nat} (h:∃ r m,WR O Y [B0,B1] r m/\bK ak f (num i :: cs) (bM 129 v O [A0,A1]) r m) (hb:[A0,A1].all (a6 4)=true) (gY:[B0,B1].all (a6 4)=true) (hv:cs.all (aQ 4)=true) (l:List bx) :
  ∃ r m,WR O Y (B0 :: B1 :: l) r m/\bK ak f (num i :: cs) (.ox 129 1 v O.length :: .pq 5 v O :: A0 :: A1 :: l) r m:=by obtain⟨r,m,⟨rfl,O',v',rfl,rfl⟩,h⟩:=h;exact⟨_,_,⟨rfl,_,v',rfl,rfl⟩,h.frame (by show (true&&cs.all (aQ 4))=true;rw [hv];rfl) (by show (true&&(true&&[A0,A1].all (a6 4)))=true;rw [hb];rfl) rfl rfl (by show (true&&(true&&[B0,B1].all (a6 4)))=true;rw [gY];rfl) l⟩
theorem ahs {f:FuncId} {cs:List V} {A0 A1 A2 B0 B1 B2:bx} {i:Int} {O Y:List UInt8} {v:Nat} (h:∃ r m,WR O Y [B0,B1,B2] r m/\bK ak f (num i :: cs) (bM 129 v O [A0,A1,A2]) r m) (hb:[A0,A1,A2].all (a6 5)=true) (gY:[B0,B1,B2].all (a6 5)=true) (hv:cs.all (aQ 5)=true) (l:List bx) :
  ∃ r m,WR O Y (B0 :: B1 :: B2 :: l) r m/\bK ak f (num i :: cs) (.ox 129 1 v O.length :: .pq 5 v O :: A0 :: A1 :: A2 :: l) r m:=by obtain⟨r,m,⟨rfl,O',v',rfl,rfl⟩,h⟩:=h;exact⟨_,_,⟨rfl,_,v',rfl,rfl⟩,h.frame (by show (true&&cs.all (aQ 5))=true;rw [hv];rfl) (by show (true&&(true&&[A0,A1,A2].all (a6 5)))=true;rw [hb];rfl) rfl rfl (by show (true&&(true&&[B0,B1,B2].all (a6 5)))=true;rw [gY];rfl) l⟩
section
attribute [local go_sem] aC bM
theorem uE (g:FuncId) (cs:List V) (L:List (List UInt8)) (n:Nat) (hL:L.length=n) (hL1:n<=1048576) (sep:g6) (ac5:0<sep.size) (X:List V) (Y:List V) (nj:bC 4 cs=true) (hX:X.all (aQ 4)=true) (hY:Y.all (aQ 4)=true) (hg:∀ (i:Nat) (x:List UInt8),L[i]?=some x->∀ v O,O.length+x.length<=34359738368->∃ r m,WR O x [.box X,.box Y] r m/\bK ak g (num i :: cs) (bM 129 v O [.box X,.box Y]) r m) (v:Nat) (O:List UInt8) (hO:O.length+(jn (bt sep) L).length<=34359738368):∃ r_ m_,(WR O (jn (bt sep) L) [.box X,.box Y]) r_ m_/\bK ak 118 [.ptr 0 0,num n,str sep,.jh (.func g) [] cs] (bM 129 v O [.box X,.box Y]) r_ m_:=by
 refine ma [] 23 [] 4 Tryz.func118 Tryz.call118 fun K hK=>?_;subst hL;simp only [bM];simp only [nj,hX,hY,go_sem];refine ij tt_ok [] (fun a:Nat×Nat×List UInt8=>[(0,.ptr 0 0),(2,str sep),(3,.jh (.func g) [] cs),(9,num L.length),(10,num a.1)]) (fun a:Nat×Nat×List UInt8=>bM 129 a.2.1 a.2.2 [.box X,.box Y]) (fun a=>L.length-a.1) (fun a=>a.1<=L.length/\a.2.2=O++jn (bt sep) (L.take a.1)) ((0,v,O)) 4 (da (by omega) (by simp only [nj,hX,hY,bQ,go_sem] <;> rfl)) (⟨aY _,by simp [jn]⟩) ?_;rintro⟨i,va,Oa⟩ ⟨hi,lE⟩;try dsimp only at hi lE
 try dsimp only [bM]
 intro Z1 dm;simp only [nj,hX,hY,go_sem];apply bE <;> intro ql;·have bH:=jq ql;have hw:=bj i (by omega);obtain⟨x,DA⟩:=gA bH;(have rb:([sep].flatMap bt).length=(bt sep).length:=by simp);have eW:=ov (sep:=bt sep) DA;have nX:=vp (bt sep) L (i+1);have eX:=nX;rw [eW,ab,ab] at eX;have uP:=yJ List.length lE;rw [ab] at uP;simp only [hw,nj,hX,hY,go_sem];apply bE <;> intro mG;(·(have pH:0<i:=by have h0:(0:Int)<i:=(by simpa using mG);omega);simp only [hw,nj,hX,hY,go_sem];refine cW (mf (cO [sep] (by simp) (by simpa using ac5) va Oa (by rw [ag,aj,ai];rw [gH pH] at eX;omega)) [.box X,.box Y,.rows 0 1 [str sep]] 2 rfl rfl (fun _=>rfl) rfl) ?_;rintro _ _ ⟨rfl,O1,v1,k7,rfl⟩;have oc:=yJ List.length k7;rw [ab] at oc;simp only [hw,nj,hX,hY,go_sem];refine cW (ahr (hg i x DA _ _ (by simp only [pH,if_true,if_false,ah] at eX;omega)) (by show (X.all (aQ 4)&&(Y.all (aQ 4)&&true))=true;rw [hX,hY];rfl) (by show (X.all (aQ 4)&&(Y.all (aQ 4)&&true))=true;rw [hX,hY];rfl) (blA nj) _) ?_;rintro _ _ ⟨rfl,Oy,vy,jV,rfl⟩;simp only [hw,nj,hX,hY,go_sem];refine dm _ ⟨(i+1,vy,Oy),?_,?_,da (by omega) (by simp only [hw,nj,hX,hY,go_sem])⟩;(·exact⟨bH,by rw [eW];simp only [*,if_true,if_false,not_false_eq_true,ag,aj,ai,ay,aq]⟩);dsimp only;omega);have pH:¬ 0<i:=fun h0=>(k9 mG) (by omega:(0:Int)<(i:Int));simp only [hw,nj,hX,hY,go_sem];refine cW (ahr (hg i x DA _ _ (by simp only [pH,if_true,if_false,ah] at eX;omega)) (by show (X.all (aQ 4)&&(Y.all (aQ 4)&&true))=true;rw [hX,hY];rfl) (by show (X.all (aQ 4)&&(Y.all (aQ 4)&&true))=true;rw [hX,hY];rfl) (blA nj) _) ?_;rintro _ _ ⟨rfl,Oy,vy,jV,rfl⟩;simp only [hw,nj,hX,hY,go_sem];refine dm _ ⟨(i+1,vy,Oy),?_,?_,da (by omega) (by simp only [hw,nj,hX,hY,go_sem])⟩;(·exact⟨bH,by rw [eW];simp only [*,if_true,if_false,not_false_eq_true,ag,aj,ai,ay,aq]⟩);dsimp only;omega
 have fP:=ki ql;have jx:i=L.length:=by omega
 rw [jx,aE] at lE;simp only [nj,hX,hY,go_sem];exact hK _ _ ⟨rfl,_,_,lE,by first|rfl|(rw [jx];rfl)⟩
theorem y1 (g:FuncId) (cs:List V) (L:List (List UInt8)) (n:Nat) (hL:L.length=n) (hL1:n<=1048576) (sep:g6) (ac5:0<sep.size) (X:List V) (Y:List V) (Z:Nat->List V) (nj:bC 5 cs=true) (hX:X.all (aQ 5)=true) (hY:Y.all (aQ 5)=true) (hZ:∀ i,(Z i).all (aQ 5)=true) (hg:∀ (i:Nat) (x:List UInt8),L[i]?=some x->∀ v O,O.length+x.length<=34359738368->∃ r m,WR O x [.box X,.box Y,.box (Z (i+1))] r m/\bK ak g (num i :: cs) (bM 129 v O [.box X,.box Y,.box (Z i)]) r m) (v:Nat) (O:List UInt8) (hO:O.length+(jn (bt sep) L).length<=34359738368):∃ r_ m_,(WR O (jn (bt sep) L) [.box X,.box Y,.box (Z n)]) r_ m_/\bK ak 118 [.ptr 0 0,num n,str sep,.jh (.func g) [] cs] (bM 129 v O [.box X,.box Y,.box (Z 0)]) r_ m_:=by
 refine ma [] 23 [] 5 Tryz.func118 Tryz.call118 fun K hK=>?_;subst hL;simp only [bM];simp only [nj,hX,hY,hZ,go_sem];refine ij tt_ok [] (fun a:Nat×Nat×List UInt8=>[(0,.ptr 0 0),(2,str sep),(3,.jh (.func g) [] cs),(9,num L.length),(10,num a.1)]) (fun a:Nat×Nat×List UInt8=>bM 129 a.2.1 a.2.2 [.box X,.box Y,.box (Z a.1)]) (fun a=>L.length-a.1) (fun a=>a.1<=L.length/\a.2.2=O++jn (bt sep) (L.take a.1)) ((0,v,O)) 5 (da (by omega) (by simp only [nj,hX,hY,hZ,bQ,go_sem] <;> rfl)) (⟨aY _,by simp [jn]⟩) ?_;rintro⟨i,va,Oa⟩ ⟨hi,lE⟩;try dsimp only at hi lE
 try dsimp only [bM]
 intro Z1 dm;simp only [nj,hX,hY,hZ,go_sem];apply bE <;> intro ql;·have bH:=jq ql;have hw:=bj i (by omega);obtain⟨x,DA⟩:=gA bH;(have rb:([sep].flatMap bt).length=(bt sep).length:=by simp);have eW:=ov (sep:=bt sep) DA;have nX:=vp (bt sep) L (i+1);have eX:=nX;rw [eW,ab,ab] at eX;have uP:=yJ List.length lE;rw [ab] at uP;simp only [hw,nj,hX,hY,hZ,go_sem];apply bE <;> intro mG;(·(have pH:0<i:=by have h0:(0:Int)<i:=(by simpa using mG);omega);simp only [hw,nj,hX,hY,hZ,go_sem];refine cW (mf (cO [sep] (by simp) (by simpa using ac5) va Oa (by rw [ag,aj,ai];rw [gH pH] at eX;omega)) [.box X,.box Y,.box (Z i),.rows 0 1 [str sep]] 3 rfl rfl (fun _=>rfl) rfl) ?_;rintro _ _ ⟨rfl,O1,v1,k7,rfl⟩;have oc:=yJ List.length k7;rw [ab] at oc;simp only [hw,nj,hX,hY,hZ,go_sem];refine cW (ahs (hg i x DA _ _ (by simp only [pH,if_true,if_false,ah] at eX;omega)) (by show (X.all (aQ 5)&&(Y.all (aQ 5)&&((Z i).all (aQ 5)&&true)))=true;rw [hX,hY,hZ];rfl) (by show (X.all (aQ 5)&&(Y.all (aQ 5)&&((Z (i+1)).all (aQ 5)&&true)))=true;rw [hX,hY,hZ];rfl) (blA nj) _) ?_;rintro _ _ ⟨rfl,Oy,vy,jV,rfl⟩;simp only [hw,nj,hX,hY,hZ,go_sem];refine dm _ ⟨(i+1,vy,Oy),?_,?_,da (by omega) (by simp only [hw,nj,hX,hY,hZ,go_sem])⟩;(·exact⟨bH,by rw [eW];simp only [*,if_true,if_false,not_false_eq_true,ag,aj,ai,ay,aq]⟩);dsimp only;omega);have pH:¬ 0<i:=fun h0=>(k9 mG) (by omega:(0:Int)<(i:Int));simp only [hw,nj,hX,hY,hZ,go_sem];refine cW (ahs (hg i x DA _ _ (by simp only [pH,if_true,if_false,ah] at eX;omega)) (by show (X.all (aQ 5)&&(Y.all (aQ 5)&&((Z i).all (aQ 5)&&true)))=true;rw [hX,hY,hZ];rfl) (by show (X.all (aQ 5)&&(Y.all (aQ 5)&&((Z (i+1)).all (aQ 5)&&true)))=true;rw [hX,hY,hZ];rfl) (blA nj) _) ?_;rintro _ _ ⟨rfl,Oy,vy,jV,rfl⟩;simp only [hw,nj,hX,hY,hZ,go_sem];refine dm _ ⟨(i+1,vy,Oy),?_,?_,da (by omega) (by simp only [hw,nj,hX,hY,hZ,go_sem])⟩;(·exact⟨bH,by rw [eW];simp only [*,if_true,if_false,not_false_eq_true,ag,aj,ai,ay,aq]⟩);dsimp only;omega
 have fP:=ki ql;have jx:i=L.length:=by omega
 rw [jx,aE] at lE;simp only [nj,hX,hY,hZ,go_sem];exact hK _ _ ⟨rfl,_,_,lE,by first|rfl|(rw [jx];rfl)⟩
end
end
section
theorem aN (l:List UInt8):bt ⟨l.toArray⟩=l:=by simp [bt]
theorem ml:∀ x∈([]:List g6),0<x.size:=fun x hx=>by cases hx
theorem jz {a:g6} {l:List g6} (h:0<a.size) (t:∀ x∈l,0<x.size):∀ x∈a :: l,0<x.size:=fun x hx=>by
 rcases dp.1 hx with rfl|hx
 ·exact h
 exact t x hx
def WT (t:Ty):Prop:=∀ v O,O.length+t.pr.length<=34359738368->∃ r m,WR O t.pr [] r m/\bK ak 38 [.ptr 0 0,cA t] (bM 129 v O []) r m
theorem JP {t:Ty} (h:WT t) {v:Nat} {O:List UInt8} (hO:O.length+t.pr.length<=34359738368) (l:List bx):∃ r m,WR O t.pr l r m/\bK ak 38 [.ptr 0 0,.agg (tM t)] (.ox 129 1 v O.length :: .pq 5 v O :: l) r m:=by have h:=h v O hO;simp only [aF,au,ax,aB] at h;exact uC h (by simp [aQ,bC]) _
section
attribute [local go_sem] aC bM
theorem oZ (l:List g6) (hl:l.length<=1048576) (hx:∀ x∈l,0<x.size) (v:Nat) (O:List UInt8) (hO:O.length+(l.flatMap bt).length<=34359738368):∃ r_ m_,(WR O (l.flatMap bt) []) r_ m_/\bK ak 53 [.ptr 0 0,.slice (l.map str)] (bM 129 v O []) r_ m_:=by
 refine ma [] 18 [] 2 Tryz.func53 Tryz.call53 fun K hK=>?_;simp only [bM];simp only [go_sem];refine ij tt_ok [] (fun a:Nat×Nat×List UInt8=>[(0,.ptr 0 0),(6,.slice (l.map str)),(7,num l.length),(8,num a.1)]) (fun a:Nat×Nat×List UInt8=>bM 129 a.2.1 a.2.2 []) (fun a=>l.length-a.1) (fun a=>a.1<=l.length/\a.2.2=O++(l.take a.1).flatMap bt) ((0,v,O)) 2 (da (by omega) (by simp only [bQ,go_sem] <;> rfl)) (⟨aY _,by simp⟩) ?_;rintro⟨i,va,Oa⟩ ⟨hi,lE⟩;try dsimp only at hi lE
 try dsimp only [bM]
 intro Z1 dm;simp only [go_sem];apply bE <;> intro kj;·have bH:=jq kj;have hw:=bj i (by omega);obtain⟨x,DA⟩:=gA bH;(have bF:(i:Int)<(l.length:Int):=by omega);have eW:=l5 bt DA;have nX:=uD bt l (i+1);have eX:=nX;rw [eW,ab] at eX;have hxb:=hx x (aw DA);have uP:=yJ List.length lE;rw [ab] at uP;simp only [hw,ae,DA,bF,go_sem];refine cW (JN (xU ahp x hxb va Oa (by rw [bA] at eX;omega)) rfl rfl []) ?_;rintro _ _ ⟨rfl,O1,v1,k7,rfl⟩;simp only [hw,ae,DA,bF,go_sem];refine dm _ ⟨(i+1,v1,O1),?_,?_,da (by omega) (by simp only [hw,go_sem])⟩;(·exact⟨bH,by rw [k7,lE,eW,ay]⟩);dsimp only;omega
 have fP:=ki kj;have jx:i=l.length:=by omega
 rw [jx,aE] at lE;simp only [go_sem];exact hK _ _ ⟨rfl,_,_,lE,rfl⟩
theorem pX (w:g6) (hw:0<w.size) (t:Ty) (hT:WT t) (v:Nat) (O:List UInt8) (hO:O.length+(bt w++([91]++(t.pr++[93]))).length<=34359738368):∃ r_ m_,(WR O (bt w++([91]++(t.pr++[93]))) []) r_ m_/\bK ak 95 [.ptr 0 0,str w,.agg (tM t)] (bM 129 v O []) r_ m_:=by refine ma [] 16 [] 2 Tryz.func95 Tryz.call95 fun K hK=>?_;simp only [bM];have ec:=hO;simp only [ab,af,ah] at ec;simp only [go_sem];refine cW (mf (cO [w,⟨#[91]⟩] (by simp) (jz hw (jz (by decide) ml)) _ _ (by simp only [ag,aj,ai,aN,ab,af,ah];omega)) _ 1 rfl rfl (fun _=>rfl) rfl) ?_;rintro _ _ ⟨rfl,O1,v1,k7,rfl⟩;have oc:=yJ List.length k7;simp only [ag,aj,ai,aN,ab,af,ah] at oc;simp only [go_sem];refine cW (JP (hT) (by omega) _) ?_;rintro _ _ ⟨rfl,O2,v2,tQ,rfl⟩;have Ad:=yJ List.length tQ;simp only [ag,aj,ai,aN,ab,af,ah] at Ad;simp only [go_sem];refine cW (mf (cO [⟨#[93]⟩] (by simp) (jz (by decide) ml) _ _ (by simp only [ag,aj,ai,aN,ab,af,ah];omega)) _ 2 rfl rfl (fun _=>rfl) rfl) ?_;rintro _ _ ⟨rfl,O3,v3,uF,rfl⟩;have D2:=yJ List.length uF;simp only [ag,aj,ai,aN,ab,af,ah] at D2;simp only [go_sem];exact hK _ _ ⟨rfl,_,_,by rw [uF,tQ,k7];simp only [dD,ag,aj,ai,aN,ay],rfl⟩
end
section
attribute [local go_sem] aC ae bM bL au ax aB al aq
theorem Qf (l:List Fd) (i:Nat) (x:Fd) (hx:l[i]?=some x) (hl:l.length<=1048576) (hn:0<x.name.size) (hT:WT x.ty) (v:Nat) (O:List UInt8) (hO:O.length+x.pr.length<=34359738368):∃ r_ m_,(WR O x.pr [.box [.ptr 0 0],.box [.slice (l.map gZ)]]) r_ m_/\bK ak 182 [num i,.ptr 2 0,.ptr 3 0] (bM 129 v O [.box [.ptr 0 0],.box [.slice (l.map gZ)]]) r_ m_:=by
 refine ma [30000] 30 [] 4 Tryz.func182 Tryz.call182 fun K hK=>?_;simp only [bM];have bH:=(az.1 hx).1;have bF:(i:Int)<(l.length:Int):=by omega
 have dX:=x.eS;have ec:=hO;rw [dX] at ec;have hof:(if x.opt=true then [63] else ([]:List UInt8)).length<=1:=by split <;> decide
 simp only [ab,af,ah] at ec;simp only [hx,bF,go_sem];refine lr [pR,pR,pN,j2 [1,2],pM [1,2,3],j2 [1,2,3,4],pM [1,2,3,4,5],⟨.z,0,[],[0,1,2,3,4,5,6],[]⟩] 0 ?_;simp only [hx,bF,go_sem];refine yL (uC (oZ [x.name] (by simp) (jz hn ml) _ _ (by simp only [ag,aj,ai,aN,ab,af,ah];omega)) rfl _) ?_;rintro _ _ ⟨rfl,O1,v1,k7,rfl⟩;have oc:=yJ List.length k7;simp only [ag,aj,ai,aN,ab,af,ah] at oc;simp only [hx,bF,go_sem];refine rI (n:=30) tt_ok [30000] (fun a:Nat×List UInt8=>[(0,num i),(1,.ptr 2 0),(2,.ptr 3 0)]) (fun a:Nat×List UInt8=>bM 129 a.1 a.2 [.box [.ptr 0 0],.box [.slice (l.map gZ)]]) 4 (fun a=>a.2=O++(bt x.name++(if x.opt=true then [63] else []))) (fun Z1 dm=>?_) ?_;·simp only [hx,bF,go_sem];apply bE <;> intro iG;(·simp only [hx,bF,go_sem];refine cW (mf (cO [⟨#[63]⟩] (by simp) (jz (by decide) ml) _ _ (by simp only [ag,aj,ai,aN,ab,af,ah];omega)) _ 2 rfl rfl (fun _=>rfl) rfl) ?_;rintro _ _ ⟨rfl,Oy,vy,jV,rfl⟩;have aht:x.opt=true:=iG;rw [gH aht] at ec;have CR:=yJ List.length jV;simp only [ag,aj,ai,aN,ab,af,ah] at CR;simp only [hx,bF,go_sem];refine dm _ ⟨(vy,Oy),?_,da (by omega) (by simp only [hx,bF,go_sem])⟩;dsimp only;rw [jV,k7];simp only [dD,iG,if_true,bw,if_false,ag,aj,ai,aN,ay]);obtain⟨Oy,jV⟩:=gy O1;obtain⟨vy,Qg⟩:=gy v1;rw [<- jV,<- Qg];simp only [hx,bF,go_sem];refine dm _ ⟨(vy,Oy),?_,da (by omega) (by simp only [hx,bF,go_sem])⟩;dsimp only;rw [jV,k7];simp only [dD,iG,if_true,bw,if_false,ag,aj,ai,aN,ay]
 rintro⟨vb,Ob⟩ pe;dsimp only at pe;have yp:=yJ List.length pe;simp only [ag,aj,ai,aN,ab,af,ah] at yp;dsimp only [bM];simp only [hx,bF,go_sem];refine cW (mf (cO [⟨#[58,32]⟩] (by simp) (jz (by decide) ml) _ _ (by simp only [ag,aj,ai,aN,ab,af,ah];omega)) _ 2 rfl rfl (fun _=>rfl) rfl) ?_;rintro _ _ ⟨rfl,O3,v3,uF,rfl⟩;have D2:=yJ List.length uF;simp only [ag,aj,ai,aN,ab,af,ah] at D2;simp only [hx,bF,go_sem];refine lr [pR,pR,pN,j2 [1,2],pM [1,2,3],j2 [1,2,3,4],⟨.z,0,[],[0,1,2,3,4,5],[]⟩] 0 ?_;simp only [hx,bF,go_sem];refine yL (JP (hT) (by omega) _) ?_;rintro _ _ ⟨rfl,O4,v4,D3,rfl⟩;have JQ:=yJ List.length D3;simp only [ag,aj,ai,aN,ab,af,ah] at JQ;simp only [hx,bF,go_sem];exact hK _ _ ⟨rfl,_,_,by rw [D3,uF,pe,dX];simp only [dD,ag,aj,ai,aN,ay],rfl⟩
end
section
attribute [local go_sem] aC ae bM aF au ax aB
theorem XK (l:List Ty) (i:Nat) (x:Ty) (hx:l[i]?=some x) (hl:l.length<=1048576) (hT:WT x) (v:Nat) (O:List UInt8) (hO:O.length+x.pr.length<=34359738368):∃ r_ m_,(WR O x.pr [.box [.ptr 0 0],.box [.slice (l.map cA)]]) r_ m_/\bK ak 183 [num i,.ptr 2 0,.ptr 3 0] (bM 129 v O [.box [.ptr 0 0],.box [.slice (l.map cA)]]) r_ m_:=by
 refine ma [] 10 [] 4 Tryz.func183 Tryz.call183 fun K hK=>?_;simp only [bM];have bH:=(az.1 hx).1;have bF:(i:Int)<(l.length:Int):=by omega
 simp only [hx,bF,go_sem];refine lr [pR,pR,pN,j2 [1,2],j2 [1,2,3],⟨.z,0,[],[0,1,2,3,4],[]⟩] 0 ?_;simp only [hx,bF,go_sem];refine yL (JP (hT) (by omega) _) ?_;rintro _ _ ⟨rfl,O1,v1,k7,rfl⟩;have oc:=yJ List.length k7;simp only [ag,aj,ai,aN,ab,af,ah] at oc;simp only [hx,bF,go_sem];exact hK _ _ ⟨rfl,_,_,k7,rfl⟩
end
theorem ahu {l:List Fd} (hl:l.length<=1048576) (hn:∀ f∈l,0<f.name.size) (hT:∀ f∈l,WT f.ty):∀ (i:Nat) (x:List UInt8),(l.map Fd.pr)[i]?=some x->∀ v O,O.length+x.length<=34359738368->∃ r m,WR O x [.box [.ptr 0 0],.box [.slice (l.map gZ)]] r m/\bK ak 182 (num i :: [.ptr 2 0,.ptr 3 0]) (bM 129 v O [.box [.ptr 0 0],.box [.slice (l.map gZ)]]) r m:=by intro i x hx v O hO;rw [ae,bp] at hx;obtain⟨f,hf,rfl⟩:=hx;exact Qf l i f hf hl (hn f (aw hf)) (hT f (aw hf)) v O hO
theorem ahv {l:List Ty} (hl:l.length<=1048576) (hT:∀ t∈l,WT t):∀ (i:Nat) (x:List UInt8),(l.map Ty.pr)[i]?=some x->∀ v O,O.length+x.length<=34359738368->∃ r m,WR O x [.box [.ptr 0 0],.box [.slice (l.map cA)]] r m/\bK ak 183 (num i :: [.ptr 2 0,.ptr 3 0]) (bM 129 v O [.box [.ptr 0 0],.box [.slice (l.map cA)]]) r m:=by intro i x hx v O hO;rw [ae,bp] at hx;obtain⟨f,hf,rfl⟩:=hx;exact XK l i f hf hl (hT f (aw hf)) v O hO
theorem wj (l:List Fd) (hl:l.length<=1048576) (hn:∀ f∈l,0<f.name.size) (hT:∀ f∈l,WT f.ty) (sep:g6) (hs:0<sep.size) (v:Nat) (O:List UInt8) (hO:O.length+(jn (bt sep) (l.map Fd.pr)).length<=34359738368):∃ r_ m_,(WR O (jn (bt sep) (l.map Fd.pr)) []) r_ m_/\bK ak 96 [.ptr 0 0,.slice (l.map gZ),str sep] (bM 129 v O []) r_ m_:=by refine ma [] 12 [] 2 Tryz.func96 Tryz.call96 fun K hK=>?_;simp only [bM];simp only [aC,bM,go_sem];refine cW (wf2 (uE 182 [.ptr 2 0,.ptr 3 0] (l.map Fd.pr) _ (by simp) hl sep hs [.ptr 0 0] [.slice (l.map gZ)] rfl rfl rfl (ahu hl hn hT) _ _ hO) rfl rfl rfl _) ?_;rintro _ _ ⟨rfl,O1,v1,k7,rfl⟩;simp only [aC,bM,go_sem];exact hK _ _ ⟨rfl,_,_,k7,rfl⟩
theorem TG {s:g6} (h:s.size=0):s=⟨#[]⟩:=by obtain⟨⟨l⟩⟩:=s;simp [ByteArray.size] at h;subst h;rfl
structure TyK (t:Ty):Prop where
 k0:0<=t.kind
 k1:t.kind<=8\/t.kind=10
 hd:t.kind=5\/t.kind=8->∃ a r,t.args=a :: r
 fn:∀ f∈t.bT,0<f.name.size
 nm:t.kind=10->0<t.name.size
 la:t.args.length<=1048576
 lf:t.bT.length<=1048576
def TH (k:Int):g6:=if k=0 then ⟨#[97,110,121]⟩ else if k=1 then ⟨#[110,111,110,101]⟩ else if k=2 then ⟨#[105,110,116]⟩ else if k=3 then ⟨#[98,111,111,108]⟩ else ⟨#[116,101,120,116]⟩
theorem ac6 (k:Int):bt (TH k)=ZO k:=by unfold TH ZO;(repeat' split) <;> rfl
theorem XL (k:Int):0<(TH k).size:=by unfold TH;(repeat' split) <;> decide
def arW:V:=.agg [str ⟨#[97,110,121]⟩,str ⟨#[110,111,110,101]⟩,str ⟨#[105,110,116]⟩,str ⟨#[98,111,111,108]⟩,str ⟨#[116,101,120,116]⟩]
theorem bW:yz ak 141 [(0,.string ⟨#[97,110,121]⟩),(1,.string ⟨#[110,111,110,101]⟩),(2,.string ⟨#[105,110,116]⟩),(3,.string ⟨#[98,111,111,108]⟩),(4,.string ⟨#[116,101,120,116]⟩)]=some arW:=kr
theorem iW (k:Int) (h0:0<=k) (h4:k<=4):dy ak (Instr.index 141) arW (num k)=some (str (TH k)):=by
 have:k=0\/k=1\/k=2\/k=3\/k=4:=by omega
 have e0:dy ak (Instr.index 141) arW (num 0)=some (str (TH 0)):=kr;have e1:dy ak (Instr.index 141) arW (num 1)=some (str (TH 1)):=kr;have e2:dy ak (Instr.index 141) arW (num 2)=some (str (TH 2)):=kr;have e3:dy ak (Instr.index 141) arW (num 3)=some (str (TH 3)):=kr;have e4:dy ak (Instr.index 141) arW (num 4)=some (str (TH 4)):=kr;rcases this with h|h|h|h|h <;> rw [h] <;> assumption
section
attribute [local go_sem] aC bM
theorem GY (m n:g6) (hn:0<n.size) (l:List Ty) (hl:l.length<=1048576) (hT:∀ t∈l,WT t) (v:Nat) (O:List UInt8) (hO:O.length+(EZ m n (l.map Ty.pr)).length<=34359738368):∃ r_ m_,(WR O (EZ m n (l.map Ty.pr)) []) r_ m_/\bK ak 97 [.ptr 0 0,str m,str n,.slice (l.map cA)] (bM 129 v O []) r_ m_:=by
 refine ma [30000] 32 [] 2 Tryz.func97 Tryz.call97 fun K hK=>?_;simp only [bM];obtain⟨q1,pf⟩:=gz (if m=⟨#[]⟩ then [] else bt m++[58,58]);obtain⟨q2,mi⟩:=gz (if l.map Ty.pr=[] then [] else [91]++jn [44,32] (l.map Ty.pr)++[93]);have hQ:EZ m n (l.map Ty.pr)=q1++bt n++q2:=by unfold EZ;rw [pf,mi]
 have ec:=hO;rw [hQ] at ec;simp only [ag,aj,ai,aN,ab,af,ah] at ec;simp only [go_sem];refine rI (n:=32) tt_ok [30000] (fun a:Nat×List UInt8=>[(2,str n),(4,.ptr 2 0),(7,.ptr 3 0)]) (fun a:Nat×List UInt8=>bM 129 a.1 a.2 [.box [.ptr 0 0],.box [.slice (l.map cA)]]) 4 (fun a=>a.2=O++(q1)) (fun Z1 dm=>?_) ?_;·simp only [go_sem];apply bE <;> intro kj;(·have hm1:0<m.size:=AW rfl kj;(have RJ:¬ m=⟨#[]⟩:=by rintro rfl;exact absurd hm1 (by decide));rw [g5 RJ] at pf;have Ej:=yJ List.length pf;simp only [ag,aj,ai,aN,ab,af,ah] at Ej;simp only [go_sem];refine cW (mf (cO [m,⟨#[58,58]⟩] (by simp) (jz hm1 (jz (by decide) ml)) _ _ (by simp only [ag,aj,ai,aN,ab,af,ah];omega)) _ 2 rfl rfl (fun _=>rfl) rfl) ?_;rintro _ _ ⟨rfl,Oy,vy,jV,rfl⟩;have CR:=yJ List.length jV;simp only [ag,aj,ai,aN,ab,af,ah] at CR;simp only [go_sem];refine dm _ ⟨(vy,Oy),?_,da (by omega) (by simp only [go_sem])⟩;dsimp only;rw [jV,<- pf];simp only [dD,if_true,bw,if_false,ag,aj,ai,aN,ay]);have hm0:=TG (xv rfl kj);rw [gH hm0] at pf;obtain⟨Oy,jV⟩:=gy O;obtain⟨vy,Qg⟩:=gy v;rw [<- jV,<- Qg];simp only [go_sem];refine dm _ ⟨(vy,Oy),?_,da (by omega) (by simp only [go_sem])⟩;dsimp only;rw [jV,<- pf];simp only [dD,if_true,bw,if_false,ag,aj,ai,aN,ay]
 rintro⟨vb,Ob⟩ pe;dsimp only at pe;have yp:=yJ List.length pe;simp only [ag,aj,ai,aN,ab,af,ah] at yp;dsimp only [bM];simp only [go_sem];refine cW (mf (cO [n] (by simp) (jz hn ml) _ _ (by simp only [ag,aj,ai,aN,ab,af,ah];omega)) _ 2 rfl rfl (fun _=>rfl) rfl) ?_;rintro _ _ ⟨rfl,O2,v2,tQ,rfl⟩;have Ad:=yJ List.length tQ;simp only [ag,aj,ai,aN,ab,af,ah] at Ad;simp only [go_sem];apply bE <;> intro Qh;·(have zi:0<l.length:=by have h0:(0:Int)<(l.length:Int):=(qB Qh);omega);(have hln:¬ l.map Ty.pr=[]:=fun e=>by have e2:=yJ List.length e;simp at e2;rw [e2] at zi;simp at zi);rw [g5 hln] at mi;have hqm:=yJ List.length mi;simp only [ag,aj,ai,aN,ab,af,ah] at hqm;simp only [go_sem];refine cW (mf (cO [⟨#[91]⟩] (by simp) (jz (by decide) ml) _ _ (by simp only [ag,aj,ai,aN,ab,af,ah];omega)) _ 3 rfl rfl (fun _=>rfl) rfl) ?_;rintro _ _ ⟨rfl,O3,v3,uF,rfl⟩;have D2:=yJ List.length uF;simp only [ag,aj,ai,aN,ab,af,ah] at D2;simp only [go_sem];refine cW (wf2 (uE 183 [.ptr 2 0,.ptr 3 0] (l.map Ty.pr) _ (by simp) hl ⟨#[44,32]⟩ (by decide) [.ptr 0 0] [.slice (l.map cA)] rfl rfl rfl (ahv hl hT) _ _ (by rw [aN];omega)) rfl rfl rfl _) ?_;rintro _ _ ⟨rfl,O4,v4,D3,rfl⟩;have JQ:=yJ List.length D3;simp only [ag,aj,ai,aN,ab,af,ah] at JQ;simp only [go_sem];refine cW (mf (cO [⟨#[93]⟩] (by simp) (jz (by decide) ml) _ _ (by simp only [ag,aj,ai,aN,ab,af,ah];omega)) _ 4 rfl rfl (fun _=>rfl) rfl) ?_;rintro _ _ ⟨rfl,O5,v5,TI,rfl⟩;have XM:=yJ List.length TI;simp only [ag,aj,ai,aN,ab,af,ah] at XM;simp only [go_sem];exact hK _ _ ⟨rfl,_,_,by first|(rw [hQ,TI,D3,uF,tQ,pe,<- mi];simp only [dD,ag,aj,ai,aN,ay])|(rw [hQ,tQ,pe,<- mi];simp only [dD,ag,aj,ai,aN,ay]),rfl⟩
 have zi:¬ 0<l.length:=fun h0=>(k9 Qh) (by omega:(0:Int)<(l.length:Int));have hln:l.map Ty.pr=[]:=by rw [dn (by omega:l.length=0)];rfl
 rw [gH hln] at mi;simp only [go_sem];exact hK _ _ ⟨rfl,_,_,by first|(rw [hQ,TI,D3,uF,tQ,pe,<- mi];simp only [dD,ag,aj,ai,aN,ay])|(rw [hQ,tQ,pe,<- mi];simp only [dD,ag,aj,ai,aN,ay]),rfl⟩
end
section
attribute [local go_sem] aC bM ax aB
theorem Qi (t:Ty) (ht:TyK t) (hA:∀ u∈t.args,WT u) (hF:∀ x∈t.bT,WT x.ty) (v:Nat) (O:List UInt8) (hO:O.length+(t.pr).length<=34359738368):∃ r_ m_,(WR O (t.pr) []) r_ m_/\bK ak 38 [.ptr 0 0,cA t] (bM 129 v O []) r_ m_:=by
 refine ma [] 73 [] 2 Tryz.func38 Tryz.call38 fun K hK=>?_;simp only [bM];have dX:=t.eS;simp only [aF,au];simp only [go_sem];apply bE <;> intro o1;·have h5:=qB o1;rw [gH h5] at dX;obtain⟨a,r,ha⟩:=ht.hd (.inl h5);rw [ha] at dX;dsimp only [lj] at dX;have hWa:WT a:=hA a (by rw [ha];exact cP ..);have ec:=hO;rw [dX] at ec;simp only [ag,aj,ai,aN,ab,af,ah] at ec;simp only [ha,bo,aI,cn,bN,aF,au,go_sem];refine cW (uC (pX ⟨#[108,105,115,116]⟩ (by decide) a hWa _ _ (by simp only [ag,aj,ai,aN,ab,af,ah];omega)) (by simp [aQ,bC]) _) ?_;rintro _ _ ⟨rfl,O1,v1,k7,rfl⟩;have oc:=yJ List.length k7;simp only [ag,aj,ai,aN,ab,af,ah] at oc;simp only [ha,bo,aI,cn,bN,aF,au,go_sem];exact hK _ _ ⟨rfl,_,_,by rw [dX];simp only [*,ag,aj,ai,aN,ay,al,aq],rfl⟩
 have h5:=k9 o1;rw [g5 h5] at dX;simp only [go_sem];apply bE <;> intro yQ;·have h6:=qB yQ;rw [gH h6] at dX;have ec:=hO;rw [dX] at ec;simp only [ag,aj,ai,aN,ab,af,ah] at ec;simp only [go_sem];refine cW (mf (cO [⟨#[123]⟩] (by simp) (jz (by decide) ml) _ _ (by simp only [ag,aj,ai,aN,ab,af,ah];omega)) _ 1 rfl rfl (fun _=>rfl) rfl) ?_;rintro _ _ ⟨rfl,O2,v2,tQ,rfl⟩;have Ad:=yJ List.length tQ;simp only [ag,aj,ai,aN,ab,af,ah] at Ad;simp only [go_sem];refine cW (uC (wj t.bT ht.lf ht.fn hF ⟨#[44,32]⟩ (by decide) _ _ (by rw [aN];omega)) (by simp [aQ,bC]) _) ?_;rintro _ _ ⟨rfl,O3,v3,uF,rfl⟩;have D2:=yJ List.length uF;simp only [ag,aj,ai,aN,ab,af,ah] at D2;simp only [go_sem];refine cW (mf (cO [⟨#[125]⟩] (by simp) (jz (by decide) ml) _ _ (by simp only [ag,aj,ai,aN,ab,af,ah];omega)) _ 2 rfl rfl (fun _=>rfl) rfl) ?_;rintro _ _ ⟨rfl,O4,v4,D3,rfl⟩;have JQ:=yJ List.length D3;simp only [ag,aj,ai,aN,ab,af,ah] at JQ;simp only [go_sem];exact hK _ _ ⟨rfl,_,_,by rw [dX];simp only [*,ag,aj,ai,aN,ay,al,aq],rfl⟩
 have h6:=k9 yQ;rw [g5 h6] at dX;simp only [go_sem];apply bE <;> intro TJ;·have h7:=qB TJ;rw [gH h7] at dX;have ec:=hO;rw [dX] at ec;simp only [ag,aj,ai,aN,ab,af,ah] at ec;simp only [go_sem];refine cW (mf (cO [⟨#[60]⟩] (by simp) (jz (by decide) ml) _ _ (by simp only [ag,aj,ai,aN,ab,af,ah];omega)) _ 1 rfl rfl (fun _=>rfl) rfl) ?_;rintro _ _ ⟨rfl,O5,v5,TI,rfl⟩;have XM:=yJ List.length TI;simp only [ag,aj,ai,aN,ab,af,ah] at XM;simp only [go_sem];refine cW (uC (wj t.bT ht.lf ht.fn hF ⟨#[32,124,32]⟩ (by decide) _ _ (by rw [aN];omega)) (by simp [aQ,bC]) _) ?_;rintro _ _ ⟨rfl,O6,v6,ZU,rfl⟩;have hl6:=yJ List.length ZU;simp only [ag,aj,ai,aN,ab,af,ah] at hl6;simp only [go_sem];refine cW (mf (cO [⟨#[62]⟩] (by simp) (jz (by decide) ml) _ _ (by simp only [ag,aj,ai,aN,ab,af,ah];omega)) _ 2 rfl rfl (fun _=>rfl) rfl) ?_;rintro _ _ ⟨rfl,O7,v7,hO7,rfl⟩;have hl7:=yJ List.length hO7;simp only [ag,aj,ai,aN,ab,af,ah] at hl7;simp only [go_sem];exact hK _ _ ⟨rfl,_,_,by rw [dX];simp only [*,ag,aj,ai,aN,ay,al,aq],rfl⟩
 have h7:=k9 TJ;rw [g5 h7] at dX;simp only [go_sem];apply bE <;> intro Qj;·have h8:=qB Qj;rw [gH h8] at dX;obtain⟨a,r,ha⟩:=ht.hd (.inr h8);rw [ha] at dX;dsimp only [lj] at dX;have hWa:WT a:=hA a (by rw [ha];exact cP ..);have ec:=hO;rw [dX] at ec;simp only [ag,aj,ai,aN,ab,af,ah] at ec;simp only [ha,bo,aI,cn,bN,aF,au,go_sem];refine cW (mf (cO [⟨#[102,110,40]⟩] (by simp) (jz (by decide) ml) _ _ (by simp only [ag,aj,ai,aN,ab,af,ah];omega)) _ 1 rfl rfl (fun _=>rfl) rfl) ?_;rintro _ _ ⟨rfl,O8,v8,hO8,rfl⟩;have hl8:=yJ List.length hO8;simp only [ag,aj,ai,aN,ab,af,ah] at hl8;simp only [ha,bo,aI,cn,bN,aF,au,go_sem];refine cW (uC (wj t.bT ht.lf ht.fn hF ⟨#[44,32]⟩ (by decide) _ _ (by rw [aN];omega)) (by simp [aQ,bC]) _) ?_;rintro _ _ ⟨rfl,O9,v9,hO9,rfl⟩;have hl9:=yJ List.length hO9;simp only [ag,aj,ai,aN,ab,af,ah] at hl9;simp only [ha,bo,aI,cn,bN,aF,au,go_sem];refine cW (mf (cO [⟨#[41,32]⟩] (by simp) (jz (by decide) ml) _ _ (by simp only [ag,aj,ai,aN,ab,af,ah];omega)) _ 2 rfl rfl (fun _=>rfl) rfl) ?_;rintro _ _ ⟨rfl,O10,v10,adb,rfl⟩;have ade:=yJ List.length adb;simp only [ag,aj,ai,aN,ab,af,ah] at ade;simp only [ha,bo,aI,cn,bN,aF,au,go_sem];refine cW (JP (hWa) (by omega) _) ?_;rintro _ _ ⟨rfl,O11,v11,Qk,rfl⟩;have TK:=yJ List.length Qk;simp only [ag,aj,ai,aN,ab,af,ah] at TK;simp only [ha,bo,aI,cn,bN,aF,au,go_sem];exact hK _ _ ⟨rfl,_,_,by rw [dX];simp only [*,ag,aj,ai,aN,ay,al,aq],rfl⟩
 have h8:=k9 Qj;rw [g5 h8] at dX;simp only [go_sem];apply bE <;> intro Ql;·have sZ:=qB Ql;rw [gH sZ] at dX;have ec:=hO;rw [dX] at ec;simp only [go_sem];refine cW (uC (GY t.mod t.name (ht.nm sZ) t.args ht.la hA _ _ (by omega)) (by simp [aQ,bC]) _) ?_;rintro _ _ ⟨rfl,O12,v12,XN,rfl⟩;simp only [go_sem];exact hK _ _ ⟨rfl,_,_,by rw [dX];simp only [*,ag,aj,ai,aN,ay,al,aq],rfl⟩
 have sZ:=k9 Ql;rw [g5 sZ] at dX;have ec:=hO;rw [dX] at ec;have ic:=iW t.kind ht.k0 (by have h1:=ht.k1;omega);have hbw:=ac6 t.kind;rw [<- hbw] at dX ec;simp only [bW,ic,go_sem];refine cW (mf (cO [(TH t.kind)] (by simp) (jz (XL _) ml) _ _ (by simp only [ag,aj,ai,aN,ab,af,ah];omega)) _ 1 rfl rfl (fun _=>rfl) rfl) ?_;rintro _ _ ⟨rfl,O13,v13,adf,rfl⟩;have adg:=yJ List.length adf;simp only [ag,aj,ai,aN,ab,af,ah] at adg;simp only [bW,ic,go_sem];exact hK _ _ ⟨rfl,_,_,by rw [dX];simp only [*,ag,aj,ai,aN,ay,al,aq],rfl⟩
end
theorem NY (P:Ty->Prop) (hP:∀ t,P t->TyK t/\∀ u∈t.parts,P u):∀ (N:Nat) (t:Ty),t.size<=N->P t->WT t
 | 0,t,h,_=>absurd t.size_pos (by omega)
 | N+1,t,h,ht=>by
  obtain⟨h1,h2⟩:=hP t ht
  have hs:=t.eA
  have hp:∀ u∈t.parts,WT u:=fun u hu=>by
   obtain⟨i,hi⟩:=br.1 hu
   have:=bX Ty.size hi
   exact NY P hP N u (by omega) (h2 u hu)
  exact Qi t h1 (fun u hu=>hp u (fT _ hu)) fun x hx=>hp x.ty (gO _ (aa1 hx))
end
section
theorem amV (c:UInt8):((c.toNat:Int)).fdiv (2 ^ min (4:Int).toNat IntKind.u8.bits)=((c / 16).toNat:Int):=by
 have h:∀ n:Fin 256,((n.val:Int)).fdiv (2 ^ min (4:Int).toNat IntKind.u8.bits)=((n.val / 16:Nat):Int):=by decide +kernel
 rw [h ⟨c.toNat,c.toNat_lt⟩,avS];rfl
theorem ahA (c:UInt8):Xb .u8 (c.toNat:Int) 15=((c % 16).toNat:Int):=by
 have h:∀ n:Fin 256,Xb .u8 (n.val:Int) 15=((n.val % 16:Nat):Int):=by decide +kernel
 rw [h ⟨c.toNat,c.toNat_lt⟩,avT];rfl
def adh:g6:=⟨#[48,49,50,51,52,53,54,55,56,57,97,98,99,100,101,102]⟩
theorem adi (d:UInt8) (h:d.toNat<16):adh[d.toNat]?=some (Qa d):=by
 have h1:∀ n:Fin 16,adh[n.val]?=some (Qa (UInt8.ofNat n.val)):=by decide +kernel
 have h2:=h1 ⟨d.toNat,h⟩;simpa using h2
theorem ic (d:UInt8) (h:d.toNat<16):dy ak (Instr.index 9) (str ⟨#[48,49,50,51,52,53,54,55,56,57,97,98,99,100,101,102]⟩) (.sc (.int .u8 (d.toNat:Int)))=some (.sc (.int .u8 ((Qa d).toNat:Int))) :=
 eM (P:=ak) adh Tryz.underlying9 .u8 d.toNat (by omega) (c:=Qa d) (by rw [gx];exact adi d h)
theorem NZ {c:UInt8} (h:(c.toNat:Int)=34\/(c.toNat:Int)=92):A8 c=[92,c]:=by
 have:c=34\/c=92:=by rcases h with h|h;exact .inl (av4 (by show c.toNat=34;omega));exact .inr (av4 (by show c.toNat=92;omega))
 unfold A8;rw [gH this]
theorem TL {c:UInt8} (h1:¬ (c.toNat:Int)=34) (h2:¬ (c.toNat:Int)=92):¬ (c=34\/c=92):=by
 rintro (rfl|rfl);·exact h1 rfl
 exact h2 rfl
theorem ZV {c:UInt8} (h:(c.toNat:Int)=10):A8 c=[92,110]:=by have:c=10:=av4 (by show c.toNat=10;omega);subst this;rfl
theorem ZW {c:UInt8} (h1:¬ (c.toNat:Int)=34) (h2:¬ (c.toNat:Int)=92) (h3:32<=(c.toNat:Int)) (h4:(c.toNat:Int)<=126):A8 c=[c]:=by unfold A8;rw [g5 (TL h1 h2),g5 (by rintro rfl;exact absurd h3 (by decide)),gH ⟨avU.2 (by show 32<=c.toNat;omega),avU.2 (by show c.toNat<=126;omega)⟩]
theorem N0 {c:UInt8} (h1:¬ (c.toNat:Int)=34) (h2:¬ (c.toNat:Int)=92) (h3:¬ (c.toNat:Int)=10) (h4:¬ (32<=(c.toNat:Int)/\(c.toNat:Int)<=126)):A8 c=[92,120,Qa (c / 16),Qa (c % 16)]:=by unfold A8;rw [g5 (TL h1 h2),g5 (by rintro rfl;exact h3 rfl),g5];rintro⟨h5,h6⟩;have h5:=avU.1 h5;have h6:=avU.1 h6;have e1:(32:UInt8).toNat=32:=rfl;have e2:(126:UInt8).toNat=126:=rfl;rw [e1] at h5;rw [e2] at h6;exact h4 ⟨by omega,by omega⟩
theorem XO (c:UInt8):(A8 c).length<=4:=by unfold A8;(repeat' split) <;> simp
theorem GZ (l:List UInt8):(l.flatMap A8).length<=4*l.length:=by induction l with|nil=>simp|cons c r ih=>rw [ag,ab,af];have:=XO c;omega
theorem ZX {s:g6} {i:Nat} {c:UInt8} (h:s[i]?=some c):(bt s)[i]?=some c:=by obtain⟨⟨l⟩⟩:=s;have h2:∀ (a:Array UInt8) (i:Nat),(ByteArray.mk a)[i]?=a[i]?:=fun a i=>rfl;rw [h2] at h;simpa [bt] using h
theorem XP (d:UInt8) (h:d.toNat<16):dy ak (Instr.index 9) (str ⟨#[48,49,50,51,52,53,54,55,56,57,97,98,99,100,101,102]⟩) (.sc (.int .u8 (d.toNat:Int)))=some (.sc (.int .u8 ((Qa d).toNat:Int))):=ic d h
theorem adj {T:g9} (v:Nat) (O:List UInt8) (h0:O≠[]):∃ r m,(r=str (bs O)/\m=[.ox T 1 v O.length,.sF v 1 (jB O)])/\bK ak 85 [.ptr 0 0] [.ox T 1 v O.length,.pq 5 v O] r m:=⟨_,_,⟨rfl,rfl⟩,E6 v O h0⟩
section
attribute [local go_sem] bM ah
theorem JR (s:g6) (hs:s.size<=1048576):Cn 112 [str s] (str (bs (Dy s))):=by
 refine cM [1] 50 [.tmp 2] Tryz.func112 Tryz.call112 fun K hK=>?_;have rJ:ak.underlying 9=some .string:=Tryz.underlying9;have sl:=zY;have bl_:=bA s;simp only [go_sem];refine agX tt_ok 5 [1] rfl rfl rfl Zu rfl ?_;simp only [go_sem];refine cW (JN (kJ xS 34 0 [] (by simp)) rfl rfl []) ?_;rintro _ _ ⟨rfl,O1,v1,k7,rfl⟩;have oc:=yJ List.length k7;simp only [ag,aj,ai,aN,ab,af,ah] at oc;simp only [go_sem];refine ij tt_ok [1] (fun a:Nat×Nat×List UInt8=>[(0,str s),(3,.ptr 0 0),(8,num s.size),(9,num a.1)]) (fun a:Nat×Nat×List UInt8=>bM 127 a.2.1 a.2.2 []) (fun a=>s.size-a.1) (fun a=>a.1<=s.size/\a.2.2=34 :: ((bt s).take a.1).flatMap A8) ((0,v1,O1)) 2 (da (by omega) (by simp only [sl,bQ,go_sem] <;> rfl)) (⟨aY _,by rw [k7];simp⟩) ?_;clear k7 oc;rintro⟨i,va,Oa⟩ ⟨hi,lE⟩;try dsimp only at hi lE
 have uP:=yJ List.length lE;have hqf:=GZ ((bt s).take i);rw [eK] at hqf;rw [af] at uP;try dsimp only [bM]
 intro Z1 dm;simp only [go_sem];apply bE <;> intro jf;·have bH:=jq jf;have hw:=bj i (by omega);obtain⟨c,hc⟩:=er (s:=s) (i:=i) bH;have ic:=eM (P:=ak) s rJ .i64 (i:Int) (by omega) (c:=c) (by rw [gx];exact hc);have eW:=l5 A8 (ZX hc);have qp:=fun x y k=>ab9 ak 5 x y .u8 k c.toNat 4 (by omega);have Bc:=fun x y=>aca ak 5 x y .u8 c.toNat 15;simp only [amV] at qp;simp only [ahA] at Bc;have nS:=XP (c / 16) (by rw [avS];have:=c.toNat_lt;show c.toNat / 16<16;omega);have ob:=XP (c % 16) (by rw [avT];show c.toNat % 16<16;omega);simp only [hw,ic,qp,Bc,nS,ob,go_sem];apply bE <;> intro CS;(·have hq:=NZ (c:=c) (by first|exact .inl (qB CS)|exact .inr (qB xV));have Ej:=yJ List.length hq;simp only [ag,aj,ai,aN,ab,af,ah] at Ej;simp only [hw,ic,qp,Bc,nS,ob,go_sem];refine cW (JN (kJ xS 92 _ _ (by omega)) rfl rfl []) ?_;rintro _ _ ⟨rfl,O2,v2,tQ,rfl⟩;have Ad:=yJ List.length tQ;simp only [ag,aj,ai,aN,ab,af,ah] at Ad;simp only [hw,ic,qp,Bc,nS,ob,go_sem];refine cW (JN (kJ xS c _ _ (by omega)) rfl rfl []) ?_;rintro _ _ ⟨rfl,Oy,vy,jV,rfl⟩;have CR:=yJ List.length jV;simp only [ag,aj,ai,aN,ab,af,ah] at CR;simp only [hw,ic,qp,Bc,nS,ob,go_sem];refine dm _ ⟨(i+1,vy,Oy),?_,?_,da (by omega) (by simp only [hw,go_sem])⟩;(·exact⟨bH,by rw [eW,hq];simp only [*,ay,al,aq]⟩);dsimp only;omega);simp only [hw,ic,qp,Bc,nS,ob,go_sem];apply bE <;> intro xV;(·have hq:=NZ (c:=c) (by first|exact .inl (qB CS)|exact .inr (qB xV));have Ej:=yJ List.length hq;simp only [ag,aj,ai,aN,ab,af,ah] at Ej;simp only [hw,ic,qp,Bc,nS,ob,go_sem];refine cW (JN (kJ xS 92 _ _ (by omega)) rfl rfl []) ?_;rintro _ _ ⟨rfl,O4,v4,D3,rfl⟩;have JQ:=yJ List.length D3;simp only [ag,aj,ai,aN,ab,af,ah] at JQ;simp only [hw,ic,qp,Bc,nS,ob,go_sem];refine cW (JN (kJ xS c _ _ (by omega)) rfl rfl []) ?_;rintro _ _ ⟨rfl,Oy,vy,jV,rfl⟩;have CR:=yJ List.length jV;simp only [ag,aj,ai,aN,ab,af,ah] at CR;simp only [hw,ic,qp,Bc,nS,ob,go_sem];refine dm _ ⟨(i+1,vy,Oy),?_,?_,da (by omega) (by simp only [hw,go_sem])⟩;(·exact⟨bH,by rw [eW,hq];simp only [*,ay,al,aq]⟩);dsimp only;omega);simp only [hw,ic,qp,Bc,nS,ob,go_sem];apply bE <;> intro wk;(·have hq:=ZV (c:=c) (qB wk);have Ej:=yJ List.length hq;simp only [ag,aj,ai,aN,ab,af,ah] at Ej;simp only [hw,ic,qp,Bc,nS,ob,go_sem];refine cW (JN (xU xS ⟨#[92,110]⟩ (by decide) _ _ (by have e_:(⟨#[92,110]⟩:g6).size=2:=rfl;omega)) rfl rfl []) ?_;rintro _ _ ⟨rfl,Oy,vy,jV,rfl⟩;rw [aN] at jV;have CR:=yJ List.length jV;simp only [ag,aj,ai,aN,ab,af,ah] at CR;simp only [hw,ic,qp,Bc,nS,ob,go_sem];refine dm _ ⟨(i+1,vy,Oy),?_,?_,da (by omega) (by simp only [hw,go_sem])⟩;(·exact⟨bH,by rw [eW,hq];simp only [*,ay,al,aq]⟩);dsimp only;omega);simp only [hw,ic,qp,Bc,nS,ob,go_sem];apply bE <;> intro Mk;(·simp only [hw,ic,qp,Bc,nS,ob,go_sem];apply bE <;> intro ot;(·have hq:=ZW (c:=c) (k9 CS) (k9 xV) (qB Mk) (qB ot);have Ej:=yJ List.length hq;simp only [ag,aj,ai,aN,ab,af,ah] at Ej;simp only [hw,ic,qp,Bc,nS,ob,go_sem];refine cW (JN (kJ xS c _ _ (by omega)) rfl rfl []) ?_;rintro _ _ ⟨rfl,Oy,vy,jV,rfl⟩;have CR:=yJ List.length jV;simp only [ag,aj,ai,aN,ab,af,ah] at CR;simp only [hw,ic,qp,Bc,nS,ob,go_sem];refine dm _ ⟨(i+1,vy,Oy),?_,?_,da (by omega) (by simp only [hw,go_sem])⟩;(·exact⟨bH,by rw [eW,hq];simp only [*,ay,al,aq]⟩);dsimp only;omega);have hq:=N0 (c:=c) (k9 CS) (k9 xV) (k9 wk) (by first|exact fun h_=>(k9 Mk) h_.1|exact fun h_=>(k9 ot) h_.2);have Ej:=yJ List.length hq;simp only [ag,aj,ai,aN,ab,af,ah] at Ej;simp only [hw,ic,qp,Bc,nS,ob,go_sem];refine cW (JN (xU xS ⟨#[92,120]⟩ (by decide) _ _ (by have e_:(⟨#[92,120]⟩:g6).size=2:=rfl;omega)) rfl rfl []) ?_;rintro _ _ ⟨rfl,O8,v8,hO8,rfl⟩;rw [aN] at hO8;have hl8:=yJ List.length hO8;simp only [ag,aj,ai,aN,ab,af,ah] at hl8;simp only [hw,ic,qp,Bc,nS,ob,go_sem];refine cW (JN (kJ xS (Qa (c / 16)) _ _ (by omega)) rfl rfl []) ?_;rintro _ _ ⟨rfl,O9,v9,hO9,rfl⟩;have hl9:=yJ List.length hO9;simp only [ag,aj,ai,aN,ab,af,ah] at hl9;simp only [hw,ic,qp,Bc,nS,ob,go_sem];refine cW (JN (kJ xS (Qa (c % 16)) _ _ (by omega)) rfl rfl []) ?_;rintro _ _ ⟨rfl,Oy,vy,jV,rfl⟩;have CR:=yJ List.length jV;simp only [ag,aj,ai,aN,ab,af,ah] at CR;simp only [hw,ic,qp,Bc,nS,ob,go_sem];refine dm _ ⟨(i+1,vy,Oy),?_,?_,da (by omega) (by simp only [hw,go_sem])⟩;(·exact⟨bH,by rw [eW,hq];simp only [*,ay,al,aq]⟩);dsimp only;omega);have hq:=N0 (c:=c) (k9 CS) (k9 xV) (k9 wk) (by first|exact fun h_=>(k9 Mk) h_.1|exact fun h_=>(k9 ot) h_.2);have Ej:=yJ List.length hq;simp only [ag,aj,ai,aN,ab,af,ah] at Ej;simp only [hw,ic,qp,Bc,nS,ob,go_sem];refine cW (JN (xU xS ⟨#[92,120]⟩ (by decide) _ _ (by have e_:(⟨#[92,120]⟩:g6).size=2:=rfl;omega)) rfl rfl []) ?_;rintro _ _ ⟨rfl,O11,v11,Qk,rfl⟩;rw [aN] at Qk;have TK:=yJ List.length Qk;simp only [ag,aj,ai,aN,ab,af,ah] at TK;simp only [hw,ic,qp,Bc,nS,ob,go_sem];refine cW (JN (kJ xS (Qa (c / 16)) _ _ (by omega)) rfl rfl []) ?_;rintro _ _ ⟨rfl,O12,v12,XN,rfl⟩;have adk:=yJ List.length XN;simp only [ag,aj,ai,aN,ab,af,ah] at adk;simp only [hw,ic,qp,Bc,nS,ob,go_sem];refine cW (JN (kJ xS (Qa (c % 16)) _ _ (by omega)) rfl rfl []) ?_;rintro _ _ ⟨rfl,Oy,vy,jV,rfl⟩;have CR:=yJ List.length jV;simp only [ag,aj,ai,aN,ab,af,ah] at CR;simp only [hw,ic,qp,Bc,nS,ob,go_sem];refine dm _ ⟨(i+1,vy,Oy),?_,?_,da (by omega) (by simp only [hw,go_sem])⟩;(·exact⟨bH,by rw [eW,hq];simp only [*,ay,al,aq]⟩);dsimp only;omega
 have fP:=ki jf;have jx:i=s.size:=by omega
 rw [jx,<- bl_,aE] at lE;simp only [go_sem];refine cW (JN (kJ xS 34 _ _ (by omega)) rfl rfl []) ?_;rintro _ _ ⟨rfl,Oy,vy,jV,rfl⟩;have CR:=yJ List.length jV;simp only [ag,aj,ai,aN,ab,af,ah] at CR;simp only [go_sem];refine cW (adj _ _ (by rw [jV];simp)) ?_;rintro _ _ ⟨rfl,rfl⟩;simp only [go_sem];exact hK _ (by rw [jV,lE];rfl)
end
end
def lM (s:g6):V:=.fZ [num (Av s).1,.agg [num (Av s).2.1,num (Av s).2.2]]
theorem bO (a b:Int):yz ak 210 [(0,.int .i64 a),(1,.int .i64 b)]=some (.agg [num a,num b]):=kr
theorem bO1 (a:Int):yz ak 210 [(0,.int .i64 a)]=some (.agg [num a,num 0]):=kr
theorem Ae (s:g6):Cn 200 [str s] (lM s):=by refine cM [] 28 [.tmp 2,.cell 3 210] Tryz.func200 Tryz.call200 fun K hK=>?_;repeat' (simp only [cY,bO,bO1,go_sem];first|apply bE <;> intro hg|(exact hK _ (by simp_all [lM,Av])))
theorem TN (x:Ex):Cn 198 [ca x] (num x.lvl):=by refine cM [] 30 [.tmp 2] Tryz.func198 Tryz.call198 fun K hK=>?_;simp only [aS,aH];repeat' (simp only [lM,go_sem];first|apply bE <;> intro hg|refine cL (Ae x.name) ?_|(exact hK _ (by simp_all [Ex.lvl])))
def Ty.vars (t:Ty):List g6:=(t.nodes.filter fun u=>decide (u.kind=9)).map Ty.name
section
attribute [local irreducible] runM gQ rv dv lX xm EC
end
end Go.Proofs.YtfbbfmcggbapoaaGreatDoor
end
