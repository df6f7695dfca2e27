import Derived.Test.YtfbbfmcggbapoaaGreatDoorK3
import Derived.Lib.ItoaNum
import Derived.Lib.ItoaLen
import Derived.Lib.Builder
import Derived.Lib.AppendStr
import Derived.Lib.UnsafeStr
import Derived.Lib.Walk
import Derived.Lib.Small
import Derived.Laws.Externs
import Derived.Shelf.RegionOpenPlain
open Array renaming toArray_toList→cr,toList_inj→aiS
open Bool renaming and_eq_true→aJ,and_true→aU,eq_false_iff→auE,eq_iff_iff→ajO,false_eq_true→bu,or_eq_true→dN,or_false→bT,or_true→ca
open ByteArray renaming ext→atL
open Go.Proofs.Tryz renaming prog→aj
open Int renaming cast_ofNat_Int→dY,le_refl→bY,toNat_natCast→ru,toNat_zero→bp
open List renaming all_append→o7,all_cons→cI,all_eq_true→aN,all_nil→dM,any_eq_true→tP,append_assoc→al,append_nil→ah,cons_append→aw,eq_nil_of_length_eq_zero→auy,ext_getElem?→dC,flatMap_append→lN,flatMap_cons→ab,flatMap_nil→ag,foldl_append→at4,foldl_cons→o3,getElem?_append_left→bh,getElem?_append_right→aX,getElem?_cons_zero→aF,getElem?_eq_getElem→au,getElem?_eq_some_iff→aA,getElem?_map→aq,getElem?_set→bR,headD_cons→cg,length_append→ae,length_cons→af,length_map→ax,length_nil→ai,length_set→atI,length_singleton→auh,length_take→lg,map_append→fF,map_cons→bm,map_nil→iK,mem_append→eA,mem_append_left→dD,mem_append_right→eP,mem_cons→b8,mem_cons_of_mem→bj,mem_cons_self→cV,mem_flatMap→e9,mem_iff_getElem?→bB,mem_map→cQ,mem_map_of_mem→aud,mem_of_getElem?→aE,mem_singleton→eX,nil_append→aC,replicate_succ→aG,replicate_zero→aH,set_append_right→ic,set_cons_succ→mb,set_cons_zero→ma,take_add_one→bH,take_append_drop→nB,take_left→qK,take_length→az,take_nil→atS,take_of_length_le→dX,take_succ_cons→y5
open Nat renaming add_sub_cancel_left→dQ,le_refl→ay,le_trans→fU,sub_self→eI,sub_zero→asl,zero_add→dL,zero_le→ck
open Option renaming isNone_none→ac6,map_eq_some_iff→aY,map_some→b9,toList_some→auM
open Option.some renaming inj→gD,injEq→aB
open Prod.mk renaming injEq→dn
open UInt8 renaming le_iff_toNat_le→atM,toNat_div→auv,toNat_mod→auw
open UInt8.toNat renaming inj→atY
set_option linter.all false
section
namespace Go.Proofs.YtfbbfmcggbapoaaGreatDoor
open Go.Eng
variable [ba]
open Nat renaming reduceAdd → zA, reduceLT → zB, reduceLeDiff → zC, reduceMul → zD, reduceEqDiff → zE, reduceSub → zF
set_option maxHeartbeats 4000000
set_option maxRecDepth 100000
section
section
variable {α:Type} [DecidableEq α]
def uN (kv:α→Value):Nat→List (α×V)→List (Value×Nat×V)
 | _,[]=>[]
 | n,(k,v) :: r=>(kv k,n,v) :: uN kv (n+1) r
theorem A7 (kv:α→Value):∀ (g:List (α×V)) (n:Nat),(uN kv n g).length=g.length
 | [],_=>rfl
 | _ :: r,n=>by simp [uN,A7 kv r (n+1)]
theorem Lu (kv:α→Value):∀ (g:List (α×V)) (n i:Nat),(uN kv n g)[i]?=g[i]?.map fun e=>(kv e.1,n+i,e.2)
 | [],_,_=>rfl
 | e :: r,n,0=>rfl
 | e :: r,n,i+1=>by
  show (uN kv (n+1) r)[i]?=_
  rw [Lu kv r (n+1) i,show n+1+i=n+(i+1) by omega];rfl
theorem G9 (kv:α→Value) (k:α) (v:V):∀ (g:List (α×V)) (n:Nat),uN kv n (g++[(k,v)])=uN kv n g++[(kv k,n+g.length,v)]
 | [],_=>rfl
 | e :: r,n=>by
  show (kv e.1,n,e.2) :: uN kv (n+1) (r++[(k,v)])=(kv e.1,n,e.2) :: (uN kv (n+1) r++_)
  rw [G9 kv k v r (n+1),af,show n+1+r.length=n+(r.length+1) by omega]
theorem Lv (kv:α→Value) (k:α) (v:V):∀ (g:List (α×V)) (n i:Nat),i<g.length→uN kv n (g.set i (k,v))=(uN kv n g).set i (kv k,n+i,v)
 | [],_,_,h=>by simp at h
 | e :: r,n,0,_=>rfl
 | e :: r,n,i+1,h=>by
  show (kv e.1,n,e.2) :: uN kv (n+1) (r.set i (k,v))=(kv e.1,n,e.2) :: (uN kv (n+1) r).set i _
  rw [Lv kv k v r (n+1) i (by simpa using h),show n+1+i=n+(i+1) by omega]
theorem Lw (kv:α→Value) (p:V→Bool):∀ (g:List (α×V)) (n:Nat),((uN kv n g).all fun e=>p e.2.2)=g.all fun e=>p e.2
 | [],_=>rfl
 | _ :: r,n=>by simp [uN,Lw kv p r (n+1)]
def mD (a:α):List (α×V)→Nat→Option (Nat×V)
 | [],_=>none
 | e :: r,i=>if e.1=a then some (i,e.2) else mD a r (i+1)
def getM (a:α):List (α×V)→Option V
 | []=>none
 | e :: r=>if e.1=a then some e.2 else getM a r
theorem C7 (a:α):∀ (g:List (α×V)) (i:Nat),(mD a g i).map (·.2)=getM a g
 | [],_=>rfl
 | e :: r,i=>by
  unfold mD getM
  split
  ·rfl
  exact C7 a r (i+1)
theorem wj {a:α}:∀ {g:List (α×V)} {n i:Nat} {v:V},mD a g n=some (i,v)→n≤i∧g[i-n]?=some (a,v)
 | [],_,_,_,h=>by simp [mD] at h
 | e :: r,n,i,v,h=>by
  unfold mD at h
  split at h
  ·rename_i he;cases h;subst he;simp
  obtain⟨h1,h2⟩:=wj h
  refine⟨by omega,?_⟩
  rw [show i-n=(i-(n+1))+1 by omega];simpa using h2
structure KT (P:Program) (T kt et:TypeId) (kv:α→Value) (ky:α→V):Prop where
 map:iQ P T=some (kt,et)
 val:∀ a,fa (ky a)=some (kv a)
 ok:∀ a,tS P kt (kv a)=true
 bits:∀ a,Instr.sameBits 10000 (kv a) (kv a)=true
 find:∀ (a:α) (g:List (α×V)),pe P kt (kv a) (uN kv 0 g)=some (mD a g 0)
theorem KT.now {P:Program} {kt:TypeId} {kv:α→Value} {d:TypeDesc} (hd:P.underlying kt=some d) (h:∀ a b,Instr.sameNow d (kv a) (kv b)=some (decide (b=a))) (a:α) (g:List (α×V)):pe P kt (kv a) (uN kv 0 g)=some (mD a g 0):=by
 have key:∀ (g:List (α×V)) (n i:Nat),gi d (kv a) (uN kv n g) i=some (mD a g i):=by intro g;induction g with|nil=>intro n i;rfl|cons e r ih =>intro n i;obtain⟨k,v⟩:=e;simp only [uN,gi,mD,h];by_cases hk:k=a;(·simp [hk]);rw [decide_eq_false hk,if_neg hk];exact ih _ _
 unfold pe;rw [hd];dsimp only;rw [key]
section
variable {P:Program} {T kt et:TypeId} {kv:α→Value} {ky:α→V}
def Np (a:α) (v:V) (g:List (α×V)):List (α×V):=match mD a g 0 with
 | none=>g++[(a,v)]
 | some (i,_)=>g.set i (a,v)
theorem KT.put (h:KT P T kt et kv ky) (a:α) (v:V) (g:List (α×V)) {mem:List bf} {b:Nat} (hm:mem[b]?=some (.map (uN kv 0 g) g.length)) :
  dB P mem T (.mp b) (ky a) v=some (mem.set b (.map (uN kv 0 (Np a v g)) (Np a v g).length)):=by unfold dB;rw [h.map];dsimp only;rw [h.val];dsimp only;rw [if_pos (h.ok a),hm];dsimp only;unfold insertAt;rw [h.find];unfold Np;cases hf:mD a g 0 with|none =>dsimp only;rw [G9,dL,ae,auh]|some p =>obtain⟨i,w⟩:=p;obtain⟨-,h2⟩:=wj hf;rw [asl] at h2;dsimp only;rw [Lu,h2];dsimp only [b9];rw [if_pos (h.bits a)];dsimp only;rw [Lv _ _ _ _ _ _ (aA.1 h2).1,atI]
theorem KT.get (h:KT P T kt et kv ky) (a:α) (g:List (α×V)) {mem:List bf} {b:Nat} (hm:mem[b]?=some (.map (uN kv 0 g) g.length)) {z:V} (hz:zeroV P et=some z) (ok:Bool) :
  j0 P mem T (.mp b) (ky a) ok=some (WH ok (getM a g).isSome ((getM a g).getD z)):=by unfold j0;rw [h.map];dsimp only;rw [h.val];dsimp only;rw [if_pos (h.ok a)];unfold pf;dsimp only;rw [hm];dsimp only;rw [h.find,← C7 a g 0];cases hf:mD a g 0 with|none=>dsimp only;rw [hz];rfl|some p=>rfl
end
end
end
def strVal (s:ByteArray):Value:=.string s
theorem afu {T et:TypeId} (h:iQ aj T=some (9,et)):KT aj T 9 et strVal str :=
 ⟨h,fun _=>rfl,fun a=>by unfold tS;rw [Tryz.underlying9],fun a=>(C1 a a).2 rfl,
  KT.now Tryz.underlying9 fun a b=>by
   show some (a==b)=some (decide (b=a))
   congr 1
   rw [ajO,C1,decide_eq_true_eq]
   exact⟨fun h=>h.symm,fun h=>h.symm⟩⟩
theorem aaE:iQ aj 217=some (9,4):=kr
theorem afv:KT aj 217 9 4 strVal str:=afu aaE
abbrev GN:=List (ByteArray×V)
def wk (g:GN) (x:ByteArray):GN:=Np x (bl true) g
def ei (g:GN) (l:List ByteArray):GN:=l.foldl wk g
theorem Vv (g:GN) (x:ByteArray) {mem:List bf} {b:Nat} (hm:mem[b]?=some (.map (uN strVal 0 g) g.length)):dB aj mem 217 (.mp b) (str x) (bl true)=some (mem.set b (.map (uN strVal 0 (wk g x)) (wk g x).length)):=afv.put x (bl true) g hm
structure NG (g:GN):Prop where
 aaF:∀ e∈g,e.2=bl true
 nodup:(g.map fun e=>e.1).Nodup
theorem uO {a:ByteArray}:∀ {g:GN} {n:Nat},mD a g n=none→∀ e∈g,e.1≠a
 | [],_,_,e,he=>by cases he
 | c :: r,n,h,e,he=>by
  unfold mD at h
  split at h
  ·cases h
  rename_i dy
  rcases b8.1 he with rfl|he
  ·exact dy
  exact uO h e he
theorem NG.nil:NG []:=⟨fun e he=>(by cases he),List.nodup_nil⟩
theorem Ha {g:GN} {i:Nat} {x:ByteArray} {v w:V} (h:g[i]?=some (x,v)):(g.set i (x,w)).map (fun e=>e.1)=g.map fun e=>e.1:=by
 rw [List.map_set];apply dC;intro j;rw [bR];split;·rename_i Ig;subst Ig;have bQ:=(aA.1 h).1;rw [if_pos (by simpa using bQ),aq,h];rfl
 rfl
theorem NG.add {g:GN} (h:NG g) (x:ByteArray):NG (wk g x)∧(∀ k,k∈(wk g x).map (fun e=>e.1)↔k=x∨k∈g.map fun e=>e.1)∧(wk g x).length≤g.length+1:=by unfold wk Np;cases hf:mD x g 0 with|none =>(dsimp only;refine⟨⟨fun e he=>?_,?_⟩,fun k=>?_,by simp⟩;(·(rcases eA.1 he with he|he);(·exact h.aaF e he);rw [eX] at he;subst he;rfl);(·rw [fF,List.nodup_append];refine⟨h.nodup,by simp,fun a ha b hb=>?_⟩;obtain⟨e,he,rfl⟩:=cQ.1 ha;simp only [bm,iK,eX] at hb;subst hb;exact uO hf e he);rw [fF,eA];simp only [bm,iK,eX];exact Or.comm)|some p =>obtain⟨i,v⟩:=p;obtain⟨-,h2⟩:=wj hf;rw [asl] at h2;dsimp only;refine⟨⟨fun e he=>?_,?_⟩,fun k=>?_,by simp⟩;(·(rcases List.mem_or_eq_of_mem_set he with he|rfl);(·exact h.aaF e he);rfl);(·rw [Ha h2];exact h.nodup);rw [Ha h2];constructor;(·exact .inr);rintro (rfl|h);(·exact cQ.2 ⟨_,aE h2,rfl⟩);exact h
theorem NG.ei:∀ {l:List ByteArray} {g:GN},NG g→NG (ei g l)∧(∀ k,k∈(ei g l).map (fun e=>e.1)↔k∈l∨k∈g.map fun e=>e.1)∧(ei g l).length≤g.length+l.length
 | [],g,h=>⟨h,fun k=>⟨.inr,fun h=>h.resolve_left (by simp)⟩,by simp [Go.Proofs.YtfbbfmcggbapoaaGreatDoor.ei]⟩
 | x :: l,g,h=>by
  obtain⟨h1,h2,h3⟩:=h.add x
  obtain⟨h4,h5,h6⟩:=NG.ei (l:=l) h1
  refine⟨h4,fun k=>?_,by have:Go.Proofs.YtfbbfmcggbapoaaGreatDoor.ei g (x :: l)=Go.Proofs.YtfbbfmcggbapoaaGreatDoor.ei (wk g x) l:=rfl;rw [this,af];omega⟩
  have:Go.Proofs.YtfbbfmcggbapoaaGreatDoor.ei g (x :: l)=Go.Proofs.YtfbbfmcggbapoaaGreatDoor.ei (wk g x) l:=rfl
  rw [this,h5 k,h2 k,b8]
  constructor
  ·rintro (h|h|h)
   ·exact .inl (.inr h)
   ·exact .inl (.inl h)
   exact .inr h
  rintro ((h|h)|h)
  ·exact .inr (.inl h)
  ·exact .inl h
  exact .inr (.inr h)
theorem Hb {α:Type} (f:α→ByteArray) (g:GN) {l:List α} {i:Nat} {x:α} (h:l[i]?=some x):ei g ((l.take (i+1)).map f)=wk (ei g ((l.take i).map f)) (f x):=by unfold ei;rw [bH,h,fF,at4];rfl
theorem NG.below {g:GN} (h:NG g) (n:Nat):((uN strVal 0 g).all fun e=>aI n e.2.2)=true:=by rw [Lw strVal (aI n),aN];intro e he;rw [h.aaF e he];rfl
def yR:List ByteArray→Bool
 | []=>false
 | a :: r=>qy a r||yR r
theorem Lx (x:ByteArray) (l m:List ByteArray):qy x (l++m)=(qy x l||qy x m):=by unfold qy;rw [List.any_append]
theorem C8 (x:ByteArray):∀ l:List ByteArray,yR (l++[x])=(yR l||qy x l)
 | []=>rfl
 | a :: r=>by
  have e1:qy a [x]=qy x [a]:=by
   unfold qy
   simp only [List.any_cons,List.any_nil,bT]
   by_cases h:a=x
   ·rw [decide_eq_true h,decide_eq_true h.symm]
   rw [decide_eq_false h,decide_eq_false fun e=>h e.symm]
  have e2:qy x (a :: r)=(qy x [a]||qy x r):=Lx x [a] r
  simp only [aw,yR,C8 x r,Lx,e1,e2]
  cases qy a r <;> cases qy x [a] <;> cases yR r <;> cases qy x r <;> rfl
theorem Rh (g:GN) (x:ByteArray):(x∈g.map (fun e=>e.1)→(wk g x).length=g.length)∧(x ∉ g.map (fun e=>e.1)→(wk g x).length=g.length+1):=by unfold wk Np;cases hf:mD x g 0 with|none =>dsimp only;refine⟨fun h=>?_,fun _=>by simp⟩;obtain⟨e,he,hx⟩:=cQ.1 h;exact absurd hx (uO hf e he)|some p =>obtain⟨i,v⟩:=p;obtain⟨-,h2⟩:=wj hf;rw [asl] at h2;dsimp only;exact⟨fun _=>by rw [atI],fun h=>absurd (cQ.2 ⟨_,aE h2,rfl⟩) h⟩
theorem Hc (l:List ByteArray):∀ m:List ByteArray,(ei [] l).length≤l.length→decide ((ei [] l).length<l.length)=yR l→(ei [] (l++m)).length≤(l++m).length∧decide ((ei [] (l++m)).length<(l++m).length)=yR (l++m):=by intro m;induction m generalizing l with|nil=>intro h1 h2;rw [ah];exact⟨h1,h2⟩|cons x m ih =>intro h1 h2;(have e0:l++x :: m=(l++[x])++m:=by simp);(have e:ei [] (l++[x])=wk (ei [] l) x:=by unfold ei;rw [at4];rfl);(have hm:x∈(ei [] l).map (fun e=>e.1)↔x∈l:=by have:=(NG.ei (l:=l) NG.nil).2.1 x;simpa using this);have hl:=Rh (ei [] l) x;rw [e0];refine ih (l++[x]) ?_ ?_;(·rw [e,ae,auh];by_cases hx:x∈l;(·rw [hl.1 (hm.2 hx)];omega);rw [hl.2 fun h=>hx (hm.1 h)];omega);rw [e,C8,← h2,ae,auh];by_cases hx:x∈l;(·rw [hl.1 (hm.2 hx),Lr.2 hx,ca];exact decide_eq_true (by omega));have hb:qy x l=false:=auE.2 fun h=>hx (Lr.1 h);rw [hl.2 fun h=>hx (hm.1 h),hb,bT];congr 1;rw [eq_iff_iff];omega
theorem Jz (l:List ByteArray):(ei [] l).length≤l.length∧decide ((ei [] l).length<l.length)=yR l:=Hc [] l (ay _) rfl
theorem Vw {mem:List bf} {b:Nat} (g:GN) (c:Nat) (hm:mem[b]?=some (.map (uN strVal 0 g) c)):wZ mem #[217] aj [.mp b]=some (num g.length):=by unfold wZ;have h:iQ aj 217=some (9,4):=kr;simp [h,hm,A7]
section
def Ex.own (e:Ex):List Ty:=e.types++if e.kind=8 then e.labels.map Lb.ty else []
mutual
def Ex.size:Ex→Nat
 | .mk k _ _ _ _ ts ls ks=>1+aM Ty.size (ts++if k=8 then ls.map Lb.ty else [])+zy ks
def zy:List Ex→Nat
 | []=>0
 | e :: r=>e.size+zy r
end
mutual
def Ex.nodes:Ex→List Ex
 | .mk k m n t i ts ls ks=>.mk k m n t i ts ls ks :: wm ks
def wm:List Ex→List Ex
 | []=>[]
 | e :: r=>e.nodes++wm r
end
theorem Hd (ts:List Ex):wm ts=ts.flatMap Ex.nodes:=by induction ts with|nil=>rfl|cons t r ih=>simp [wm,ih]
theorem JA (ts:List Ex):zy ts=aM Ex.size ts:=by induction ts with|nil=>rfl|cons t r ih=>simp [zy,aM,ih]
theorem Ex.dU (t:Ex):t.nodes=t :: t.kids.flatMap Ex.nodes:=by obtain⟨k,m,n,x,i,ts,ls,ks⟩:=t;simp only [Ex.nodes,Ex.kids,Hd]
theorem Ex.size_eq (t:Ex):t.size=1+aM Ty.size t.own+aM Ex.size t.kids:=by obtain⟨k,m,n,x,i,ts,ls,ks⟩:=t;rw [Ex.size,JA];rfl
theorem Ex.size_pos (t:Ex):0<t.size:=by rw [Ex.size_eq];omega
theorem Ex.jt (t:Ex):1+aM Ex.size t.kids≤t.size:=by rw [Ex.size_eq];omega
theorem Ex.A8:∀ (N:Nat) (t:Ex),t.size≤N→aM (fun e=>1+aM Ty.size e.own) t.nodes=t.size:=by intro N;induction N with|zero=>intro t h;have:=t.size_pos;omega|succ N ih =>intro t hN;have h1:=t.size_eq;(have gen:∀ (l:List Ex),aM Ex.size l≤N→aM (fun e=>1+aM Ty.size e.own) (l.flatMap Ex.nodes)=aM Ex.size l:=by intro l;induction l with|nil=>intro _;rfl|cons a r Q8 =>intro hl;simp only [aM] at hl ⊢;rw [ab,eW,ih a (by omega),Q8 (by omega)]);rw [Ex.dU];simp only [aM];rw [gen _ (by omega)];omega
def Lb.dd (l:Lb):Nat:=1+l.ty.size
mutual
def Ex.dd:Ex→Nat
 | .mk _ _ _ _ _ ts ls ks=>1+aM Ty.size ts+aM Lb.dd ls+zH ks
def zH:List Ex→Nat
 | []=>0
 | e :: r=>e.dd+zH r
end
theorem JB (ts:List Ex):zH ts=aM Ex.dd ts:=by induction ts with|nil=>rfl|cons t r ih=>simp [zH,aM,ih]
theorem Ex.oC (t:Ex):t.dd=1+aM Ty.size t.types+aM Lb.dd t.labels+aM Ex.dd t.kids:=by obtain⟨k,m,n,x,i,ts,ls,ks⟩:=t;rw [Ex.dd,JB];rfl
theorem Ex.gz (t:Ex):0<t.dd:=by rw [Ex.oC];omega
theorem Ex.pO (t:Ex):1+aM Ex.dd t.kids≤t.dd:=by rw [Ex.oC];omega
theorem Ex.mE (t:Ex):t.kids.length<t.dd:=by have:=ct Ex.dd Ex.gz t.kids;rw [Ex.oC];omega
theorem Lb.gz (l:Lb):0<l.dd:=by unfold Lb.dd;omega
theorem Ex.ED (t:Ex):aM Ty.size t.own+1+aM Ex.dd t.kids≤t.dd:=by
 rw [Ex.oC,Ex.own,eW];have:aM Ty.size (if t.kind=8 then t.labels.map Lb.ty else [])≤aM Lb.dd t.labels:=by split;(·rw [js];generalize t.labels=l;induction l with|nil=>simp [aM]|cons a r ih=>simp only [aM,Lb.dd] at ih ⊢;omega);simp [aM]
 omega
theorem Ex.wo (t:Ex):t.types.length+t.labels.length<t.dd:=by have h1:=ct Ty.size Ty.size_pos t.types;have h2:=ct Lb.dd Lb.gz t.labels;rw [Ex.oC];omega
theorem Ex.j7:∀ (N:Nat) (t:Ex),t.dd≤N→t.size≤t.dd:=by intro N;induction N with|zero=>intro t h;have:=t.gz;omega|succ N ih =>intro t hN;have h1:=t.ED;rw [Ex.size_eq];(have gen:∀ (l:List Ex),aM Ex.dd l≤N→aM Ex.size l≤aM Ex.dd l:=by intro l;induction l with|nil=>intro _;simp [aM]|cons a r Q8 =>intro hl;simp only [aM] at hl ⊢;have:=ih a (by omega);have:=Q8 (by omega);omega);have:=gen t.kids (by omega);omega
section
variable {σ:Type} {M:σ→List bf} {n k k1 k2:Nat}
theorem Ri (hn:∀ s,(M s).length=n) (hk:k<n) (ib:k1<n) (jI:k2<n) (h1:∀ s,(M s)[k1]?=some (.box [.jK k])) (h2:∀ s,(M s)[k2]?=some (.box [.ia (.func 187) [] [.ptr k1 0,.ptr k2 0]])) (hb:∀ s,(M s).all (aL n)=true)
  (step:σ→Ex→σ×Bool) (G:σ→Prop) (hG:∀ s u,G s→(step s u).2=true→G (step s u).1) {B:Nat} (hB:B≤1048576) (Pd:Ex→Prop) (hy:∀ s u,G s→u.dd≤B→Pd u→Ih aj k [br u] (M s) (step s u).2 (M (step s u).1)) :
  ∀ (N:Nat) (t:Ex) (s:σ),G s→(∀ v∈t.nodes,Pd v)→t.dd≤N→N≤B→bo aj 187 [br t,.ptr k1 0,.ptr k2 0] (M s) (bl (dr step s t.nodes).2) (M (dr step s t.nodes).1):=by
 have g0:∀ s (l:List bf),(M s++l)[n]?=l[0]?:=fun s l=>by rw [aX (by rw [hn];exact ay _),hn,eI]
 have g1:∀ s (l:List bf),(M s++l)[n+1]?=l[1]?:=fun s l=>by rw [aX (by rw [hn];omega),hn,dQ]
 have XK:∀ s (l:List bf),(M s++l)[k1]?=some (.box [.jK k]):=fun s l=>by rw [bh (by rw [hn];exact ib)];exact h1 s
 have gk2:∀ s (l:List bf),(M s++l)[k2]?=some (.box [.ia (.func 187) [] [.ptr k1 0,.ptr k2 0]]):=fun s l=>by rw [bh (by rw [hn];exact jI)];exact h2 s
 have gs:∀ s (l:List bf) X,(M s++l).set n X=M s++l.set 0 X:=fun s l X=>by rw [ic _ _ (by rw [hn];exact ay _),hn,eI]
 have gt:∀ s (l:List bf),(M s++l).take n=M s:=fun s l=>by rw [← hn s,qK]
 have XL:∀ s,(M s).take n=M s:=fun s=>by rw [dX (by rw [hn];exact ay _)]
 have fy:∀ s u (l:List bf),G s→u.dd≤B→Pd u→Ih aj k [br u] (M s++l) (step s u).2 (M (step s u).1++l):=fun s u l hg hu hp=>by refine (hy s u hg hu hp).frame (by rw [hn];exact hk) ?_ (by rw [hn];exact hb s) (by rw [hn,hn]) (by rw [hn];exact hb _) l;rw [bn];simp [aI,aV,aP]
 intro N;induction N with|zero=>intro t s hg hP h;have:=t.gz;omega|succ N ih =>intro t s hg hP hN hNB;have qU:=t.mE;have oW:=t.pO;have Q5:=ct Ex.dd Ex.gz t.kids;have dy:=t.dU;have Q9:=fun l=>fy s t l hg (by omega) (hP t (by rw [t.dU];simp));(have XM:∀ u s (l:List bf),G s→(∀ v∈u.nodes,Pd v)→u.dd≤N→bo aj 187 [br u,.ptr k1 0,.ptr k2 0] (M s++l) (bl (dr step s u.nodes).2) (M (dr step s u.nodes).1++l):=fun u s l hg hq hu=>by refine (ih u s hg hq hu (by omega)).frame ?_ (by rw [hn];exact hb s) rfl (by rw [hn,hn]) (by rw [hn];exact hb _) l;rw [bn,hn];simp [aI,aV,aP,ib,jI]);simp only [bn,aP] at XM;refine nI tt_ok (fn:=Tryz.f187) n (by rw [hn];exact ay _) Tryz.func187 rfl Tryz.call187 ?_;simp only [cP,cK,Tryz.ntmps187,af,ai,zA,zF,aG,aH];rw [bn] at Q9 ⊢;simp only [aP] at Q9 ⊢;refine ak tt_ok fun K hK=>?_;simp only [hn,go_sem];refine hK _ ?_;refine bc ?_;refine ak tt_ok fun K hK=>?_;simp only [XK,g0,hn,go_sem];refine .inl ⟨_,_,Q9 _,?_⟩;(try simp only [go_sem]);refine hK _ ?_;cases Ra:(step s t).2 with|false =>refine aO rfl ?_;refine ak tt_ok fun K hK=>?_;simp only [go_sem];refine hK _ ?_;refine bE ⟨.inl rfl,?_⟩;(have uo:dr step s t.nodes=((step s t).1,false):=by rw [dy];simp [dr,Ra]);rw [uo];exact⟨rfl,rfl,by dsimp only;rw [gt];exact hb _,(gt _ _).symm⟩|true =>refine aO rfl (bZ ?_);show dS _ _ _ _ _ _;refine bc ?_;refine ak tt_ok fun K hK=>?_;simp only [XK,g0,hn,aW,go_sem];refine hK _ ?_;obtain⟨ps,AY⟩:∃ ps,ps=t.kids:=⟨_,rfl⟩;rw [← AY] at oW Q5 dy ⊢;have hPp:∀ u∈ps,∀ v∈u.nodes,Pd v:=fun u hu v hv=>hP v (by rw [dy];exact bj _ (e9.2 ⟨u,hu,hv⟩));refine bC (cR (fun N st=>∃ (i:Nat) (s':σ),G s'∧N=ps.length-i∧i≤ps.length∧dr step s (t :: (ps.take i).flatMap Ex.nodes)=(s',true) ∧ st = { fr:=[.undef,.ptr k1 0,.ptr k2 0,.undef,.undef,.undef,.undef,.undef,.undef,.undef,.undef,.undef,.slice (nO ps),num ps.length,num i]++List.replicate 8 .undef,mem:=M s' }) ps.length ?_ ?_);(·refine⟨n,(false::true::true::(rp 9 false [true,true,true])),by rw [hn];exact ay _,by simp only [bg,aI,aV,aL,zB,ib,jI,gG],by dsimp only;rw [gt];exact hb _,0,(step s t).1,hG s t hg Ra,by omega,by omega,by simp [dr,Ra],?_⟩;dsimp only;rw [gt];rfl);rintro N' st ⟨i,s',FQ,rfl,hi,Rb,rfl⟩;simp only [cP,aG,aH];by_cases bQ:i<ps.length;(·have hd:=gx bQ;refine ak tt_ok fun K hK=>?_;simp only [aW,hd,go_sem];refine hK _ ?_;refine bc (aO rfl (bZ ?_));refine bc (bC ?_);obtain⟨u,hu⟩:∃ u,ps[i]?=some u:=⟨_,au bQ⟩;have hus:=bU Ex.dd hu;have jj:=fun l=>XM u s' l FQ (hPp u (aE hu)) (by omega);(have uf:(ps.take (i+1)).flatMap Ex.nodes=(ps.take i).flatMap Ex.nodes++u.nodes:=by rw [bH,hu];simp);(have Lt:dr step s (t :: (ps.take (i+1)).flatMap Ex.nodes)=dr step s' u.nodes:=by rw [uf,← aw,iY,Rb];simp);refine ak tt_ok fun K hK=>?_;simp only [jP,hu,bn,aP,hn,g0,gs,go_sem];refine hK _ ?_;refine ak tt_ok fun K hK=>?_;simp only [gk2,g0,hn,go_sem];(refine .inr <| .inl ⟨_,_,jj _,?_⟩);(try simp only [go_sem]);refine hK _ ?_;cases Rc:(dr step s' u.nodes).2 with|false =>refine aO rfl ?_;refine ak tt_ok fun K hK=>?_;simp only [go_sem];refine hK _ ?_;refine bE ⟨.inl rfl,?_⟩;(have uo:dr step s t.nodes=((dr step s' u.nodes).1,false):=by (have A4:ps.flatMap Ex.nodes=(ps.take (i+1)).flatMap Ex.nodes++(ps.drop (i+1)).flatMap Ex.nodes:=by rw [← lN,nB]);rw [dy,A4,← aw,iY,Lt,Rc];simp);rw [uo];exact⟨rfl,rfl,by dsimp only;rw [gt];exact hb _,(gt _ _).symm⟩|true =>refine aO rfl (bZ ?_);show dS _ _ _ _ _ _;refine aR tt_ok fun K hK=>?_;simp only [go_sem];refine hK _ ?_;have nr:=bN i (by omega);rw [nr];refine⟨ps.length-(i+1),by omega,n,(false::true::true::(rp 9 false [true,true,true])),by rw [hn];exact ay _,by simp only [bg,aI,aV,aL,zB,ib,jI,gG],by dsimp only;rw [gt];exact hb _,i+1,(dr step s' u.nodes).1,qA step hG _ _ FQ Rc,rfl,bQ,by rw [Lt,← Rc],?_⟩;dsimp only;rw [gt];rfl);have hd:=gy bQ;refine ak tt_ok fun K hK=>?_;simp only [aW,hd,go_sem];refine hK _ ?_;refine bc (aO rfl (dK ?_));(have kz:i=ps.length:=by omega);subst kz;show dS _ _ _ _ _ _;refine ak tt_ok fun K hK=>?_;simp only [go_sem];refine hK _ ?_;refine bE ⟨.inl rfl,?_⟩;rw [az] at Rb;rw [dy,Rb];exact⟨rfl,rfl,by dsimp only;rw [XL];exact hb _,(XL _).symm⟩
end
theorem He (t:Ex) (m:List bf) (hb:m.all (aL (m.length+1))=true):bo aj 104 [br t] m (.ia (.func 186) [] [.ptr m.length 0]) (m++[.box (aP t)]):=by
 refine nI tt_ok (fn:=Tryz.f104) (m.length+1) (by omega) Tryz.func104 rfl Tryz.call104 ?_;simp only [cP,cK,Tryz.ntmps104,af,ai,zA,zF,aG,aH];rw [bn];simp only [aP];refine ak tt_ok fun K hK=>?_;simp only [go_sem];refine hK _ ?_;refine ak tt_ok fun K hK=>?_;simp only [go_sem];refine hK _ ?_;have ht:∀ B:bf,(m++[B]).take (m.length+1)=m++[B]:=fun B=>dX (by simp);refine bE ⟨.inl rfl,rfl,by simp [aI,aV],?_,?_⟩;·dsimp only;rw [ht];simp [hb,aL,aI,aV]
 dsimp only;rw [ht]
section
variable {σ:Type} {M:σ→List bf} {n k kt:Nat}
theorem Rj (hn:∀ s,(M s).length=n) (hk:k<n) (Nl:kt<n) {t:Ex} (h1:∀ s,(M s)[kt]?=some (.box (aP t))) (hb:∀ s,(M s).all (aL n)=true)
  (step:σ→Ex→σ×Bool) (G:σ→Prop) (hG:∀ s u,G s→(step s u).2=true→G (step s u).1) {B:Nat} (hB:B≤1048576) (Pd:Ex→Prop) (hy:∀ s u,G s→u.dd≤B→Pd u→Ih aj k [br u] (M s) (step s u).2 (M (step s u).1)) (ht:t.dd≤B) (hP:∀ v∈t.nodes,Pd v) (s:σ) (hs:G s) :
  bo aj 186 [.jK k,.ptr kt 0] (M s) (.dR []) (M (dr step s t.nodes).1):=by
 have g0:∀ s (l:List bf),(M s++l)[n]?=l[0]?:=fun s l=>by rw [aX (by rw [hn];exact ay _),hn,eI]
 have g1:∀ s (l:List bf),(M s++l)[n+1]?=l[1]?:=fun s l=>by rw [aX (by rw [hn];omega),hn,dQ]
 have XN:∀ s (l:List bf),(M s++l)[kt]?=some (.box (aP t)):=fun s l=>by rw [bh (by rw [hn];exact Nl)];exact h1 s
 have gs:∀ s (l:List bf) X,(M s++l).set (n+1) X=M s++l.set 1 X:=fun s l X=>by rw [ic _ _ (by rw [hn];omega),hn,dQ]
 have gt:∀ s (l:List bf),(M s++l).take n=M s:=fun s l=>by rw [← hn s,qK]
 have hw:∀ s,G s→bo aj 187 [br t,.ptr n 0,.ptr (n+1) 0] (M s++[.box [.jK k],.box [.ia (.func 187) [] [.ptr n 0,.ptr (n+1) 0]]]) (bl (dr step s t.nodes).2) (M (dr step s t.nodes).1++[.box [.jK k],.box [.ia (.func 187) [] [.ptr n 0,.ptr (n+1) 0]]]):=fun s hs=>by refine Ri (M:=fun s=>M s++[.box [.jK k],.box [.ia (.func 187) [] [.ptr n 0,.ptr (n+1) 0]]]) (n:=n+2) (k:=k) (k1:=n) (k2:=n+1) (fun s=>by simp [hn]) (by omega) (by omega) (by omega) (fun s=>g0 _ _) (fun s=>g1 _ _) (fun s=>?_) step G hG hB Pd (fun s u hg hu hq=>?_) t.dd t s hs hP (ay _) ht;(·rw [o7,aJ];refine⟨qn (by omega) (hb s),?_⟩;simp [aL,aI,aV];omega);refine (hy s u hg hu hq).frame (by rw [hn];exact hk) ?_ (by rw [hn];exact hb s) (by rw [hn,hn]) (by rw [hn];exact hb _) _;rw [bn];simp [aI,aV,aP]
 refine nI tt_ok (fn:=Tryz.f186) n (by rw [hn];exact ay _) Tryz.func186 rfl Tryz.call186 ?_;simp only [cP,cK,Tryz.ntmps186,af,ai,zA,zF,aG,aH];have yx:=hw s hs;rw [bn] at yx;simp only [aP] at yx XN;refine ak tt_ok fun K hK=>?_;simp only [hn,go_sem];refine hK _ ?_;refine ak tt_ok fun K hK=>?_;simp only [hn,ae,al,go_sem];refine hK _ ?_;refine ak tt_ok fun K hK=>?_;simp only [hn,g1,gs,go_sem];refine hK _ ?_;refine aR tt_ok fun K hK=>?_;simp only [hn,g1,XN,go_sem];refine .inr <| .inl ⟨_,_,yx,?_⟩
 try simp only [go_sem]
 refine hK _ ?_;refine⟨.inr rfl,rfl,rfl,?_,?_⟩;·dsimp only;rw [gt];exact hb _
 dsimp only;rw [gt]
theorem A9 {n0:Nat} {st:St} {Q:Exit→St→Prop} {f:Operand} {params:Array Tmp} {assign body:Code} {t:Ex} (pre:σ→List bf) (s0:σ) (n kt:Nat) (mz:st.mem=pre s0) (hn:∀ s,(pre s).length=n) (Nl:kt<n)
  (ht:∀ s,(pre s)[kt]?=some (.box (aP t))) (hb:∀ s,(pre s).all (aL (n+1))=true) (y8:st.fr.all (aI (n+1))=true) (hf:st.eval f = .ia (.func 186) [] [.ptr kt 0]) (hp:params.size=1) (step:σ→Ex→σ×Option Code) {B:Nat} (hB:B≤1048576) (iw:t.dd≤B) (Pd:Ex→Prop) (hPt:∀ v∈t.nodes,Pd v)
  (A5:∀ s u,u.dd≤B→Pd u→∀ (l:Nat) (LR LB:bf),aL (n+1) LR=true→aL (n+1) LB=true→dS aj (some l) (n+1) assign { fr:=om params.toList [br u] st.fr,mem:=pre s++[LR] } fun ex tB=>ex = .normal∧tB.mem[n]?=some LR ∧
   dS aj (some l) (n+1) body { tB with mem:=tB.mem.set n LB } fun ex zd=>rR ex=some (step s u).2∧zd.mem[n]?=some LB∧zd.mem.take n=pre (step s u).1)
  (hq:match (iC step s0 t.nodes).2 with
   | none=>Q .normal { st with mem:=pre (iC step s0 t.nodes).1++[.dead] }
   | some c=>dS aj none n0 c { st with mem:=pre (iC step s0 t.nodes).1++[.dead] } Q):dS aj none n0 (.rangeFunc f params assign body) st Q:=by
 have hlen:st.mem.length=n:=by rw [mz,hn]
 have gn:∀ s X,(pre s++[X])[n]?=some X:=fun s X=>by rw [aX (by rw [hn];exact ay _),hn,eI];rfl
 have gk:∀ s X,(pre s++[X])[kt]?=some (.box (aP t)):=fun s X=>by rw [bh (by rw [hn];exact Nl)];exact ht s
 have G8:∀ s (X Y:bf),(pre s++[X]).set n Y=pre s++[Y]:=fun s X Y=>by rw [ic _ _ (by rw [hn];exact ay _),hn,eI];rfl
 have yy:∀ (s:σ) (a:LoopState) (b:Option Code),(pre s++[bf.loop a b st.fr params assign body]).all (aL (n+1))=true:=fun s a b=>by rw [o7,aJ];exact⟨hb s,by simp only [cI,dM,aU,aL];exact y8⟩
 have it:=Rj (M:=fun s:σ×Option Code=>pre s.1++[.loop (if s.2.isNone then .ready else .done) s.2 st.fr params assign body]) (n:=n+1) (k:=n) (kt:=kt) (t:=t) (fun s=>by simp [hn]) (by omega) (by omega) (fun s=>gk _ _) (fun s=>yy _ _ _)
  (wi step) (fun s=>s.2=none) (fun s u hs h=>by simpa [wi] using h) hB Pd (fun s u hs hu hq=>by
   obtain⟨s,j⟩:=s
   simp only at hs;subst hs
   refine rS (fr:=st.fr) (params:=params) (assign:=assign) (body:=body) (gn _ _) (by simp [hp]) fun l=>?_
   have hl:(pre s++[bf.loop .ready none st.fr params assign body]).length=n+1:=by simp [hn]
   simp only [ac6,if_true,hl]
   refine dS.mono (A5 s u hu hq l (.loop .ready none st.fr params assign body) (.loop .busy none st.fr params assign body) y8 y8) ?_
   rintro ex tB ⟨h1,h2,h3⟩
   refine⟨h1,h2,dS.mono h3 ?_⟩
   rintro ex zd ⟨h4,h5,h6⟩
   refine⟨_,h4,rfl,h5,?_,?_⟩
   ·rw [take_set (hn _) h5 h6];exact yy _ _ _
   rw [take_set (hn _) h5 h6];rfl) iw hPt (s0,none) rfl
 rw [zw] at it;refine oR (g:=186) (vs:=[.jK n,.ptr kt 0]) (by rw [hf,hlen];rfl) (by rw [mz];exact it) ?_;rw [hlen];refine⟨_,_,_,_,_,_,gn _ _,?_,?_⟩;·cases (iC step s0 t.nodes).2 <;> simp
 generalize hj:(iC step s0 t.nodes).2=j at hq;cases j with|none=>dsimp only at hq ⊢;rw [G8];exact hq|some c=>dsimp only at hq ⊢;rw [G8];exact hq
theorem Nq {n0:Nat} {st:St} {Q:Exit→St→Prop} {f:Operand} {params:Array Tmp} {assign body:Code} {t:Ex} (pre:σ→List bf) (s0:σ) (n kt:Nat) (mz:st.mem=pre s0) (hn:∀ s,(pre s).length=n) (Nl:kt<n)
  (ht:∀ s,(pre s)[kt]?=some (.box (aP t))) (hb:∀ s,(pre s).all (aL (n+1))=true) (y8:st.fr.all (aI (n+1))=true) (hf:st.eval f = .ia (.func 186) [] [.ptr kt 0]) (hp:params.size=1) (step:σ→Ex→σ×Option Code) {B:Nat} (hB:B≤1048576) (iw:t.dd≤B)
  (A5:∀ s u,u.dd≤B→∀ (l:Nat) (LR LB:bf),aL (n+1) LR=true→aL (n+1) LB=true→dS aj (some l) (n+1) assign { fr:=om params.toList [br u] st.fr,mem:=pre s++[LR] } fun ex tB=>ex = .normal∧tB.mem[n]?=some LR ∧
   dS aj (some l) (n+1) body { tB with mem:=tB.mem.set n LB } fun ex zd=>rR ex=some (step s u).2∧zd.mem[n]?=some LB∧zd.mem.take n=pre (step s u).1)
  (hq:match (iC step s0 t.nodes).2 with
   | none=>Q .normal { st with mem:=pre (iC step s0 t.nodes).1++[.dead] }
   | some c=>dS aj none n0 c { st with mem:=pre (iC step s0 t.nodes).1++[.dead] } Q):dS aj none n0 (.rangeFunc f params assign body) st Q :=
 A9 pre s0 n kt mz hn Nl ht hb y8 hf hp step hB iw (fun _=>True) (fun _ _=>trivial) (fun s u hu _=>A5 s u hu) hq
end
end
mutual
def Ty.wt:Ty→Nat
 | .mk _ m n ts fs=>1+m.size+n.size+Hf ts+Hg fs
def Hf:List Ty→Nat
 | []=>0
 | t :: r=>t.wt+Hf r
def Fd.wt:Fd→Nat
 | .mk n (.mk _ m n' ts fs) _=>1+n.size+m.size+n'.size+Hf ts+Hg fs
def Hg:List Fd→Nat
 | []=>0
 | f :: r=>f.wt+Hg r
end
theorem Fd.jE (f:Fd):f.wt=f.name.size+f.ty.wt:=by obtain⟨n',⟨k,m,n,ts,fs⟩,o⟩:=f;simp only [Fd.wt,Ty.wt,Fd.name,Fd.ty];omega
theorem C9 (ts:List Ty):Hf ts=aM Ty.wt ts:=by induction ts with|nil=>rfl|cons t r ih=>simp [Hf,aM,ih]
theorem Da (ts:List Fd):Hg ts=aM Fd.wt ts:=by induction ts with|nil=>rfl|cons t r ih=>simp [Hg,aM,ih]
theorem Ty.jE (t:Ty):t.wt=1+t.mod.size+t.name.size+aM Ty.wt t.args+aM Fd.wt t.bA:=by obtain⟨k,m,n,ts,fs⟩:=t;simp only [Ty.wt,C9,Da,Ty.mod,Ty.name,Ty.args,Ty.bA]
theorem wq {α:Type} {g h:α→Nat} (hle:∀ a,g a≤h a) (l:List α):aM g l≤aM h l:=by induction l with|nil=>exact ay _|cons a r ih=>simp only [aM];have:=hle a;omega
theorem Ty.Ba (t:Ty):1+t.mod.size+t.name.size+aM Ty.wt t.parts≤t.wt:=by rw [t.jE,Ty.parts,eW,js];have:=wq (g:=fun f:Fd=>f.ty.wt) (h:=Fd.wt) (fun f=>by rw [f.jE];omega) t.bA;omega
theorem Ty.Hh:∀ (N:Nat) (t:Ty),t.size≤N→t.size≤t.wt:=by intro N;induction N with|zero=>intro t h;have:=t.size_pos;omega|succ N ih =>intro t hN;have h1:=t.dG;have h2:=t.Ba;(have gen:∀ (l:List Ty),aM Ty.size l≤N→aM Ty.size l≤aM Ty.wt l:=by intro l;induction l with|nil=>intro _;exact ay _|cons a r Q8 =>intro hl;simp only [aM] at hl ⊢;have:=ih a (by omega);have:=Q8 (by omega);omega);have:=gen t.parts (by omega);omega
theorem Ty.gA (t:Ty):t.size≤t.wt:=Ty.Hh _ t (ay _)
theorem Ty.xx:∀ (N:Nat) (t:Ty),t.size≤N→∀ v∈t.nodes,v.wt≤t.wt:=by intro N;induction N with|zero=>intro t h;have:=t.size_pos;omega|succ N ih =>intro t hN v hv;have h1:=t.dG;have h2:=t.Ba;rw [t.dU] at hv;(rcases b8.1 hv with rfl|hv);(·exact ay _);obtain⟨p,hp,hv⟩:=e9.1 hv;obtain⟨i,hi⟩:=bB.1 hp;have e1:=bU Ty.size hi;have e2:=bU Ty.wt hi;have:=ih p (by omega) v hv;omega
theorem Ty.sE {t v:Ty} (hv:v∈t.nodes):v.wt≤t.wt:=Ty.xx _ t (ay _) v hv
theorem Ty.mod_lt (t:Ty):t.mod.size<t.wt:=by rw [t.jE];omega
theorem Ty.afw {t:Ty} {n:Nat} (h:t.wt≤n+1):∀ v∈t.nodes,v.mod.size≤n:=fun v hv=>by have:=Ty.sE hv;have:=v.mod_lt;omega
def Lb.wt (l:Lb):Nat:=1+l.name.size+l.var.size+l.ty.wt
mutual
def Ex.wt:Ex→Nat
 | .mk _ m n t _ ts ls ks=>1+m.size+n.size+t.size+aM Ty.wt ts+aM Lb.wt ls+Ly ks
def Ly:List Ex→Nat
 | []=>0
 | e :: r=>e.wt+Ly r
end
theorem Hi (ts:List Ex):Ly ts=aM Ex.wt ts:=by induction ts with|nil=>rfl|cons t r ih=>simp [Ly,aM,ih]
theorem Ex.jE (t:Ex):t.wt=1+t.mod.size+t.name.size+t.text.size+aM Ty.wt t.types+aM Lb.wt t.labels+aM Ex.wt t.kids:=by obtain⟨k,m,n,x,i,ts,ls,ks⟩:=t;rw [Ex.wt,Hi];rfl
theorem Ex.Hj:∀ (N:Nat) (t:Ex),t.dd≤N→t.dd≤t.wt:=by intro N;induction N with|zero=>intro t h;have:=t.gz;omega|succ N ih =>intro t hN;have h1:=t.oC;have h2:=t.jE;(have gen:∀ (l:List Ex),aM Ex.dd l≤N→aM Ex.dd l≤aM Ex.wt l:=by intro l;induction l with|nil=>intro _;exact ay _|cons a r Q8 =>intro hl;simp only [aM] at hl ⊢;have:=ih a (by omega);have:=Q8 (by omega);omega);have h3:=gen t.kids (by omega);have h4:=wq (g:=Ty.size) (h:=Ty.wt) Ty.gA t.types;have h5:=wq (g:=Lb.dd) (h:=Lb.wt) (fun l=>by unfold Lb.dd Lb.wt;have:=l.ty.gA;omega) t.labels;omega
theorem Ex.hH (t:Ex):t.dd≤t.wt:=Ex.Hj _ t (ay _)
theorem Ex.xx:∀ (N:Nat) (t:Ex),t.dd≤N→∀ v∈t.nodes,v.wt≤t.wt:=by intro N;induction N with|zero=>intro t h;have:=t.gz;omega|succ N ih =>intro t hN v hv;have h1:=t.pO;have h2:=t.jE;rw [t.dU] at hv;(rcases b8.1 hv with rfl|hv);(·exact ay _);obtain⟨p,hp,hv⟩:=e9.1 hv;obtain⟨i,hi⟩:=bB.1 hp;have e1:=bU Ex.dd hi;have e2:=bU Ex.wt hi;have:=ih p (by omega) v hv;omega
theorem Ex.sE {t v:Ex} (hv:v∈t.nodes):v.wt≤t.wt:=Ex.xx _ t (ay _) v hv
theorem Ex.aaG {e:Ex} {p:Ty} (hp:p∈e.own):p.wt<e.wt:=by
 have h:=e.jE;unfold Ex.own at hp;rcases eA.1 hp with hp|hp
 ·obtain⟨i,hi⟩:=bB.1 hp;have:=bU Ty.wt hi;omega
 split at hp;·obtain⟨l,hl,rfl⟩:=cQ.1 hp;obtain⟨i,hi⟩:=bB.1 hl;have h1:=bU Lb.wt hi;have h2:l.wt=1+l.name.size+l.var.size+l.ty.wt:=rfl;omega
 cases hp
theorem Ex.mod_lt (t:Ex):t.mod.size<t.wt:=by rw [t.jE];omega
theorem Ex.Nr (t:Ex):t.labels.length<t.wt:=by have h1:=ct Lb.wt (fun l=>by unfold Lb.wt;omega) t.labels;rw [t.jE];omega
def eO (d:Dc):List V:=[num d.kind,str d.name,bl d.exported,bl d.deprecated,str d.note,.slice (d.params.map eu)]++aD d.lower++aD d.upper++aD d.type++aP d.expr++[str d.mod,str d.target]
theorem wu (d:Dc):dh d = .agg (eO d):=rfl
def Dc.dd (d:Dc):Nat:=1+d.params.length+aM (fun p=>p.bound.size) d.params+d.lower.size+d.upper.size+d.type.size+d.expr.dd
theorem Dc.gz (d:Dc):0<d.dd:=by unfold Dc.dd;omega
def Md.dd (m:Md):Nat:=1+m.imports.length+aM Dc.dd m.decls
def qB (m:Md):List V:=[str m.path,.slice (m.imports.map fc),.slice (m.decls.map dh)]
theorem pP (m:Md):sx m = .agg (qB m):=rfl
def Pm.wt (p:Pm):Nat:=1+p.name.size+p.bound.wt
def Im.wt (i:Im):Nat:=1+i.path.size+i.alias.size
def Dc.wt (d:Dc):Nat:=1+d.name.size+d.note.size+aM Pm.wt d.params+d.lower.wt+d.upper.wt+d.type.wt+d.expr.wt+d.mod.size+d.target.size
def Md.wt (m:Md):Nat:=1+m.path.size+aM Im.wt m.imports+aM Dc.wt m.decls
theorem Rk (l:List Pm):l.length+aM (fun p=>p.bound.size) l≤aM Pm.wt l:=by induction l with|nil=>exact ay _|cons a r ih=>have:=a.bound.gA;simp only [aM,af,Pm.wt];omega
theorem Dc.hH (d:Dc):d.dd≤d.wt:=by have h1:=Rk d.params;have h2:=d.lower.gA;have h3:=d.upper.gA;have h4:=d.type.gA;have h5:=d.expr.hH;unfold Dc.dd Dc.wt;omega
theorem Md.hH (m:Md):m.dd≤m.wt:=by have h1:=wq (g:=Dc.dd) (h:=Dc.wt) Dc.hH m.decls;have h2:=ct Im.wt (fun l=>by unfold Im.wt;omega) m.imports;unfold Md.dd Md.wt;omega
section
attribute [local irreducible] runM fq oS cY kP vN C0
mutual
def Ex.depth:Ex→Nat
 | .mk _ _ _ _ _ _ _ ks=>1+wv ks
def wv:List Ex→Nat
 | []=>0
 | e :: r=>max e.depth (wv r)
end
theorem EE (ts:List Ex):wv ts=gH Ex.depth ts:=by induction ts with|nil=>rfl|cons t r ih=>simp [wv,gH,ih]
theorem Ex.Hk (t:Ex):t.depth=1+gH Ex.depth t.kids:=by obtain⟨k,m,n,x,i,ts,ls,ks⟩:=t;rw [Ex.depth,EE];rfl
theorem Ex.Cq:∀ (N:Nat) (t:Ex),t.dd≤N→t.depth≤t.dd:=by intro N;induction N with|zero=>intro t h;have:=t.gz;omega|succ N ih =>intro t hN;rw [Ex.Hk];have h1:=t.pO;(have:=A3 Ex.depth (l:=t.kids) (B:=aM Ex.dd t.kids) fun i a ha=>by have:=bU Ex.dd ha;have:=ih a (by omega);omega);omega
theorem Hl (x:Ex) (hl:x.kids.length≤1048576) (hd:x.depth≤1048576) (jj:∀ (i:Nat) (k:Ex),x.kids[i]?=some k→bJ aj 102 [br k] (num k.depth)):Cn 102 [br x] (num x.depth):=by
 refine aeP tt_ok (fn:=Tryz.f102) Tryz.func102 rfl Tryz.call102 ?_;simp only [cP,cK,Tryz.ntmps102,af,ai,zA,zF,aG,aH];have hde:=x.Hk;simp only [bn,aP];refine kQ tt_ok 20 [0,2,2] [] rfl rfl fun K hK=>?_;simp only [aW,go_sem,az];refine hK _ _ rfl ?_;simp only [zq,zA,zE];refine kQ tt_ok 20 [0,0,0,2] [] rfl rfl fun K hK=>?_;simp only [aW,go_sem,az];refine hK _ _ rfl ?_;simp only [zq,zA,zE];refine AI ?_;refine kQ tt_ok 20 [0,0,0,0,0,0,1,2,2,2] [] rfl rfl fun K hK=>?_;simp only [aW,go_sem,az];refine hK _ _ rfl ?_;simp only [zq,zA,zE];refine AJ ?_;refine Qv [9,3] [num 0,num 0] 1 [false,false,true,true,false,false,false,true,true,true] (fun vs=>((x.kids.length:Int)-intOf (vs.headD .undef)).toNat) (fun vs=>∃ (i:Nat),vs=[num i,num (gH Ex.depth (x.kids.take i):Nat)]∧i≤x.kids.length) (by omega) (by simp only [bg,aI,aV,aL,zB,gG]) (by simp only [bg,aI,aV,aL,zB,gG]) (by rfl) (⟨0,rfl,by omega⟩) fun vs hI=>?_;obtain⟨i,rfl,hi⟩:=hI;simp only [bg,aI,aV,aL,zB,uI,ma,mb,gG];refine kQ tt_ok 20 (rp 10 0 [2]) [] rfl rfl fun K hK=>?_;simp only [aW,go_sem,az];refine hK _ _ rfl ?_;simp only [zq,zA,zE];refine AI ?_;refine aeO rfl (fun lG=>?_) (fun lG=>?_);·(have bQ:i<x.kids.length:=by simpa using lG);obtain⟨k,hx⟩:∃ k,x.kids[i]?=some k:=⟨_,au bQ⟩;have hk:=jj i k hx;rw [bn] at hk;simp only [aP] at hk;have hw:=bN i (by omega);refine Em ?_;show Go.Eng.Ex _ _ _ _ _ _;refine AI ?_;refine AJ ?_;refine kQ tt_ok 20 [0,0,0,0,0,2,0,0,0,0,0,1,1] [] rfl rfl fun K hK=>?_;simp only [hw,jP,hx,bn,aP,aW,go_sem,az];refine hK _ _ rfl ?_;simp only [zq,zA,zE];refine pH tt_ok 20 [0,0,0,2,0,0,0,0,0,0,0,0,0,2,2,2,2] [] kr rfl rfl fun K hK=>?_;(try simp only [cP]);refine Qs 3 fun K1 eZ=>?_;simp only [hw,jP,hx,bn,aP,aW,go_sem,az];refine Qt (⟨_,rfl,hk⟩) ?_;rintro _ rfl;(try simp only [hw,jP,hx,bn,aP,aW,go_sem,az]);refine eZ _ ?_;simp only [hw,jP,hx,bn,aP,aW,go_sem,az];refine hK _ _ rfl ?_;simp only [zq,zA,zE];show Go.Eng.Ex _ _ _ _ _ _;refine pH tt_ok 20 (rp 9 0 [2,0,0,0,0,0,0,0,2]) [] kr rfl rfl fun K hK=>?_;simp only [hw,jP,hx,bn,aP,aW,go_sem,az];refine hK _ _ rfl ?_;simp only [zq,zA,zE];refine⟨[_,_],?_,?_,1,[false,false,true,true,false,false,false,true,true,true],by omega,by simp only [bg,aI,aV,aL,zB,gG],by simp only [bg,aI,aV,aL,zB,gG],by simp only [bg,aI,aV,aL,zB,uI,ma,mb,gG];rfl⟩;(·refine⟨i+1,?_,bQ⟩;rw [mP Ex.depth hx,← EA]);simp only [intOf,cg];omega
 have hnl:¬ i<x.kids.length:=by simpa using lG
 have jL:i=x.kids.length:=by omega
 subst jL;try rw [az]
 have hw:=bN (gH Ex.depth x.kids) (by omega);have hz:((gH Ex.depth x.kids+1:Nat):Int)=(x.depth:Int):=by omega
 refine Lf ?_;show Go.Eng.Ex _ _ _ _ _ _;refine kQ tt_ok 20 (0::0::2::(rp 15 0 [1,1])) [] rfl rfl fun K hK=>?_;simp only [hw,hz,aW,go_sem,az];refine hK _ _ rfl ?_;simp only [zq,zA,zE];exact Qq ⟨.inl rfl,_,rfl,rfl⟩
theorem JC:∀ (N:Nat) (x:Ex),x.dd≤N→N≤1048576→bJ aj 102 [br x] (num x.depth):=by intro N;induction N with|zero=>intro x h;have:=x.gz;omega|succ N ih =>intro x hN hb;have h2:=x.mE;have h4:=Ex.Cq _ x (ay _);obtain⟨_,rfl,h⟩:=Hl x (by omega) (by omega) fun i k hk=>ih k (by have h1:=bU Ex.dd hk;have h3:=x.pO;omega) (by omega);exact h
end
theorem Lz (e:Ex) (hl:e.types.length+e.labels.length≤34359738368):bJ aj 185 [br e] (.slice (cM e.own)):=by
 have nn:e.types.length≤34359738368:=by omega
 obtain⟨k,m,n,x,z,ts,ls,ks⟩:=e;simp only [Ex.types,Ex.labels] at hl nn;refine iN tt_ok (fn:=Tryz.f185) Tryz.func185 rfl Tryz.call185 ?_;simp only [cP,cK,Tryz.ntmps185,af,ai,zA,zF,aG,aH];refine ak tt_ok fun K hK=>?_;simp only [br,go_sem];refine hK _ ?_;refine ak tt_ok fun K hK=>?_;simp only [br,go_sem];refine .inr <| .inl ⟨_,_,bo.live (by simp only [br,aS,go_sem,az]) (AZ (cM ts) (wa ts 0) (by rw [aS];exact nn)) rfl _,?_⟩
 try simp only [br,aS,go_sem]
 refine hK _ ?_;refine bc ?_;refine ak tt_ok fun K hK=>?_;simp only [go_sem];refine hK _ ?_;by_cases hk:k=8;·(have hd:decide (k=8)=true:=by simpa using hk);rw [hd];refine aO rfl ?_;refine ak tt_ok fun K hK=>?_;simp only [ax,go_sem];refine hK _ ?_;refine bC (cR (fun N st=>∃ (i dI:Nat) (acc:List Ty),N=ls.length-i∧i≤ls.length∧acc=ts++(ls.take i).map Lb.ty ∧ st = { fr:=[.undef,.ptr 0 0,.undef,.ms 1 dI 0 acc.length,.undef,.undef,.undef,.undef,.undef,.undef,.undef,.undef,.undef,.slice (ls.map cq),num ls.length,num i]++List.replicate 10 .undef,mem:=[.box (br (.mk k m n x z ts ls ks)).cells,.rows dI 5 (cM acc)] }) ls.length ?_ ?_);(·exact⟨2,(false::true::false::true::(rp 9 false [true,true,true])),by omega,by simp only [bg,aI,aV,aL,zB,gG],by simp only [bg,aI,aV,aL,zB,gG],0,1,ts,by omega,by omega,by simp,rfl⟩);rintro N st ⟨i,dI,acc,rfl,hi,mO,rfl⟩;(have Ls:acc.length≤34359738367∨i=ls.length:=by rw [mO];simp;omega);simp only [cP,aG,aH,br,V.cells];by_cases bQ:i<ls.length;(·have hd:=gx bQ;(have Jv:acc.length≤34359738367:=by omega);refine ak tt_ok fun K hK=>?_;simp only [hd,go_sem];refine hK _ ?_;refine bc (aO rfl (bZ ?_));refine bc (bC ?_);obtain⟨f,hf⟩:∃ f,ls[i]?=some f:=⟨_,au bQ⟩;(have qT:(ls.take (i+1)).map Lb.ty=(ls.take i).map Lb.ty++[f.ty]:=by rw [bH,hf];simp);refine ak tt_ok fun K hK=>?_;simp only [aq,hf,cq,aD,go_sem];refine hK _ ?_;refine aR tt_ok fun K hK=>?_;simp only [aS,Jv,go_sem];refine hK _ ?_;refine aR tt_ok fun K hK=>?_;simp only [go_sem];refine hK _ ?_;have hw:=bN i (by omega);rw [hw];refine⟨ls.length-(i+1),by omega,2,(false::true::false::true::(rp 9 false [true,true,true])),by omega,by simp only [bg,aI,aV,aL,zB,gG],by simp only [bg,aI,aV,aL,zB,gG],i+1,dI+1,acc++[f.ty],rfl,bQ,by rw [mO,qT];simp,?_⟩;simp [rp,bg,aQ,aT,aD]);have hd:=gy bQ;refine ak tt_ok fun K hK=>?_;simp only [hd,go_sem];refine hK _ ?_;refine bc (aO rfl (dK ?_));(have kz:i=ls.length:=by omega);subst kz;show dS _ _ _ _ _ _;refine ak tt_ok fun K hK=>?_;simp only [go_sem];refine hK _ ?_;refine bE ⟨.inl rfl,?_⟩;rw [az] at mO;(have hr:cM (Ex.mk k m n x z ts ls ks).own=cM acc:=by rw [mO];simp [Ex.own,Ex.types,Ex.kind,Ex.labels,hk]);rw [hr];simp [qZ,qY,uz,Tryz.f185,Iz,l0,eN,aS];rw [← aS];simp
 have hd:decide (k=8)=false:=by simpa using hk
 rw [hd];refine aO rfl (bZ ?_);show dS _ _ _ _ _ _;refine ak tt_ok fun K hK=>?_;simp only [go_sem];refine hK _ ?_;refine bE ⟨.inl rfl,?_⟩;have hr:cM (Ex.mk k m n x z ts ls ks).own=cM ts:=by simp [Ex.own,Ex.types,Ex.kind,Ex.labels,hk]
 rw [hr];simp [qZ,qY,uz,Tryz.f185,Iz,l0,eN,aS];rw [← aS];simp
theorem aaH (e:Ex) (hl:e.types.length+e.labels.length≤34359738368):bJ aj 72 [br e] (.slice (cM e.own)):=by
 have nn:e.types.length≤34359738368:=by omega
 obtain⟨k,m,n,x,z,ts,ls,ks⟩:=e;simp only [Ex.types,Ex.labels] at hl nn;refine iN tt_ok (fn:=Tryz.f72) Tryz.func72 rfl Tryz.call72 ?_;simp only [cP,cK,Tryz.ntmps72,af,ai,zA,zF,aG,aH];refine ak tt_ok fun K hK=>?_;simp only [br,go_sem];refine hK _ ?_;refine ak tt_ok fun K hK=>?_;simp only [br,wa,aS,nn,go_sem];refine hK _ ?_;refine bc ?_;refine ak tt_ok fun K hK=>?_;simp only [go_sem];refine hK _ ?_;by_cases hk:k=8;·(have hd:decide (k=8)=true:=by simpa using hk);rw [hd];refine aO rfl ?_;refine ak tt_ok fun K hK=>?_;simp only [go_sem];refine hK _ ?_;refine bC (cR (fun N st=>∃ (i dI:Nat) (acc:List Ty),N=ls.length-i∧i≤ls.length∧acc=ts++(ls.take i).map Lb.ty ∧ st = { fr:=[.undef,.ptr 0 0,.undef,.ms 1 dI 0 acc.length,num i]++List.replicate 24 .undef,mem:=[.box (br (.mk k m n x z ts ls ks)).cells,.rows dI 5 (cM acc)] }) ls.length ?_ ?_);(·exact⟨2,[false,true,false,true,true],by omega,by simp only [bg,aI,aV,aL,zB,gG],by simp only [bg,aI,aV,aL,zB,gG],0,1,ts,by omega,by omega,by simp,rfl⟩);rintro N st ⟨i,dI,acc,rfl,hi,mO,rfl⟩;(have Ls:acc.length≤34359738367∨i=ls.length:=by rw [mO];simp;omega);simp only [cP,aG,aH,br,V.cells];refine bc ?_;by_cases bQ:i<ls.length;(·have hd:=gx bQ;(have Jv:acc.length≤34359738367:=by omega);refine ak tt_ok fun K hK=>?_;simp only [ax,hd,go_sem];refine hK _ ?_;refine aO rfl (bZ ?_);refine bc (bC ?_);obtain⟨f,hf⟩:∃ f,ls[i]?=some f:=⟨_,au bQ⟩;(have qT:(ls.take (i+1)).map Lb.ty=(ls.take i).map Lb.ty++[f.ty]:=by rw [bH,hf];simp);refine aR tt_ok fun K hK=>?_;simp only [aq,hf,cq,aD,aS,Jv,go_sem];refine hK _ ?_;refine aR tt_ok fun K hK=>?_;simp only [go_sem];refine hK _ ?_;have hw:=bN i (by omega);rw [hw];refine⟨ls.length-(i+1),by omega,2,[false,true,false,true,true],by omega,by simp only [bg,aI,aV,aL,zB,gG],by simp only [bg,aI,aV,aL,zB,gG],i+1,dI+1,acc++[f.ty],rfl,bQ,by rw [mO,qT];simp,?_⟩;simp [rp,bg,aQ,aT,aD]);have hd:=gy bQ;refine ak tt_ok fun K hK=>?_;simp only [ax,hd,go_sem];refine hK _ ?_;refine aO rfl (dK ?_);(have kz:i=ls.length:=by omega);subst kz;show dS _ _ _ _ _ _;refine ak tt_ok fun K hK=>?_;simp only [go_sem];refine hK _ ?_;refine bE ⟨.inl rfl,?_⟩;rw [az] at mO;(have hr:cM (Ex.mk k m n x z ts ls ks).own=cM acc:=by rw [mO];simp [Ex.own,Ex.types,Ex.kind,Ex.labels,hk]);rw [hr];simp [qZ,qY,uz,Tryz.f72,Iz,l0,eN,aS];rw [← aS];simp
 have hd:decide (k=8)=false:=by simpa using hk
 rw [hd];refine aO rfl (bZ ?_);show dS _ _ _ _ _ _;refine ak tt_ok fun K hK=>?_;simp only [go_sem];refine hK _ ?_;refine bE ⟨.inl rfl,?_⟩;have hr:cM (Ex.mk k m n x z ts ls ks).own=cM ts:=by simp [Ex.own,Ex.types,Ex.kind,Ex.labels,hk]
 rw [hr];simp [qZ,qY,uz,Tryz.f72,Iz,l0,eN,aS];rw [← aS];simp
def JD (s:Int) (u:Ty):Int:=IntKind.i64.wrap (s+(u.size:Int))
def LA (s:Int) (e:Ex):Int:=e.own.foldl JD (IntKind.i64.wrap (s+1))
theorem Db:∀ (l:List Ty) (a:Nat),a+aM Ty.size l≤1152921504606846976→l.foldl JD (a:Int)=((a+aM Ty.size l:Nat):Int)
 | [],a,_=>rfl
 | u :: r,a,h=>by
  simp only [aM] at h ⊢
  rw [o3,JD,oy a u.size (by omega),Db r _ (by omega)]
  congr 1;omega
theorem Bb:∀ (l:List Ex) (a:Nat),a+aM (fun e=>1+aM Ty.size e.own) l≤1152921504606846976→l.foldl LA (a:Int)=((a+aM (fun e=>1+aM Ty.size e.own) l:Nat):Int)
 | [],a,_=>rfl
 | e :: r,a,h=>by
  simp only [aM] at h ⊢
  rw [o3,LA,bN a (by omega),Db _ _ (by omega),Bb r _ (by omega)]
  congr 1;omega
theorem Dd (e:Ex) (he:e.dd≤1048576):bJ aj 101 [br e] (num e.size):=by
 have iw:=Ex.j7 _ e (ay _);refine iN tt_ok (fn:=Tryz.f101) Tryz.func101 rfl Tryz.call101 ?_;simp only [cP,cK,Tryz.ntmps101,af,ai,zA,zF,aG,aH];have h53:=fun B0 B1 h=>He e [B0,B1] h;rw [bn] at h53 ⊢;simp only [aP] at h53 ⊢;refine ak tt_ok fun K hK=>?_;simp only [go_sem];refine hK _ ?_;refine ak tt_ok fun K hK=>?_;simp only [go_sem];refine hK _ ?_;refine bc ?_;refine ak tt_ok fun K hK=>?_;simp only [go_sem];refine .inr <| .inl ⟨_,_,h53 _ _ rfl,?_⟩
 try simp only [go_sem]
 refine hK _ ?_;refine bC (Nq (t:=e) (B:=1048576) (fun s:Int=>[.box (aP e),.box [num s],.box (aP e)]) 0 3 2 rfl (fun _=>rfl) (by omega) (fun _=>rfl) (fun _=>rfl) rfl rfl rfl (fun s u=>(LA s u,none)) (by omega) he ?_ ?_);·intro s u hu l LR LB hLR hLB;rw [bn];simp only [cP,om,aP,mb,ma];have WQ:=u.ED;have alx:=u.wo;have jv:=Lz u (by omega);have hnl:=ct Ty.size Ty.size_pos u.own;rw [bn] at jv;simp only [aP] at jv;refine aR tt_ok fun K hK=>?_;simp only [go_sem];refine hK _ ?_;refine⟨rfl,rfl,bC ?_⟩;refine bc ?_;refine aR tt_ok fun K hK=>?_;simp only [go_sem];refine hK _ ?_;refine bc ?_;refine aR tt_ok fun K hK=>?_;simp only [go_sem];refine .inl ⟨_,_,by simp only [aS,go_sem,az],jv,?_⟩;(try simp only [aS,go_sem]);refine hK _ ?_;obtain⟨ps,oW⟩:∃ ps,ps=u.own:=⟨_,rfl⟩;(have hnw:LA s u=ps.foldl JD (IntKind.i64.wrap (s+1)):=by rw [oW];rfl);rw [hnw,← oW];rw [← oW] at WQ hnl;refine bC (cR (fun N st=>∃ (i:Nat),N=ps.length-i∧i≤ps.length ∧ st = { fr:=[.undef,.undef,.undef,.ptr 1 0,.undef,.undef,.undef,.undef,.undef,.undef,.undef,.undef,.undef,.slice (cM ps),num ps.length,num i]++List.replicate 9 .undef,mem:=[.box (aP e),.box [num ((ps.take i).foldl JD (IntKind.i64.wrap (s+1)))],.box (aP e),LB] }) ps.length ?_ ?_);(·exact⟨4,(false::false::false::true::(rp 9 false [true,true,true])),by omega,by simp only [bg,aI,aV,aL,zB,gG],by have h4:aL 4 LB=true:=hLB;simp only [cP,cI,dM,h4];rfl,0,by omega,by omega,rfl⟩);rintro N st ⟨i,rfl,hi,rfl⟩;simp only [cP,aG,aH];by_cases bQ:i<ps.length;(·have hd:=gx bQ;refine ak tt_ok fun K hK=>?_;simp only [hd,go_sem];refine hK _ ?_;refine bc (aO rfl (bZ ?_));refine bc (bC ?_);obtain⟨v,hv⟩:∃ v,ps[i]?=some v:=⟨_,au bQ⟩;have MF:=bU Ty.size hv;(have YH:(ps.take (i+1)).foldl JD (IntKind.i64.wrap (s+1))=IntKind.i64.wrap ((ps.take i).foldl JD (IntKind.i64.wrap (s+1))+(v.size:Int)):=by rw [bH,hv,at4];rfl);have BV:=nA v (by omega);rw [aT] at BV;simp only [aD] at BV;refine ak tt_ok fun K hK=>?_;simp only [dF,hv,aT,aD,go_sem];refine hK _ ?_;refine lz tt_ok cB [pR,pR,pN,pN,⟨.w,0,[],[],[]⟩] 1 kr fun K hK=>?_;simp only [go_sem,List.replicate];refine⟨_,_,by simp only [go_sem,az],.inl (BV),?_⟩;(try simp only [go_sem,List.replicate]);refine hK _ ?_;rw [← YH];refine aR tt_ok fun K hK=>?_;simp only [go_sem];refine hK _ ?_;have nr:=bN i (by omega);rw [nr];exact⟨ps.length-(i+1),by omega,4,(false::false::false::true::(rp 9 false [true,true,true])),by omega,by simp only [bg,aI,aV,aL,zB,gG],by have h4:aL 4 LB=true:=hLB;simp only [cP,cI,dM,h4];rfl,i+1,rfl,bQ,rfl⟩);have hd:=gy bQ;refine ak tt_ok fun K hK=>?_;simp only [hd,go_sem];refine hK _ ?_;refine bc (aO rfl (dK ?_));(have kz:i=ps.length:=by omega);subst kz;(try rw [az]);exact⟨rfl,rfl,rfl⟩
 rw [uM,show (0:Int)=((0:Nat):Int) from rfl,Bb _ _ (by rw [Ex.A8 _ e (ay _)];omega),Ex.A8 _ e (ay _),dL];show dS _ _ _ _ _ _;refine ak tt_ok fun K hK=>?_;simp only [go_sem];refine hK _ ?_;exact bE ⟨.inl rfl,rfl⟩
theorem Hm:∀ (N:Nat) (e:Ex),e.dd≤N→N≤1048576→bJ aj 23 [br e] (num e.size):=by intro N;induction N with|zero=>intro t h;have:=t.gz;omega|succ N ih =>intro e hN hb;have WQ:=e.ED;have alx:=e.wo;have iw:=e.size_eq;have hsb:=Ex.j7 _ e (ay _);have jv:=aaH e (by omega);have hnl:=ct Ty.size Ty.size_pos e.own;have zf:=e.mE;refine iN tt_ok (fn:=Tryz.f23) Tryz.func23 rfl Tryz.call23 ?_;simp only [cP,cK,Tryz.ntmps23,af,ai,zA,zF,aG,aH];rw [bn] at jv ⊢;simp only [aP] at jv ⊢;refine ak tt_ok fun K hK=>?_;simp only [go_sem];refine hK _ ?_;refine ak tt_ok fun K hK=>?_;simp only [go_sem];refine hK _ ?_;refine ak tt_ok fun K hK=>?_;simp only [go_sem];refine .inl ⟨_,_,by simp only [go_sem,az],jv,?_⟩;(try simp only [go_sem]);refine hK _ ?_;refine bc ?_;refine ak tt_ok fun K hK=>?_;simp only [go_sem];refine hK _ ?_;obtain⟨ps,oW⟩:∃ ps,ps=e.own:=⟨_,rfl⟩;rw [← oW] at WQ hnl iw ⊢;refine bC (cR (fun N st=>∃ (i:Nat),N=ps.length-i∧i≤ps.length ∧ st = { fr:=[.undef,.ptr 0 0,.undef,num ((1+aM Ty.size (ps.take i):Nat)),.slice (cM ps),num i]++List.replicate 32 .undef,mem:=[.box (aP e)] }) ps.length ?_ ?_);(·exact⟨1,[false,true,false,true,true,true],by omega,by simp only [bg,aI,aV,aL,zB,gG],rfl,0,by omega,by omega,rfl⟩);rintro N' st ⟨i,rfl,hi,rfl⟩;simp only [cP,aG,aH];refine bc ?_;by_cases bQ:i<ps.length;(·have hd:=gx bQ;refine ak tt_ok fun K hK=>?_;simp only [aS,hd,go_sem];refine hK _ ?_;refine aO rfl (bZ ?_);refine bc (bC ?_);obtain⟨u,hu⟩:∃ u,ps[i]?=some u:=⟨_,au bQ⟩;have hus:=bU Ty.size hu;have BV:=fb Ty.size hu;have OS:=gb Ty.size ps (i+1);have jj:=pM u.size u (ay _) (by omega);rw [aT] at jj;simp only [aD] at jj;refine aR tt_ok fun K hK=>?_;simp only [dF,hu,aT,aD,go_sem];refine .inl ⟨_,_,by simp only [go_sem,az],jj,?_⟩;(try simp only [go_sem]);refine hK _ ?_;(have hw:IntKind.i64.wrap (((1+aM Ty.size (ps.take i):Nat):Int)+(u.size:Int))=((1+aM Ty.size (ps.take (i+1)):Nat):Int):=by rw [oy _ _ (by omega)];congr 1;omega);rw [hw];refine aR tt_ok fun K hK=>?_;simp only [go_sem];refine hK _ ?_;have nr:=bN i (by omega);rw [nr];exact⟨ps.length-(i+1),by omega,1,[false,true,false,true,true,true],by omega,by simp only [bg,aI,aV,aL,zB,gG],rfl,i+1,rfl,bQ,by simp [rp,bg]⟩);have hd:=gy bQ;refine ak tt_ok fun K hK=>?_;simp only [aS,hd,go_sem];refine hK _ ?_;refine aO rfl (dK ?_);(have kz:i=ps.length:=by omega);subst kz;(try rw [az]);show dS _ _ _ _ _ _;refine bc ?_;refine ak tt_ok fun K hK=>?_;simp only [go_sem];refine hK _ ?_;obtain⟨ks,K9⟩:∃ ks,ks=e.kids:=⟨_,rfl⟩;obtain⟨S,hS⟩:∃ S,S=1+aM Ty.size ps:=⟨_,rfl⟩;rw [← hS];rw [← K9] at WQ iw zf;refine bC (cR (fun N st=>∃ (i:Nat),N=ks.length-i∧i≤ks.length ∧ st = { fr:=[.undef,.ptr 0 0,.undef,num ((S+aM Ex.size (ks.take i):Nat)),.undef,.undef,num i]++List.replicate 31 .undef,mem:=[.box (aP e)] }) ks.length ?_ ?_);(·exact⟨1,[false,true,false,true,false,false,true],by omega,by simp only [bg,aI,aV,aL,zB,gG],rfl,0,by omega,by omega,rfl⟩);rintro N' st ⟨i,rfl,hi,rfl⟩;simp only [aG,aH,aw,aC,aP,← K9];refine bc ?_;by_cases bQ:i<ks.length;(·have hd:=gx bQ;refine ak tt_ok fun K hK=>?_;simp only [aW,hd,go_sem];refine hK _ ?_;refine aO rfl (bZ ?_);refine bc (bC ?_);obtain⟨u,hu⟩:∃ u,ks[i]?=some u:=⟨_,au bQ⟩;have hus:=bU Ex.dd hu;have BV:=fb Ex.size hu;have OS:=gb Ex.size ks (i+1);have jj:=ih u (by omega) (by omega);rw [bn] at jj;simp only [aP] at jj;refine aR tt_ok fun K hK=>?_;simp only [jP,hu,bn,aP,go_sem];refine .inl ⟨_,_,by simp only [go_sem,az],jj,?_⟩;(try simp only [go_sem]);refine hK _ ?_;(have hw:IntKind.i64.wrap (((S+aM Ex.size (ks.take i):Nat):Int)+(u.size:Int))=((S+aM Ex.size (ks.take (i+1)):Nat):Int):=by rw [oy _ _ (by omega)];congr 1;omega);rw [hw];refine aR tt_ok fun K hK=>?_;simp only [go_sem];refine hK _ ?_;have nr:=bN i (by omega);rw [nr];exact⟨ks.length-(i+1),by omega,1,[false,true,false,true,false,false,true],by omega,by simp only [bg,aI,aV,aL,zB,gG],rfl,i+1,rfl,bQ,by simp [rp,bg,aP,← K9]⟩);have hd:=gy bQ;refine ak tt_ok fun K hK=>?_;simp only [aW,hd,go_sem];refine hK _ ?_;refine aO rfl (dK ?_);(have kz:i=ks.length:=by omega);subst kz;(try rw [az]);show dS _ _ _ _ _ _;refine ak tt_ok fun K hK=>?_;simp only [go_sem];refine hK _ ?_;refine bE ⟨.inl rfl,?_⟩;(have oX:S+aM Ex.size ks=e.size:=by omega);rw [oX];simp [qZ,qY,uz,Tryz.f23,Iz,l0,eN,ph]
noncomputable def nW {α:Type} (a b:α):Bool:=@decide (a=b) (Classical.propDecidable _)
theorem de {α:Type} {a b:α} (h:a=b):nW a b=true:=by unfold nW;exact @decide_eq_true _ (Classical.propDecidable _) h
theorem bL {α:Type} {a b:α} (h:¬ a=b):nW a b=false:=by unfold nW;exact @decide_eq_false _ (Classical.propDecidable _) h
theorem EF {α:Type} {a b:α}:nW a b=true↔a=b:=by refine⟨fun h=>Classical.byContradiction fun hn=>?_,de⟩;rw [bL hn] at h;cases h
theorem iD (a b:ByteArray):(a.toList==b.toList)=nW a b:=by
 have inj:a.toList=b.toList→a=b:=fun h=>by rw [ByteArray.toList_eq,ByteArray.toList_eq] at h;exact atL (aiS.1 h)
 by_cases h:a=b;·rw [de h,h];simp
 rw [bL h];simpa using fun e=>h (inj e)
theorem Ho (g:FuncId) (ts us:List Ty) (hl:ts.length≤1048576) (hg:∀ (i:Nat) (t u:Ty),ts[i]?=some t→us[i]?=some u→bJ aj g [bk t,bk u] (bl (nW t u))) :
  bJ aj 262 [.slice (cM ts),.slice (cM us),.sc (.func (.func g) #[] #[])] (bl (nW ts us)):=by
 refine iN tt_ok (fn:=Tryz.f262) Tryz.func262 rfl Tryz.call262 ?_;simp only [cP,cK,Tryz.ntmps262,af,ai,zA,zF,aG,aH];refine ak tt_ok fun K hK=>?_;simp only [go_sem];refine hK _ ?_;refine bc ?_;by_cases hlen:ts.length=us.length;·(have hd:(!decide ((ts.length:Int)=(us.length:Int)))=false:=by simp [hlen]);refine ak tt_ok fun K hK=>?_;simp only [aS,hd,go_sem];refine hK _ ?_;refine aO rfl (bZ ?_);show dS _ _ _ _ _ _;refine bc ?_;refine ak tt_ok fun K hK=>?_;simp only [aS,go_sem];refine hK _ ?_;refine bC (cR (fun N st=>∃ (i:Nat),N=ts.length-i∧i≤ts.length∧ts.take i=us.take i ∧ st = { fr:=[.undef,.slice (cM us),.sc (.func (.func g) #[] #[]),.undef,.undef,.undef,.undef,.undef,.undef,.undef,.undef,.undef,.undef,.undef,.undef,.slice (cM ts),num ts.length,num i]++List.replicate 14 .undef,mem:=[] }) ts.length ?_ ?_);(·exact⟨0,(false::true::true::(rp 12 false [true,true,true])),by omega,by simp only [bg,aI,aV,aL,zB,gG],rfl,0,by omega,by omega,by simp,rfl⟩);rintro N' st ⟨i,rfl,hi,uf,rfl⟩;simp only [cP,aG,aH];by_cases bQ:i<ts.length;(·have hd:=gx bQ;refine ak tt_ok fun K hK=>?_;simp only [hd,go_sem];refine hK _ ?_;refine bc (aO rfl (bZ ?_));refine bc (bC ?_);obtain⟨t,ht⟩:∃ t,ts[i]?=some t:=⟨_,au bQ⟩;obtain⟨u,hu⟩:∃ u,us[i]?=some u:=⟨_,au (by omega)⟩;have Rm:=hg i t u ht hu;rw [aT,aT] at Rm;simp only [aD] at Rm;refine ak tt_ok fun K hK=>?_;simp only [dF,ht,aT,aD,go_sem];refine hK _ ?_;refine ak tt_ok fun K hK=>?_;simp only [dF,hu,aT,aD,go_sem];refine hK _ ?_;refine ak tt_ok fun K hK=>?_;simp only [go_sem];refine .inl ⟨_,_,by simp only [go_sem,az],Rm,?_⟩;(try simp only [go_sem]);refine hK _ ?_;(have Rn:∀ h:t=u,ts.take (i+1)=us.take (i+1):=fun h=>by rw [bH,bH,uf,ht,hu,h]);by_cases LC:t=u;(·rw [de LC];refine aO rfl (bZ ?_);show dS _ _ _ _ _ _;refine aR tt_ok fun K hK=>?_;simp only [go_sem];refine hK _ ?_;have nr:=bN i (by omega);rw [nr];exact⟨ts.length-(i+1),by omega,0,(false::true::true::(rp 12 false [true,true,true])),by omega,by simp only [bg,aI,aV,aL,zB,gG],rfl,i+1,rfl,bQ,Rn LC,rfl⟩);rw [bL LC];refine aO rfl ?_;refine ak tt_ok fun K hK=>?_;simp only [go_sem];refine hK _ ?_;refine bE ⟨.inl rfl,?_⟩;rw [bL (fun e=>LC (by rw [e,hu] at ht;exact (gD ht).symm))];rfl);have hd:=gy bQ;refine ak tt_ok fun K hK=>?_;simp only [hd,go_sem];refine hK _ ?_;refine bc (aO rfl (dK ?_));(have kz:i=ts.length:=by omega);show dS _ _ _ _ _ _;refine ak tt_ok fun K hK=>?_;simp only [go_sem];refine hK _ ?_;refine bE ⟨.inl rfl,?_⟩;rw [kz,az,hlen,az] at uf;rw [de uf];rfl
 have hd:(!decide ((ts.length:Int)=(us.length:Int)))=true:=by simpa using fun e=>hlen (by omega)
 refine ak tt_ok fun K hK=>?_;simp only [aS,hd,go_sem];refine hK _ ?_;refine aO rfl ?_;refine ak tt_ok fun K hK=>?_;simp only [go_sem];refine hK _ ?_;refine bE ⟨.inl rfl,?_⟩;rw [bL (fun e=>hlen (by rw [e]))];rfl
theorem Hp (g:FuncId) (ts us:List Fd) (hl:ts.length≤1048576) (hg:∀ (i:Nat) (t u:Fd),ts[i]?=some t→us[i]?=some u→bJ aj g [dj t,dj u] (bl (nW t u))) :
  bJ aj 263 [.slice (iB ts),.slice (iB us),.sc (.func (.func g) #[] #[])] (bl (nW ts us)):=by
 refine iN tt_ok (fn:=Tryz.f263) Tryz.func263 rfl Tryz.call263 ?_;simp only [cP,cK,Tryz.ntmps263,af,ai,zA,zF,aG,aH];refine ak tt_ok fun K hK=>?_;simp only [go_sem];refine hK _ ?_;refine bc ?_;by_cases hlen:ts.length=us.length;·(have hd:(!decide ((ts.length:Int)=(us.length:Int)))=false:=by simp [hlen]);refine ak tt_ok fun K hK=>?_;simp only [c7,hd,go_sem];refine hK _ ?_;refine aO rfl (bZ ?_);show dS _ _ _ _ _ _;refine bc ?_;refine ak tt_ok fun K hK=>?_;simp only [c7,go_sem];refine hK _ ?_;refine bC (cR (fun N st=>∃ (i:Nat),N=ts.length-i∧i≤ts.length∧ts.take i=us.take i ∧ st = { fr:=[.undef,.slice (iB us),.sc (.func (.func g) #[] #[]),.undef,.undef,.undef,.undef,.undef,.undef,.undef,.undef,.undef,.undef,.undef,.undef,.slice (iB ts),num ts.length,num i]++List.replicate 14 .undef,mem:=[] }) ts.length ?_ ?_);(·exact⟨0,(false::true::true::(rp 12 false [true,true,true])),by omega,by simp only [bg,aI,aV,aL,zB,gG],rfl,0,by omega,by omega,by simp,rfl⟩);rintro N' st ⟨i,rfl,hi,uf,rfl⟩;simp only [cP,aG,aH];by_cases bQ:i<ts.length;(·have hd:=gx bQ;refine ak tt_ok fun K hK=>?_;simp only [hd,go_sem];refine hK _ ?_;refine bc (aO rfl (bZ ?_));refine bc (bC ?_);obtain⟨t,ht⟩:∃ t,ts[i]?=some t:=⟨_,au bQ⟩;obtain⟨u,hu⟩:∃ u,us[i]?=some u:=⟨_,au (by omega)⟩;have Rm:=hg i t u ht hu;rw [cw,cw] at Rm;simp only [cP,aD] at Rm;refine ak tt_ok fun K hK=>?_;simp only [cu,ht,cw,aD,go_sem];refine hK _ ?_;refine ak tt_ok fun K hK=>?_;simp only [cu,hu,cw,aD,go_sem];refine hK _ ?_;refine ak tt_ok fun K hK=>?_;simp only [go_sem];refine .inl ⟨_,_,by simp only [go_sem,az],Rm,?_⟩;(try simp only [go_sem]);refine hK _ ?_;(have Rn:∀ h:t=u,ts.take (i+1)=us.take (i+1):=fun h=>by rw [bH,bH,uf,ht,hu,h]);by_cases LC:t=u;(·rw [de LC];refine aO rfl (bZ ?_);show dS _ _ _ _ _ _;refine aR tt_ok fun K hK=>?_;simp only [go_sem];refine hK _ ?_;have nr:=bN i (by omega);rw [nr];exact⟨ts.length-(i+1),by omega,0,(false::true::true::(rp 12 false [true,true,true])),by omega,by simp only [bg,aI,aV,aL,zB,gG],rfl,i+1,rfl,bQ,Rn LC,rfl⟩);rw [bL LC];refine aO rfl ?_;refine ak tt_ok fun K hK=>?_;simp only [go_sem];refine hK _ ?_;refine bE ⟨.inl rfl,?_⟩;rw [bL (fun e=>LC (by rw [e,hu] at ht;exact (gD ht).symm))];rfl);have hd:=gy bQ;refine ak tt_ok fun K hK=>?_;simp only [hd,go_sem];refine hK _ ?_;refine bc (aO rfl (dK ?_));(have kz:i=ts.length:=by omega);show dS _ _ _ _ _ _;refine ak tt_ok fun K hK=>?_;simp only [go_sem];refine hK _ ?_;refine bE ⟨.inl rfl,?_⟩;rw [kz,az,hlen,az] at uf;rw [de uf];rfl
 have hd:(!decide ((ts.length:Int)=(us.length:Int)))=true:=by simpa using fun e=>hlen (by omega)
 refine ak tt_ok fun K hK=>?_;simp only [c7,hd,go_sem];refine hK _ ?_;refine aO rfl ?_;refine ak tt_ok fun K hK=>?_;simp only [go_sem];refine hK _ ?_;refine bE ⟨.inl rfl,?_⟩;rw [bL (fun e=>hlen (by rw [e]))];rfl
theorem Ty.ext_iff (t u:Ty):t=u↔t.kind=u.kind∧t.mod=u.mod∧t.name=u.name∧t.args=u.args∧t.bA=u.bA:=by obtain⟨k,m,n,ts,fs⟩:=t;obtain⟨k',m',n',ts',fs'⟩:=u;simp [Ty.kind,Ty.mod,Ty.name,Ty.args,Ty.bA]
theorem Fd.ext_iff (t u:Fd):t=u↔t.name=u.name∧t.opt=u.opt∧t.ty=u.ty:=by obtain⟨n,t,o⟩:=t;obtain⟨n',t',o'⟩:=u;simp only [Fd.name,Fd.opt,Fd.ty,Fd.mk.injEq];exact⟨fun h=>⟨h.1,h.2.2,h.2.1⟩,fun h=>⟨h.1,h.2.2,h.2.1⟩⟩
theorem Vx (t u:Fd) (h:bJ aj 214 [bk t.ty,bk u.ty] (bl (nW t.ty u.ty))):bJ aj 264 [dj t,dj u] (bl (nW t u)):=by
 refine iN tt_ok (fn:=Tryz.f264) Tryz.func264 rfl Tryz.call264 ?_;simp only [cP,cK,Tryz.ntmps264,af,ai,zA,zF,aG,aH];rw [aT,aT] at h;rw [cw,cw];simp only [cP,aD] at h ⊢;have e1:=iD t.name u.name;have hT:aj.underlying 4=some .bool:=kr;have e2:=fun x y=>KU (P:=aj) (T:=4) x y hT;refine ak tt_ok fun K hK=>?_;simp only [go_sem];refine hK _ ?_;by_cases h1:t.name=u.name;·rw [de h1] at e1;by_cases h2:t.opt=u.opt;(·(have e3:(t.opt==u.opt)=true:=by simpa using h2);refine ak tt_ok fun K hK=>?_;simp only [e1,e2,e3,go_sem];refine .inl ⟨_,_,by simp only [go_sem,az],h,?_⟩;(try simp only [go_sem]);refine hK _ ?_;refine bE ⟨.inl rfl,?_⟩;(have hr:nW t u=nW t.ty u.ty:=by by_cases h3:t.ty=u.ty;(·rw [de h3,de ((Fd.ext_iff t u).2 ⟨h1,h2,h3⟩)]);rw [bL h3,bL fun e=>h3 ((Fd.ext_iff t u).1 e).2.2]);rw [hr];rfl);(have e3:(t.opt==u.opt)=false:=by simpa using h2);refine ak tt_ok fun K hK=>?_;simp only [e1,e2,e3,go_sem];refine hK _ ?_;refine bE ⟨.inl rfl,?_⟩;rw [bL fun e=>h2 ((Fd.ext_iff t u).1 e).2.1];rfl
 rw [bL h1] at e1;refine ak tt_ok fun K hK=>?_;simp only [e1,go_sem];refine hK _ ?_;refine bE ⟨.inl rfl,?_⟩;rw [bL fun e=>h1 ((Fd.ext_iff t u).1 e).1];rfl
theorem Ty.De {t a:Ty} {i:Nat} (h:t.args[i]?=some a):a.size<t.size:=by
 have h1:t.parts[i]?=some a:=by unfold Ty.parts;rw [bh (aA.1 h).1];exact h
 have:=bU Ty.size h1;have:=t.dG;omega
theorem Ty.Df {t:Ty} {f:Fd} {i:Nat} (h:t.bA[i]?=some f):f.ty.size<t.size:=by
 have h1:t.parts[t.args.length+i]?=some f.ty:=by unfold Ty.parts;rw [aX (by omega),dQ,aq,h];rfl
 have:=bU Ty.size h1;have:=t.dG;omega
theorem Bc:∀ (N:Nat) (t u:Ty),t.size≤N→N≤1048576→bJ aj 214 [bk t,bk u] (bl (nW t u)):=by intro N;induction N with|zero=>intro t u h;have:=t.size_pos;omega|succ N ih =>intro t u hN hb;have qU:=t.fZ;have hA:=Ho 214 t.args u.args (by omega) fun i a b ha _=>ih a b (by have:=Ty.De ha;omega) (by omega);have hF:=Hp 264 t.bA u.bA (by omega) fun i a b ha _=>Vx a b (ih a.ty b.ty (by have:=Ty.Df ha;omega) (by omega));refine iN tt_ok (fn:=Tryz.f214) Tryz.func214 rfl Tryz.call214 ?_;simp only [cP,cK,Tryz.ntmps214,af,ai,zA,zF,aG,aH];rw [aT,aT];simp only [aD];have e2:=iD t.mod u.mod;have e3:=iD t.name u.name;refine ak tt_ok fun K hK=>?_;simp only [go_sem];refine hK _ ?_;by_cases h1:t.kind=u.kind;(·have d1:decide (t.kind=u.kind)=true:=decide_eq_true h1;by_cases h2:t.mod=u.mod;(·rw [de h2] at e2;by_cases h3:t.name=u.name;(·rw [de h3] at e3;by_cases h4:t.args=u.args;(·rw [de h4] at hA;by_cases h5:t.bA=u.bA;(·rw [de h5] at hF;refine ak tt_ok fun K hK=>?_;simp only [d1,e2,e3,go_sem];refine .inl ⟨_,_,by simp only [go_sem,az],hA,?_⟩;(try simp only [go_sem]);refine .inl ⟨_,_,by simp only [go_sem,az],hF,?_⟩;(try simp only [go_sem]);refine hK _ ?_;refine bE ⟨.inl rfl,?_⟩;rw [de ((Ty.ext_iff t u).2 ⟨h1,h2,h3,h4,h5⟩)];rfl);rw [bL h5] at hF;refine ak tt_ok fun K hK=>?_;simp only [d1,e2,e3,go_sem];refine .inl ⟨_,_,by simp only [go_sem,az],hA,?_⟩;(try simp only [go_sem]);refine .inl ⟨_,_,by simp only [go_sem,az],hF,?_⟩;(try simp only [go_sem]);refine hK _ ?_;refine bE ⟨.inl rfl,?_⟩;rw [bL fun e=>h5 ((Ty.ext_iff t u).1 e).2.2.2.2];rfl);rw [bL h4] at hA;refine ak tt_ok fun K hK=>?_;simp only [d1,e2,e3,go_sem];refine .inl ⟨_,_,by simp only [go_sem,az],hA,?_⟩;(try simp only [go_sem]);refine hK _ ?_;refine bE ⟨.inl rfl,?_⟩;rw [bL fun e=>h4 ((Ty.ext_iff t u).1 e).2.2.2.1];rfl);rw [bL h3] at e3;refine ak tt_ok fun K hK=>?_;simp only [d1,e2,e3,go_sem];refine hK _ ?_;refine bE ⟨.inl rfl,?_⟩;rw [bL fun e=>h3 ((Ty.ext_iff t u).1 e).2.2.1];rfl);rw [bL h2] at e2;refine ak tt_ok fun K hK=>?_;simp only [d1,e2,go_sem];refine hK _ ?_;refine bE ⟨.inl rfl,?_⟩;rw [bL fun e=>h2 ((Ty.ext_iff t u).1 e).2.1];rfl);have d1:decide (t.kind=u.kind)=false:=decide_eq_false h1;refine ak tt_ok fun K hK=>?_;simp only [d1,go_sem];refine hK _ ?_;refine bE ⟨.inl rfl,?_⟩;rw [bL fun e=>h1 ((Ty.ext_iff t u).1 e).1];rfl
section
attribute [local irreducible] runM fq oS
theorem Dg (ts us:List Ty) (hl:ts.length≤1048576) (hg:∀ (i:Nat) (t u:Ty),ts[i]?=some t→us[i]?=some u→bJ aj 18 [bk t,bk u] (bl (nW t u))) :
  bJ aj 62 [.slice (cM ts),.slice (cM us)] (bl (nW ts us)):=by
 refine iN tt_ok (fn:=Tryz.f62) Tryz.func62 rfl Tryz.call62 ?_;simp only [cP,cK,Tryz.ntmps62,af,ai,zA,zF,aG,aH];refine ak tt_ok fun K hK=>?_;simp only [go_sem];refine hK _ ?_;refine bc ?_;by_cases hlen:ts.length=us.length;·(have hd:(!decide ((ts.length:Int)=(us.length:Int)))=false:=by simp [hlen]);refine ak tt_ok fun K hK=>?_;simp only [aS,hd,go_sem];refine hK _ ?_;refine aO rfl (bZ ?_);show dS _ _ _ _ _ _;refine bc ?_;refine ak tt_ok fun K hK=>?_;simp only [go_sem];refine hK _ ?_;refine bC (cR (fun N st=>∃ (i:Nat),N=ts.length-i∧i≤ts.length∧ts.take i=us.take i ∧ st = { fr:=[.slice (cM ts),.slice (cM us),.undef,.undef,.undef,num i]++List.replicate 21 .undef,mem:=[] }) ts.length ?_ ?_);(·exact⟨0,[true,true,false,false,false,true],by omega,by simp only [bg,aI,aV,aL,zB,gG],rfl,0,by omega,by omega,by simp,rfl⟩);rintro N' st ⟨i,rfl,hi,uf,rfl⟩;simp only [cP,aG,aH];refine bc ?_;by_cases bQ:i<ts.length;(·have hd:=gx bQ;refine ak tt_ok fun K hK=>?_;simp only [aS,hd,go_sem];refine hK _ ?_;refine aO rfl (bZ ?_);refine bc (bC ?_);obtain⟨t,ht⟩:∃ t,ts[i]?=some t:=⟨_,au bQ⟩;obtain⟨u,hu⟩:∃ u,us[i]?=some u:=⟨_,au (by omega)⟩;have Rm:=hg i t u ht hu;rw [aT,aT] at Rm;simp only [aD] at Rm;refine kx tt_ok cB [pN,pN,pR,pR,pN,pN,pR,pR,pN,pN] 0 kr fun K hK=>?_;simp only [dF,ht,hu,aT,aD,go_sem,List.replicate];refine⟨_,_,by simp only [go_sem,az],.inl (Rm),?_⟩;(try simp only [go_sem,List.replicate]);refine hK _ ?_;(have Rn:∀ h:t=u,ts.take (i+1)=us.take (i+1):=fun h=>by rw [bH,bH,uf,ht,hu,h]);by_cases LC:t=u;(·rw [de LC];refine aO rfl (bZ ?_);show dS _ _ _ _ _ _;refine aR tt_ok fun K hK=>?_;simp only [go_sem];refine hK _ ?_;have nr:=bN i (by omega);rw [nr];exact⟨ts.length-(i+1),by omega,0,[true,true,false,false,false,true],by omega,by simp only [bg,aI,aV,aL,zB,gG],rfl,i+1,rfl,bQ,Rn LC,rfl⟩);rw [bL LC];refine aO rfl ?_;refine ak tt_ok fun K hK=>?_;simp only [go_sem];refine hK _ ?_;refine bE ⟨.inl rfl,?_⟩;rw [bL (fun e=>LC (by rw [e,hu] at ht;exact (gD ht).symm))];rfl);have hd:=gy bQ;refine ak tt_ok fun K hK=>?_;simp only [aS,hd,go_sem];refine hK _ ?_;refine aO rfl (dK ?_);(have kz:i=ts.length:=by omega);subst kz;show dS _ _ _ _ _ _;refine ak tt_ok fun K hK=>?_;simp only [go_sem];refine hK _ ?_;refine bE ⟨.inl rfl,?_⟩;(have he:ts=us:=by rw [az] at uf;rw [uf,hlen,az]);rw [de he];rfl
 have hd:(!decide ((ts.length:Int)=(us.length:Int)))=true:=by simp;omega
 refine ak tt_ok fun K hK=>?_;simp only [aS,hd,go_sem];refine hK _ ?_;refine aO rfl ?_;refine ak tt_ok fun K hK=>?_;simp only [go_sem];refine hK _ ?_;refine bE ⟨.inl rfl,?_⟩;rw [bL (fun e=>hlen (by rw [e]))];rfl
def mm (id:Nat):Code→Option (Array Oper)
 | .region j ops _=>if j=id then some ops else none
 | .seq a b=>match mm id a with|some x=>some x|none=>mm id b
 | .cond _ a b=>match mm id a with|some x=>some x|none=>mm id b
 | .block _ c=>mm id c
 | .loop c=>mm id c
 | _=>none
def zI (id:Nat) (fn:Func):Option (Array Oper):=match fn.body with|some b=>mm id b|none=>none
def EG (t u:Ty) (i:Nat) (b:Bool) (K:St→Prop):Prop:=∀ fr:List V,bg ([false,false,true,true,false,true]++List.replicate 78 false++[true]) fr=[.undef,.undef,.ptr 0 0,.ptr 1 0,.undef,num i]++List.replicate 78 .undef++[bl b]++List.replicate 5 .undef →
 K { fr:=fr,mem:=[.box (aD t),.box (aD u)] }
section
variable {t u:Ty} {i:Nat} {f g:Fd} (hf:t.bA[i]?=some f) (hg:u.bA[i]?=some g) {a0 a b c d:V} {K:St→Prop} {ops:Array Oper} (ho:zI 6 Tryz.f18=some ops)
include hf hg ho in
theorem JE (h5:¬ f.name=g.name) (hK:EG t u i true K) :
  runM aj tt ops 2 ops.toList [pN,pR,pN,pR,pN,pR,pN,pR,pN,pR,pN,pR,pN,pN,pN,pR,pN,pR,pN,pR,pN,pR,pN,pR,pN,pR,pN,pN,pN,pN,pR,pN,pR,pN,pR,pN,pR,pN,pR,pN,pR,pN,pN,pN] { fr:=[.undef,.undef,.ptr 0 0,.ptr 1 0,.undef,num i]++List.replicate 28 .undef++[a0,a,b,c,d]++List.replicate 51 .undef,mem:=[.box (aD t),.box (aD u)]++List.replicate 0 .hole } K:=by simp only [zI,Tryz.f18,mm,zE,if_false,if_true,reduceIte,aB] at ho;subst ho;have e5:=iD f.name g.name;have hT:aj.underlying 4=some .bool:=kr;have e6:=fun x y=>zb (P:=aj) (T:=4) x y hT;rw [bL h5] at e5;simp only [cP,aG,aH,aD];refine dT 5 (by simp) (by simp) fun K1 eZ=>?_;simp only [cu,hf,hg,cw,aD,e5,go_sem,List.replicate];refine eZ _ ?_;refine dT 5 (by simp) (by simp) fun K1 eZ=>?_;simp only [cu,hf,hg,cw,aD,e5,go_sem,List.replicate];refine eZ _ ?_;refine dT 5 (by simp) (by simp) fun K1 eZ=>?_;simp only [cu,hf,hg,cw,aD,e5,go_sem,List.replicate];refine eZ _ ?_;refine dT 5 (by simp) (by simp) fun K1 eZ=>?_;simp only [cu,hf,hg,cw,aD,e5,go_sem,List.replicate];refine eZ _ ?_;refine dT 5 (by simp) (by simp) fun K1 eZ=>?_;simp only [cu,hf,hg,cw,aD,e5,go_sem,List.replicate];refine eZ _ ?_;refine dT 5 (by simp) (by simp) fun K1 eZ=>?_;simp only [cu,hf,hg,cw,aD,e5,go_sem,List.replicate];refine eZ _ ?_;refine dT 5 (by simp) (by simp) fun K1 eZ=>?_;simp only [cu,hf,hg,cw,aD,e5,go_sem,List.replicate];refine eZ _ ?_;refine dT 5 (by simp) (by simp) fun K1 eZ=>?_;simp only [cu,hf,hg,cw,aD,e5,go_sem,List.replicate];refine eZ _ ?_;simp only [go_sem,List.replicate];exact hK _ (by simp only [bg,aG,aH,aw,aC,gG])
include hf hg ho in
theorem Ns (h5:f.name=g.name) (h6:¬ f.opt=g.opt) (hK:EG t u i true K) :
  runM aj tt ops 2 ops.toList [pN,pR,pN,pR,pN,pR,pN,pR,pN,pR,pN,pR,pN,pN,pN,pR,pN,pR,pN,pR,pN,pR,pN,pR,pN,pR,pN,pN,pN,pN,pR,pN,pR,pN,pR,pN,pR,pN,pR,pN,pR,pN,pN,pN] { fr:=[.undef,.undef,.ptr 0 0,.ptr 1 0,.undef,num i]++List.replicate 28 .undef++[a0,a,b,c,d]++List.replicate 51 .undef,mem:=[.box (aD t),.box (aD u)]++List.replicate 0 .hole } K:=by
 simp only [zI,Tryz.f18,mm,zE,if_false,if_true,reduceIte,aB] at ho;subst ho;have e5:=iD f.name g.name;have hT:aj.underlying 4=some .bool:=kr;have e6:=fun x y=>zb (P:=aj) (T:=4) x y hT;rw [de h5] at e5;have e7:(f.opt==g.opt)=false:=by simpa using h6
 simp only [cP,aG,aH,aD];refine dT 5 (by simp) (by simp) fun K1 eZ=>?_;simp only [cu,hf,hg,cw,aD,e5,e6,e7,go_sem,List.replicate];refine eZ _ ?_;refine dT 5 (by simp) (by simp) fun K1 eZ=>?_;simp only [cu,hf,hg,cw,aD,e5,e6,e7,go_sem,List.replicate];refine eZ _ ?_;refine dT 5 (by simp) (by simp) fun K1 eZ=>?_;simp only [cu,hf,hg,cw,aD,e5,e6,e7,go_sem,List.replicate];refine eZ _ ?_;refine dT 5 (by simp) (by simp) fun K1 eZ=>?_;simp only [cu,hf,hg,cw,aD,e5,e6,e7,go_sem,List.replicate];refine eZ _ ?_;refine dT 5 (by simp) (by simp) fun K1 eZ=>?_;simp only [cu,hf,hg,cw,aD,e5,e6,e7,go_sem,List.replicate];refine eZ _ ?_;refine dT 5 (by simp) (by simp) fun K1 eZ=>?_;simp only [cu,hf,hg,cw,aD,e5,e6,e7,go_sem,List.replicate];refine eZ _ ?_;refine dT 5 (by simp) (by simp) fun K1 eZ=>?_;simp only [cu,hf,hg,cw,aD,e5,e6,e7,go_sem,List.replicate];refine eZ _ ?_;refine dT 5 (by simp) (by simp) fun K1 eZ=>?_;simp only [cu,hf,hg,cw,aD,e5,e6,e7,go_sem,List.replicate];refine eZ _ ?_;simp only [go_sem,List.replicate];exact hK _ (by simp only [bg,aG,aH,aw,aC,gG])
include hf hg ho in
theorem Hq (h5:f.name=g.name) (h6:f.opt=g.opt) (r:Bool) (jj:bJ aj 18 [.agg (aD f.ty),.agg (aD g.ty)] (bl r)) (hK:EG t u i (!r) K) :
  runM aj tt ops 2 ops.toList [pN,pR,pN,pR,pN,pR,pN,pR,pN,pR,pN,pR,pN,pN,pN,pR,pN,pR,pN,pR,pN,pR,pN,pR,pN,pR,pN,pN,pN,pN,pR,pN,pR,pN,pR,pN,pR,pN,pR,pN,pR,pN,pN,pN] { fr:=[.undef,.undef,.ptr 0 0,.ptr 1 0,.undef,num i]++List.replicate 28 .undef++[a0,a,b,c,d]++List.replicate 51 .undef,mem:=[.box (aD t),.box (aD u)]++List.replicate 0 .hole } K:=by
 simp only [zI,Tryz.f18,mm,zE,if_false,if_true,reduceIte,aB] at ho;subst ho;have e5:=iD f.name g.name;have hT:aj.underlying 4=some .bool:=kr;have e6:=fun x y=>zb (P:=aj) (T:=4) x y hT;rw [de h5] at e5;have e7:(f.opt==g.opt)=true:=by simpa using h6
 simp only [aD] at jj;simp only [cP,aG,aH,aD];refine dT 5 (by simp) (by simp) fun K1 eZ=>?_;simp only [cu,hf,hg,cw,aD,e5,e6,e7,go_sem,List.replicate];refine eZ _ ?_;refine dT 5 (by simp) (by simp) fun K1 eZ=>?_;simp only [cu,hf,hg,cw,aD,e5,e6,e7,go_sem,List.replicate];refine eZ _ ?_;refine dT 5 (by simp) (by simp) fun K1 eZ=>?_;simp only [cu,hf,hg,cw,aD,e5,e6,e7,go_sem,List.replicate];refine eZ _ ?_;refine dT 5 (by simp) (by simp) fun K1 eZ=>?_;simp only [cu,hf,hg,cw,aD,e5,e6,e7,go_sem,List.replicate];refine eZ _ ?_;refine dT 5 (by simp) (by simp) fun K1 eZ=>?_;simp only [cu,hf,hg,cw,aD,e5,e6,e7,go_sem,List.replicate];refine eZ _ ?_;refine dT 5 (by simp) (by simp) fun K1 eZ=>?_;simp only [cu,hf,hg,cw,aD,e5,e6,e7,go_sem,List.replicate];refine eZ _ ?_;refine dT 5 (by simp) (by simp) fun K1 eZ=>?_;simp only [cu,hf,hg,cw,aD,e5,e6,e7,go_sem,List.replicate];refine eZ _ ?_;refine dT 5 (by simp) (by simp) fun K1 eZ=>?_;simp only [cu,hf,hg,cw,aD,e5,e6,e7,go_sem,List.replicate];refine eZ _ ?_;simp only [cu,hf,hg,cw,aD,go_sem,List.replicate];refine⟨_,_,by simp only [go_sem,az],.inl (jj),?_⟩;try simp only [go_sem,List.replicate]
 exact hK _ (by simp only [bg,aG,aH,aw,aC,gG])
end
theorem sF:∀ (N:Nat) (t u:Ty),t.size≤N→N≤1048576→bJ aj 18 [bk t,bk u] (bl (nW t u)):=by
 intro N
 induction N with
 | zero=>intro t u h;have:=t.size_pos;omega
 | succ N ih =>
  intro t u hN hb
  have qU:=t.fZ
  have hA:=Dg t.args u.args (by omega) fun i a b ha _=>ih a b (by have:=Ty.De ha;omega) (by omega)
  refine iN tt_ok (fn:=Tryz.f18) Tryz.func18 rfl Tryz.call18 ?_
  simp only [cP,cK,Tryz.ntmps18,af,ai,zA,zF,aG,aH]
  rw [aT,aT]
  simp only [aD]
  have e2:=iD t.mod u.mod
  have e3:=iD t.name u.name
  refine ak tt_ok fun K hK=>?_
  simp only [go_sem]
  refine hK _ ?_
  refine bc ?_
  by_cases ff:t.kind=u.kind∧t.mod=u.mod∧t.name=u.name∧t.bA.length=u.bA.length
  ·obtain⟨h1,h2,h3,h4⟩:=ff
   have d1:decide (t.kind=u.kind)=true:=decide_eq_true h1
   rw [de h2] at e2
   rw [de h3] at e3
   have d4:decide ((t.bA.length:Int)=(u.bA.length:Int))=true:=by simp [h4]
   refine ak tt_ok fun K hK=>?_
   simp only [d1,e2,e3,d4,c7,go_sem]
   refine hK _ ?_
   refine aO rfl (bZ ?_)
   show dS _ _ _ _ _ _
   refine bc ?_
   refine ak tt_ok fun K hK=>?_
   simp only [go_sem]
   refine hK _ ?_
   refine bC (cR (fun N st=>∃ (i:Nat),N=t.bA.length-i∧i≤t.bA.length∧t.bA.take i=u.bA.take i ∧
    st = { fr:=[.undef,.undef,.ptr 0 0,.ptr 1 0,.undef,num i]++List.replicate 84 .undef,mem:=[.box (aD t),.box (aD u)] }) t.bA.length ?_ ?_)
   ·exact⟨2,[false,false,true,true,false,true],by omega,by simp only [bg,aI,aV,aL,zB,gG],by simp only [bg,aI,aV,aL,zB,gG],0,by omega,by omega,by simp,rfl⟩
   rintro N' st ⟨i,rfl,hi,uf,rfl⟩
   simp only [cP,aG,aH,aD]
   refine bc ?_
   by_cases bQ:i<t.bA.length
   ·have hd:=gx bQ
    refine ak tt_ok fun K hK=>?_
    simp only [c7,hd,go_sem]
    refine hK _ ?_
    refine aO rfl (bZ ?_)
    refine bc (bC ?_)
    obtain⟨f,hf⟩:∃ f,t.bA[i]?=some f:=⟨_,au bQ⟩
    obtain⟨g,hg⟩:∃ g,u.bA[i]?=some g:=⟨_,au (by omega)⟩
    have jj:=ih f.ty g.ty (by have:=Ty.Df hf;omega) (by omega)
    rw [aT,aT] at jj
    have no:¬ f=g→¬ t=u:=fun h e=>h (by rw [e,hg] at hf;exact (gD hf).symm)
    refine kx tt_ok cB [pN,pR,pN,pR,pN,pR,pN,pR,pN,pR,pN,pR,pN,pN,pN,pR,pN,pR,pN,pR,pN,pR,pN,pR,pN,pR,pN,pN,pN,pN,pR,pN,pR,pN,pR,pN,pR,pN,pR,pN,pR,pN,pN,pN] 0 kr fun K hK=>?_
    have Ro:¬ t=u→EG t u i true K:=fun dy fr y8=>by
     refine hK _ ?_
     refine pw 2 ([false,false,true,true,false,true]++List.replicate 78 false++[true]) (by omega) (by rw [y8];simp only [aG,aH,aw,aC,bg,aI,aV,aL,zB,gG]) (by simp only [aD,bg,aI,aV,aL,zB,gG]) ?_
     rw [y8]
     simp only [cP,aG,aH]
     refine aO rfl ?_
     refine ak tt_ok fun K hK=>?_
     simp only [go_sem]
     refine hK _ ?_
     refine bE ⟨.inl rfl,?_⟩
     rw [bL dy];rfl
    by_cases h5:f.name=g.name
    ·by_cases h6:f.opt=g.opt
     ·by_cases h7:f.ty=g.ty
      ·rw [de h7] at jj
       refine Hq hf hg rfl h5 h6 true jj fun fr y8=>?_
       refine hK _ ?_
       refine pw 2 ([false,false,true,true,false,true]++List.replicate 78 false++[true]) (by omega) (by rw [y8];simp only [aG,aH,aw,aC,bg,aI,aV,aL,zB,gG]) (by simp only [aD,bg,aI,aV,aL,zB,gG]) ?_
       rw [y8]
       simp only [cP,aG,aH]
       refine aO rfl (bZ ?_)
       show dS _ _ _ _ _ _
       refine aR tt_ok fun K hK=>?_
       simp only [go_sem]
       refine hK _ ?_
       have nr:=bN i (by omega)
       rw [nr]
       have hfg:f=g:=(Fd.ext_iff f g).2 ⟨h5,h6,h7⟩
       exact⟨t.bA.length-(i+1),by omega,2,[false,false,true,true,false,true],by omega,by simp only [bg,aI,aV,aL,zB,gG],by simp only [aD,bg,aI,aV,aL,zB,gG],i+1,rfl,bQ,by rw [bH,bH,uf,hf,hg,hfg],rfl⟩
      rw [bL h7] at jj
      exact Hq hf hg rfl h5 h6 false jj (Ro (no fun e=>h7 ((Fd.ext_iff f g).1 e).2.2))
     exact Ns hf hg rfl h5 h6 (Ro (no fun e=>h6 ((Fd.ext_iff f g).1 e).2.1))
    exact JE hf hg rfl h5 (Ro (no fun e=>h5 ((Fd.ext_iff f g).1 e).1))
   have hd:=gy bQ
   refine ak tt_ok fun K hK=>?_
   simp only [c7,hd,go_sem]
   refine hK _ ?_
   refine aO rfl (dK ?_)
   have kz:i=t.bA.length:=by omega
   subst kz
   show dS _ _ _ _ _ _
   refine ak tt_ok fun K hK=>?_
   simp only [go_sem]
   refine .inl ⟨_,_,by simp only [go_sem,az],hA,?_⟩
   try simp only [go_sem]
   refine hK _ ?_
   refine bE ⟨.inl rfl,?_⟩
   have Fi:t.bA=u.bA:=by
    rw [az] at uf
    rw [uf,h4,az]
   by_cases h8:t.args=u.args
   ·rw [de h8,de ((Ty.ext_iff t u).2 ⟨h1,h2,h3,h8,Fi⟩)];rfl
   rw [bL h8,bL fun e=>h8 ((Ty.ext_iff t u).1 e).2.2.2.1];rfl
  have fin:∀ x,x=false→nW t u=x:=fun x hx=>by
   rw [hx]
   refine bL fun e=>ff ?_
   obtain⟨h1,h2,h3,-,h5⟩:=(Ty.ext_iff t u).1 e
   exact⟨h1,h2,h3,by rw [h5]⟩
  rw [fin false rfl]
  have no:decide (t.kind=u.kind)=true→nW t.mod u.mod=true→nW t.name u.name=true→decide ((t.bA.length:Int)=(u.bA.length:Int))=true→False:=fun a b c d =>
   ff ⟨of_decide_eq_true a,EF.1 b,EF.1 c,by have:=of_decide_eq_true d;omega⟩
  cases d1:decide (t.kind=u.kind) with
  | false =>
   refine ak tt_ok fun K hK=>?_
   simp only [d1,go_sem]
   refine hK _ ?_
   refine aO rfl ?_
   refine ak tt_ok fun K hK=>?_
   simp only [go_sem]
   refine hK _ ?_
   exact bE ⟨.inl rfl,rfl⟩
  | true =>
   cases d2:nW t.mod u.mod with
   | false =>
    rw [d2] at e2
    refine ak tt_ok fun K hK=>?_
    simp only [d1,e2,go_sem]
    refine hK _ ?_
    refine aO rfl ?_
    refine ak tt_ok fun K hK=>?_
    simp only [go_sem]
    refine hK _ ?_
    exact bE ⟨.inl rfl,rfl⟩
   | true =>
    rw [d2] at e2
    cases d3:nW t.name u.name with
    | false =>
     rw [d3] at e3
     refine ak tt_ok fun K hK=>?_
     simp only [d1,e2,e3,go_sem]
     refine hK _ ?_
     refine aO rfl ?_
     refine ak tt_ok fun K hK=>?_
     simp only [go_sem]
     refine hK _ ?_
     exact bE ⟨.inl rfl,rfl⟩
    | true =>
     rw [d3] at e3
     cases d4:decide ((t.bA.length:Int)=(u.bA.length:Int)) with
     | false =>
      refine ak tt_ok fun K hK=>?_
      simp only [d1,e2,e3,d4,c7,go_sem]
      refine hK _ ?_
      refine aO rfl ?_
      refine ak tt_ok fun K hK=>?_
      simp only [go_sem]
      refine hK _ ?_
      exact bE ⟨.inl rfl,rfl⟩
     | true=>exact (no d1 d2 d3 d4).elim
end
section
attribute [local irreducible] runM fq oS
noncomputable def Dc.clear (d:Dc):Bool:=nW d.lower d.upper&&nW d.upper d.type
theorem Dc.Nt (d:Dc):(nW d.lower d.type&&nW d.upper d.type)=d.clear:=by rw [ajO];simp only [Dc.clear,aJ,EF];exact⟨fun h=>⟨h.1.trans h.2.symm,h.2⟩,fun h=>⟨h.1.trans h.2,h.2⟩⟩
noncomputable def Dc.size (d:Dc):Nat :=
 1+d.params.length+(if d.kind=0 then d.type.size+(if d.clear=true then 0 else d.lower.size+d.upper.size)
  else if d.kind=1 then d.type.size+d.expr.size+aM (fun p=>p.bound.size) d.params else 0)
theorem Dc.size_le (d:Dc):d.size≤d.dd:=by
 have:=Ex.j7 _ d.expr (ay _);unfold Dc.size Dc.dd;split;·split <;> omega
 split <;> omega
noncomputable def Md.size (m:Md):Nat:=1+m.imports.length+aM Dc.size m.decls
theorem Nu (d:Dc) (hd:d.dd≤1048576):bJ aj 254 [dh d] (bl d.clear):=by unfold Dc.dd at hd;have hA:=Bc d.lower.size d.lower d.upper (ay _) (by omega);have hB:=Bc d.upper.size d.upper d.type (ay _) (by omega);rw [aT,aT] at hA hB;simp only [aD] at hA hB;refine iN tt_ok (fn:=Tryz.f254) Tryz.func254 rfl Tryz.call254 ?_;simp only [cP,cK,Tryz.ntmps254,af,ai,zA,zF,aG,aH];rw [wu];simp only [cP,eO,aD,aP];refine ak tt_ok fun K hK=>?_;simp only [go_sem];refine hK _ ?_;unfold Dc.clear;cases h1:nW d.lower d.upper with|false =>rw [h1] at hA;refine ak tt_ok fun K hK=>?_;simp only [go_sem];refine .inl ⟨_,_,by simp only [go_sem,az],hA,?_⟩;(try simp only [go_sem]);refine hK _ ?_;exact bE ⟨.inl rfl,rfl⟩|true =>rw [h1] at hA;refine ak tt_ok fun K hK=>?_;simp only [go_sem];refine .inl ⟨_,_,by simp only [go_sem,az],hA,?_⟩;(try simp only [go_sem]);refine .inl ⟨_,_,by simp only [go_sem,az],hB,?_⟩;(try simp only [go_sem]);refine hK _ ?_;exact bE ⟨.inl rfl,rfl⟩
theorem Nv (d:Dc) (hd:d.dd≤1048576):bJ aj 83 [dh d] (bl d.clear):=by unfold Dc.dd at hd;have hA:=sF d.lower.size d.lower d.type (ay _) (by omega);have hB:=sF d.upper.size d.upper d.type (ay _) (by omega);rw [aT,aT] at hA hB;simp only [aD] at hA hB;rw [← Dc.Nt];refine iN tt_ok (fn:=Tryz.f83) Tryz.func83 rfl Tryz.call83 ?_;simp only [cP,cK,Tryz.ntmps83,af,ai,zA,zF,aG,aH];rw [wu];simp only [cP,eO,aD,aP];refine ak tt_ok fun K hK=>?_;simp only [go_sem];refine hK _ ?_;cases h1:nW d.lower d.type with|false =>rw [h1] at hA;refine ak tt_ok fun K hK=>?_;simp only [go_sem];refine .inl ⟨_,_,by simp only [go_sem,az],hA,?_⟩;(try simp only [go_sem]);refine hK _ ?_;exact bE ⟨.inl rfl,rfl⟩|true =>rw [h1] at hA;refine ak tt_ok fun K hK=>?_;simp only [go_sem];refine .inl ⟨_,_,by simp only [go_sem,az],hA,?_⟩;(try simp only [go_sem]);refine .inl ⟨_,_,by simp only [go_sem,az],hB,?_⟩;(try simp only [go_sem]);refine hK _ ?_;exact bE ⟨.inl rfl,rfl⟩
end
structure Fo where
  fl:ByteArray
  ty:Int
  lb:Bool
  kd:Int
def mQ (k:Int):Option Fo :=
  if k=0 then some ⟨⟨#[98]⟩,0,false,0⟩ else if k=1 then some ⟨⟨#[120]⟩,0,false,0⟩ else if k=2 then some ⟨⟨#[98]⟩,0,false,0⟩ else if k=3 then some ⟨⟨#[110]⟩,0,false,0⟩
  else if k=4 then some ⟨⟨#[109,110]⟩,-1,false,0⟩ else if k=5 then some ⟨⟨#[]⟩,0,true,0⟩ else if k=6 then some ⟨⟨#[110]⟩,0,false,1⟩ else if k=7 then some ⟨⟨#[110]⟩,0,false,1⟩
  else if k=8 then some ⟨⟨#[116,111]⟩,0,true,1⟩ else if k=9 then some ⟨⟨#[]⟩,0,true,1⟩ else if k=10 then some ⟨⟨#[110]⟩,0,false,2⟩ else if k=11 then some ⟨⟨#[]⟩,1,false,1⟩
  else if k=12 then some ⟨⟨#[]⟩,1,false,3⟩ else if k=13 then some ⟨⟨#[118]⟩,1,true,1⟩ else if k=14 then some ⟨⟨#[]⟩,1,false,-1⟩ else if k=15 then some ⟨⟨#[110,120]⟩,1,false,3⟩
  else if k=16 then some ⟨⟨#[110]⟩,0,false,-1⟩ else none
def iZ (fl s:ByteArray):Bool:=Lib.contains fl.data.toList s.data.toList
def wy:List ByteArray:=[⟨#[43]⟩,⟨#[45]⟩,⟨#[42]⟩,⟨#[60]⟩,⟨#[61,61]⟩,⟨#[61,61,61]⟩,⟨#[43,43]⟩,⟨#[97,110,100]⟩,⟨#[111,114]⟩]
def uP:List ByteArray:=[⟨#[110,111,116]⟩,⟨#[108,101,110,103,116,104]⟩]
def xy (s:ByteArray):Int:=if qy s wy=true then 2 else if qy s uP=true then 1 else 0
def gF (l:List Lb):Nat:=(l.filter Lb.opt).length
def ec (x:Ex) (kd:Int):Int:=if x.kind=16 then xy x.name else if x.kind=8 then 1+gF x.labels else if kd<0 then -1 else kd+x.labels.length
def lH (fl:ByteArray) (l:Lb):Bool:=!jJ l.var && !iZ fl ⟨#[118]⟩ || !jD l.ty && !iZ fl ⟨#[116]⟩||l.opt && !iZ fl ⟨#[111]⟩
def q1 (x:Ex) (fl:ByteArray):Bool:=!jJ x.mod && !iZ fl ⟨#[109]⟩
def q2 (x:Ex) (fl:ByteArray):Bool:=!jJ x.name && !iZ fl ⟨#[110]⟩
def q3 (x:Ex) (fl:ByteArray):Bool:=!jJ x.text && !iZ fl ⟨#[120]⟩
def q4 (x:Ex) (fl:ByteArray):Bool:=!decide (x.num=0) && !iZ fl ⟨#[98]⟩
def q5 (x:Ex):Bool:=decide (x.kind=2) && !decide (x.num=0) && !decide (x.num=1)
def q6 (x:Ex) (kd:Int):Bool:=decide (x.kind=16)&&decide (ec x kd=0)
def q7 (x:Ex) (ty:Int):Bool:=decide (0≤ty) && !decide ((x.types.length:Int)=ty)
def q8 (x:Ex) (lb:Bool):Bool:=decide (0<x.labels.length) && !lb
def q9 (x:Ex) (kd:Int):Bool:=decide (0≤ec x kd) && !decide ((x.kids.length:Int)=ec x kd)
def qV (x:Ex) (fl:ByteArray) (ty:Int) (lb:Bool) (kd:Int):Bool :=
  !q1 x fl && !q2 x fl && !q3 x fl && !q4 x fl && !q5 x && !q6 x kd && !q7 x ty && !q8 x lb && !q9 x kd && !(x.labels.any (lH fl))
def qW (fl:ByteArray) (l:Lb):Bool:=!dz l.name||iZ fl ⟨#[118]⟩ && !dz l.var
def m1 (x:Ex) (fl:ByteArray):Bool:=iZ fl ⟨#[109]⟩ && !rf x.mod
def m2 (x:Ex) (fl:ByteArray):Bool:=iZ fl ⟨#[110]⟩ && !decide (x.kind=16) && !dz x.name
def m3 (x:Ex):Bool:=decide (x.kind=15) && !dz x.text
def qC (x:Ex) (fl:ByteArray):Bool:=m1 x fl||m2 x fl||m3 x||x.labels.any (qW fl)
def wX (x:Ex):Int:=match mQ x.kind with
  | none=>1
  | some f=>if qV x f.fl f.ty f.lb f.kd=false then 1
    else if 32<x.labels.length∨8<x.types.length∨65536<x.text.size then 7
    else if qC x f.fl=true then 4
    else if kA (x.labels.map Lb.name)≠0 then kA (x.labels.map Lb.name)
    else if x.kind=15∧x.name=x.text then 5
    else er mI x.own
noncomputable def wz (e:Ex):Int:=if 4096<e.size∨32<e.depth then 7 else er wX e.nodes
def Bd (x:Ex):Bool:=decide (x.kind=0)&&jJ x.mod&&jJ x.name&&jJ x.text&&decide (x.num=0)&&decide (x.types.length=0)&&decide (x.labels.length=0)&&decide (x.kids.length=0)
def LD (d:Dc):Bool :=
  !(d.deprecated && !d.exported) && !(!jJ d.note && !d.deprecated) &&
  (if d.kind=0 then !(d.params.any fun p=>!jD p.bound) && !(d.params.any fun p=>decide (p.eh<0)||decide (2<p.eh))&&Bd d.expr&&jJ d.mod&&jJ d.target
   else if d.kind=1 then !(d.params.any fun p=>!decide (p.eh=0))&&jD d.lower&&jD d.upper&&jJ d.mod&&jJ d.target
   else if d.kind=2 then decide (d.params.length=0)&&jD d.lower&&jD d.upper&&jD d.type&&Bd d.expr else false)
def Vy (d:Dc):Bool :=
  !(d.params.any fun p=>!jx p.name) &&
  (if d.kind=0 then jx d.name else if d.kind=1 then dz d.name
   else (dz d.name&&dz d.target||jx d.name&&jx d.target) && !jJ d.mod&&rf d.mod)
noncomputable def Dh (before:List Dc) (d:Dc):Int :=
  if LD d=false then 1
  else if 8<d.params.length∨65536<d.note.size then 7
  else if Vy d=false then 4
  else if (before.any fun x=>decide (x.name=d.name))=true then 5
  else if yR (d.params.map Pm.name)=true then 5
  else if er mI ([d.lower,d.upper,d.type]++d.params.map Pm.bound)≠0 then er mI ([d.lower,d.upper,d.type]++d.params.map Pm.bound)
  else wz d.expr
def Di (path:ByteArray) (before:List Im) (x:Im):Int :=
  if ek x.path=false∨dz x.alias=false then 4
  else if x.path=path then 14
  else if (before.any fun y=>decide (y.path=x.path)||decide (y.alias=x.alias))=true then 5 else 0
def kH {α:Type} (f:List α→α→Int):List α→List α→Nat×Int
  | _,[]=>(0,0)
  | b,x :: r=>if f b x=0 then (if (kH f (b++[x]) r).2=0 then (0,0) else ((kH f (b++[x]) r).1+1,(kH f (b++[x]) r).2)) else (0,f b x)
noncomputable def EH (m:Md):Int :=
  if ek m.path=false then 4
  else if 16<m.imports.length∨64<m.decls.length∨4096<m.size then 7
  else (kH (Di m.path) [] m.imports).2
noncomputable def JF (m:Md):Int×Int:=if EH m≠0 then (-1,EH m) else (((kH Dh [] m.decls).1:Nat),(kH Dh [] m.decls).2)
end Go.Proofs.YtfbbfmcggbapoaaGreatDoor
end
section
namespace Go.Proofs.YtfbbfmcggbapoaaGreatDoor
open Go.Eng
set_option maxHeartbeats 4000000
set_option maxRecDepth 100000
def bt (s:ByteArray):List UInt8:=s.data.toList
def jn (sep:List UInt8):List (List UInt8)→List UInt8
  | []=>[]
  | x :: r=>x++r.flatMap fun y=>sep++y
theorem Vz (sep x:List UInt8):∀ l:List (List UInt8),jn sep (l++[x])=jn sep l++(if l=[] then [] else sep)++x
  | []=>by simp [jn]
  | y :: r=>by simp [jn,lN]
theorem LF {sep:List UInt8} {l:List (List UInt8)} {i:Nat} {x:List UInt8} (h:l[i]?=some x):jn sep (l.take (i+1))=jn sep (l.take i)++(if 0<i then sep else [])++x:=by
  have bQ:=(aA.1 h).1;rw [bH,h,auM,Vz];by_cases hi:0<i;·rw [if_pos hi,if_neg];intro e;have h2:=congrArg List.length e;rw [lg,ai] at h2;omega
  ·(have:i=0:=by omega);subst this;simp
def Ik (m n:ByteArray) (l:List (List UInt8)):List UInt8:=(if m=⟨#[]⟩ then [] else bt m++[58,58])++bt n++(if l=[] then [] else [91]++jn [44,32] l++[93])
def LG (k:Int):List UInt8:=if k=0 then [97,110,121] else if k=1 then [110,111,110,101] else if k=2 then [105,110,116] else if k=3 then [98,111,111,108] else [116,101,120,116]
mutual
def Ty.pr:Ty→List UInt8
  | .mk k m n ar fs =>
    if k=5 then [108,105,115,116,91]++kB ar++[93]
    else if k=6 then [123]++jn [44,32] (Dj fs)++[125]
    else if k=7 then [60]++jn [32,124,32] (Dj fs)++[62]
    else if k=8 then [102,110,40]++jn [44,32] (Dj fs)++[41,32]++kB ar
    else if k=10 then Ik m n (LH ar)
    else LG k
def kB:List Ty→List UInt8
  | []=>[]
  | t :: _=>t.pr
def LH:List Ty→List (List UInt8)
  | []=>[]
  | t :: r=>t.pr :: LH r
def Fd.pr:Fd→List UInt8
  | .mk n t o=>bt n++(if o=true then [63] else [])++[58,32]++t.pr
def Dj:List Fd→List (List UInt8)
  | []=>[]
  | f :: r=>f.pr :: Dj r
end
theorem Nw (l:List Ty):LH l=l.map Ty.pr:=by induction l with|nil=>rfl|cons t r ih=>simp [LH,ih]
theorem Nx (l:List Fd):Dj l=l.map Fd.pr:=by induction l with|nil=>rfl|cons t r ih=>simp [Dj,ih]
theorem Fd.gV (f:Fd):f.pr=bt f.name++(if f.opt=true then [63] else [])++[58,32]++f.ty.pr:=by obtain⟨n,t,o⟩:=f;rw [Fd.pr];rfl
theorem Ty.gV (t:Ty):t.pr=if t.kind=5 then [108,105,115,116,91]++kB t.args++[93]
    else if t.kind=6 then [123]++jn [44,32] (t.bA.map Fd.pr)++[125]
    else if t.kind=7 then [60]++jn [32,124,32] (t.bA.map Fd.pr)++[62]
    else if t.kind=8 then [102,110,40]++jn [44,32] (t.bA.map Fd.pr)++[41,32]++kB t.args
    else if t.kind=10 then Ik t.mod t.name (t.args.map Ty.pr)
    else LG t.kind:=by obtain⟨k,m,n,ar,fs⟩:=t;rw [Ty.pr,Nw,Nx];rfl
def rm (s:ByteArray):Int×Int×Int :=
  if s=⟨#[111,114]⟩ then (1,1,2) else if s=⟨#[97,110,100]⟩ then (2,2,3) else if s=⟨#[110,111,116]⟩ then (3,3,0)
  else if s=⟨#[61,61]⟩∨s=⟨#[61,61,61]⟩∨s=⟨#[60]⟩ then (4,5,5) else if s=⟨#[43]⟩∨s=⟨#[45]⟩∨s=⟨#[43,43]⟩ then (5,5,6)
  else if s=⟨#[42]⟩ then (6,6,7) else (7,7,0)
def Ex.lvl (x:Ex):Int :=
  if x.kind=10∨x.kind=12∨x.kind=13∨x.kind=15∨x.kind=8 then 0 else if x.kind=16 then (rm x.name).1
  else if x.kind=6∨x.kind=9 then 8 else if x.kind=0∧x.num<0 then 7 else 9
def sG (lv least:Int) (s:List UInt8):List UInt8:=if least≤lv then s else [40]++s++[41]
def VB (ls:List Lb) (P:List (List UInt8)):List UInt8:=jn [44,32] (List.zipWith (fun l p=>bt l.name++[58,32]++p) ls P)
def Rp (ls:List Lb) (P:List (List UInt8)):List UInt8:=jn [44,32] (List.zipWith (fun l p=>bt l.name++[32]++bt l.var++[32,61,62,32]++p) ls P)
def Fp:List Lb→List (List UInt8)→List (List UInt8)
  | [],_=>[]
  | l :: r,P=>if l.opt=true then (bt l.name++[58,32]++l.ty.pr++[32,61,32]++P.headD []) :: Fp r P.tail else (bt l.name++[58,32]++l.ty.pr) :: Fp r P
def EI (n:UInt8):UInt8:=if n<10 then 48+n else 87+n
def yS (c:UInt8):List UInt8:=if c=34∨c=92 then [92,c] else if c=10 then [92,110] else if 32≤c∧c≤126 then [c] else [92,120,EI (c / 16),EI (c % 16)]
def LI (s:ByteArray):List UInt8:=[34]++(bt s).flatMap yS++[34]
def XP (x:Ex) (P:List (List UInt8)):List UInt8 :=
  let a (i:Nat) (least:Int):List UInt8:=sG ((x.kids.map Ex.lvl)[i]?.getD 9) least (P[i]?.getD [])
  if x.kids.length=1 then bt x.name++[32]++a 0 (rm x.name).2.1 else a 0 (rm x.name).2.1++[32]++bt x.name++[32]++a 1 (rm x.name).2.2
def Cr (w:List UInt8) (ts:List Ty):List UInt8:=w++[91]++kB ts++[93]
def Be (x:Ex) (P:List (List UInt8)):List UInt8 :=
  let p (i:Nat):List UInt8:=P[i]?.getD []
  let f:List UInt8:=sG ((x.kids.map Ex.lvl)[0]?.getD 9) 8 (p 0)
  if x.kind=0 then Lib.itoa x.num else if x.kind=1 then LI x.text
  else if x.kind=2 then (if x.num=1 then [116,114,117,101] else [102,97,108,115,101])
  else if x.kind=3∨x.kind=4 then Ik x.mod x.name (x.types.map Ty.pr)
  else if x.kind=5 then [123]++VB x.labels P++[125]
  else if x.kind=6 then f++[46]++bt x.name
  else if x.kind=7 then [60]++bt x.name++[58,32]++p 0++[62]
  else if x.kind=8 then [102,110,40]++jn [44,32] (Fp x.labels P)++[41,32,61,62,32]++p (x.labels.filter Lb.opt).length
  else if x.kind=9 then f++[40]++VB x.labels P.tail++[41]
  else if x.kind=10 then [108,101,116,32]++bt x.name++[32,61,32]++p 0++[32,105,110,32]++p 1
  else if x.kind=11 then [40]++p 0++[32,58,32]++kB x.types++[41]
  else if x.kind=12 then Cr [105,102] x.types++[32]++p 0++[32,116,104,101,110,32]++p 1++[32,101,108,115,101,32]++p 2
  else if x.kind=13 then Cr [109,97,116,99,104] x.types++[32]++p 0++[32,123]++Rp x.labels P.tail++[125]
  else if x.kind=14 then [91]++kB x.types++[124]++(if P=[] then [] else [32]++jn [44,32] P)++[93]
  else if x.kind=15 then Cr [102,111,108,100] x.types++[32]++bt x.name++[44,32]++bt x.text++[32,105,110,32]++p 0++[32,102,114,111,109,32]++p 1++[32,61,62,32]++p 2
  else XP x P
mutual
def Ex.pr:Ex→List UInt8
  | .mk k m n t nu ts ls ks=>Be (.mk k m n t nu ts ls ks) (LJ ks)
def LJ:List Ex→List (List UInt8)
  | []=>[]
  | x :: r=>x.pr :: LJ r
end
theorem Ny (l:List Ex):LJ l=l.map Ex.pr:=by induction l with|nil=>rfl|cons t r ih=>simp [LJ,ih]
theorem Ex.gV (x:Ex):x.pr=Be x (x.kids.map Ex.pr):=by obtain⟨k,m,n,t,nu,ts,ls,ks⟩:=x;rw [Ex.pr,Ny];rfl
def vrS (v:Int):List UInt8:=if v=0 then [43] else if v=1 then [45] else [61]
def Nz (kind:Int) (p:Pm):List UInt8:=if kind=0 then vrS p.eh++bt p.name else bt p.name++(if p.bound.kind=0 then [] else [32,60,58,32]++p.bound.pr)
def Cs (kind:Int) (l:List Pm):List UInt8:=if l=[] then [] else [91]++jn [44,32] (l.map (Nz kind))++[93]
def bdS (trans:Bool) (d:Dc):List UInt8 :=
  if trans=true then [] else (if d.lower.kind=1 then [] else [32,62,58,32]++d.lower.pr)++(if d.upper.kind=0∧¬ d.lower.kind=1 then [] else [32,60,58,32]++d.upper.pr)
def Rr (trans:Bool) (d:Dc):List UInt8 :=
  (if d.exported=true then [101,120,112,111,114,116,32] else []) ++
  (if d.deprecated=true then [100,101,112,114,101,99,97,116,101,100,32]++LI d.note++[32] else []) ++
  (if d.kind=0 then [116,121,112,101,32]++bt d.name++Cs 0 d.params++bdS trans d++[32,61,32]++d.type.pr
   else if d.kind=1 then [108,101,116,32]++bt d.name++Cs 1 d.params++[58,32]++d.type.pr++[32,61,32]++d.expr.pr
   else [117,115,101,32]++bt d.mod++[58,58]++bt d.target++[32,97,115,32]++bt d.name)++[10]
def XQ (x:Im):List UInt8:=[105,109,112,111,114,116,32]++bt x.path++[32,97,115,32]++bt x.alias++[10]
def NA (trans:Dc→Bool) (m:Md):List UInt8:=[109,111,100,117,108,101,32]++bt m.path++[10]++m.imports.flatMap XQ++m.decls.flatMap (fun d=>Rr (trans d) d)
end Go.Proofs.YtfbbfmcggbapoaaGreatDoor
end
section
namespace Go.Proofs.YtfbbfmcggbapoaaGreatDoor
open Go.Eng
variable [ba]
set_option maxHeartbeats 4000000
set_option maxRecDepth 100000
theorem kS {α:Type} (f:α→Int) (l:List α):er f l=0↔∀ u∈l,f u=0:=by induction l with|nil=>simp [er]|cons a r ih =>unfold er;by_cases h:f a=0;(·rw [if_pos h,ih];simp [h]);rw [if_neg h];simp [h]
theorem dH (s:ByteArray):(bt s).length=s.size:=by cases s;simp [bt,ByteArray.size]
theorem xz (sep:List UInt8) (l:List (List UInt8)):(jn sep l).length≤aM (fun x=>x.length+sep.length) l:=by cases l with|nil=>simp [jn]|cons x r =>(have:(r.flatMap fun y=>sep++y).length=aM (fun x=>x.length+sep.length) r:=by induction r with|nil=>rfl|cons y r ih=>simp only [ab,ae,aM,ih];omega);simp only [jn,ae,aM,this];omega
theorem ja {α:Type} {g h:α→Nat} {l:List α} (e:∀ a∈l,g a≤h a):aM g l≤aM h l:=by induction l with|nil=>simp [aM]|cons a r ih =>have h1:=e a (by simp);have h2:=ih fun b hb=>e b (by simp [hb]);simp only [aM];omega
theorem pQ {α:Type} (c:Nat) (g:α→Nat) (l:List α):aM (fun a=>c*g a) l=c*aM g l:=by induction l with|nil=>simp [aM]|cons a r ih=>simp only [aM,ih,Nat.mul_add]
theorem kI {s:ByteArray} (h:dz s=true):s.size≤32:=by simp only [dz,aJ,decide_eq_true_eq] at h;omega
theorem NB {s:ByteArray} (h:jx s=true):s.size≤32:=by simp only [jx,aJ,decide_eq_true_eq] at h;omega
theorem Bf {s:ByteArray} (h:jJ s=true):s.size=0:=by simp only [jJ,decide_eq_true_eq] at h;subst h;rfl
theorem JG {s:ByteArray} (h:ek s=true):s.size≤64:=by simp only [ek,aJ,decide_eq_true_eq] at h;omega
theorem NC {s:ByteArray} (h:rf s=true):s.size≤64:=by
 simp only [rf,dN] at h;rcases h with (h|h)|h
 ·have:=Bf h;omega
 ·have:=kI h;omega
 exact JG h
theorem Bg {m n:ByteArray} {l:List (List UInt8)} {a b:Nat} (hm:m.size≤a) (hn:n.size≤b):(Ik m n l).length≤a+b+4+aM (fun x=>x.length+2) l:=by
 have h:(jn [44,32] l).length≤aM (fun x=>x.length+2) l:=xz [44,32] l;have h1:(if m=⟨#[]⟩ then ([]:List UInt8) else bt m++[58,58]).length≤a+2:=by split;(·simp);rw [ae,dH];simp;omega
 have h2:(if l=[] then ([]:List UInt8) else [91]++jn [44,32] l++[93]).length≤2+aM (fun x=>x.length+2) l:=by split;(·simp);simp only [ae,af,ai];omega
 simp only [Ik,ae,dH];omega
theorem Ty.tl:∀ (N:Nat) (t:Ty),t.size≤N→(∀ u∈t.nodes,tj u=0)→t.pr.length+40≤144*t.size:=by intro N;induction N with|zero=>intro t h;have:=t.size_pos;omega|succ N ih =>intro t hN hn;have hs:=t.dG;rw [Ty.dU] at hn;have h0:tj t=0:=hn t (by simp);(have hp:∀ u∈t.parts,u.pr.length+40≤144*u.size:=fun u hu=>by obtain⟨i,hi⟩:=bB.1 hu;have:=bU Ty.size hi;exact ih u (by omega) fun v hv=>hn v (bj _ (e9.2 ⟨u,hu,hv⟩)));(have ha:aM (fun u=>u.pr.length+40) t.args≤144*aM Ty.size t.args:=by rw [← pQ];exact ja fun u hu=>hp u (by simp [Ty.parts,hu]));(have H9:aM Ty.size t.parts=aM Ty.size t.args+aM (fun f=>f.ty.size) t.bA:=by simp only [Ty.parts,eW,js]);(have vY:∀ f∈t.bA,f.name.size≤32:=by intro f hf;unfold tj at h0;(split at h0;· simp at h0);(split at h0;· simp at h0);(split at h0;· simp at h0);(split at h0;· simp at h0);rename_i h4;(have:dz f.name=true:=by cases h5:dz f.name with|true=>rfl|false=>exact absurd (tP.2 ⟨f,hf,by simp [h5]⟩) h4);exact kI this);(have hf:aM (fun f=>f.pr.length+3) t.bA≤144*aM (fun f=>f.ty.size) t.bA:=by rw [← pQ];refine ja fun f hf=>?_;have h1:=hp f.ty (by simp only [Ty.parts,eA,cQ];exact .inr ⟨f,hf,rfl⟩);have h2:=vY f hf;(have h3:(if f.opt=true then ([63]:List UInt8) else []).length≤1:=by split <;> simp);rw [Fd.gV];simp only [ae,dH,af,ai];omega);(have XR:(kB t.args).length≤aM (fun u=>u.pr.length+40) t.args:=by cases t.args with|nil=>simp [kB]|cons a r=>simp only [kB,aM];omega);(have hj:∀ sep:List UInt8,sep.length≤3→(jn sep (t.bA.map Fd.pr)).length≤aM (fun f=>f.pr.length+3) t.bA:=fun sep uZ=>by refine fU (xz _ _) ?_;rw [js];exact ja fun f _=>by omega);rw [Ty.gV];split;(·simp only [ae,af,ai];omega);split;(·have:=hj [44,32] (by simp);simp only [ae,af,ai];omega);split;(·have:=hj [32,124,32] (by simp);simp only [ae,af,ai];omega);split;(·have:=hj [44,32] (by simp);simp only [ae,af,ai];omega);split;(·rename_i xe;(have KQ:t.mod.size≤64∧t.name.size≤32:=by unfold tj at h0;(split at h0;· simp at h0);(split at h0;· simp at h0);(split at h0;· simp at h0);rename_i h4;(have h5:rf t.mod=true∧jx t.name=true:=by cases h6:rf t.mod <;> cases h7:jx t.name <;> simp [xe,h6,h7] at h4 ⊢);exact⟨NC h5.1,NB h5.2⟩);have:=Bg (l:=t.args.map Ty.pr) KQ.1 KQ.2;rw [js] at this;(have h8:aM (fun u:Ty=>u.pr.length+2) t.args≤aM (fun u=>u.pr.length+40) t.args:=ja fun u _=>by omega);omega);(have:(LG t.kind).length≤4:=by unfold LG;(repeat' split);all_goals simp);omega
end Go.Proofs.YtfbbfmcggbapoaaGreatDoor
end
section
namespace Go.Proofs.YtfbbfmcggbapoaaGreatDoor
set_option maxHeartbeats 4000000
set_option maxRecDepth 100000
section
open Go.Proofs Go.Lib Go.RowKit
theorem LK:∃ j,aj.info? 127=some j∧j.size=2:=aY.1 (show (aj.info? 127).map (·.size)=some 2 from kr)
def okB (T:TypeId):Prop:=liesAt aj aj.depth T (2 / aj.cellsOf T) 0 127 1=true
theorem wA:okB 127:=by unfold okB;kernel_rfl
theorem afx:okB 129:=by unfold okB;kernel_rfl
theorem Bh (b:Nat) (w:World) (h0:w.cell? ⟨b,0,none⟩=some (.pointer (some ⟨b,0,none⟩))) :
  Calls aj 212 #[.pointer (some ⟨b,0,none⟩)] w fun e w'=>e = .returned (.tuple #[])∧w'=w:=by obtain⟨j,hj,_⟩:=LK;go_enter Tryz.func212,Tryz.ntmps212;go_wp2;rw [Lib.run_neq_ptr_same w _ Tryz.underlying124 hj];go_wp2;go_end0;exact⟨rfl,rfl⟩
theorem yU (T:TypeId) (hT:okB T) (b:Nat) (w:World) (h0:w.cell? ⟨b,0,none⟩=some (.pointer none)) (lP:w.shape? b=some (T,2)) (hfz:w.frozen? ⟨b,0,none⟩=false) :
  Calls aj 212 #[.pointer (some ⟨b,0,none⟩)] w fun e w'=>e = .returned (.tuple #[])∧w'=w.setCell ⟨b,0,none⟩ (.pointer (some ⟨b,0,none⟩)):=by obtain⟨j,hj,hjs⟩:=LK;go_enter Tryz.func212,Tryz.ntmps212;go_wp2;rw [Lib.run_to_unsafe w ⟨b,0,none⟩ Tryz.underlying124 Tryz.underlying245 hj (by rw [hjs];decide) lP (Nat.zero_lt_succ 1)];simp only [Result.andThen];rw [Oper.upon_value];go_wp2;rw [run_callFunc_extern Tryz.func261 kr kr kr (e:=Extern.AbiNoEscape.same) kr];rw [Lib.run_noEscape];simp only [Result.andThen];rw [Oper.upon_value];go_wp2;rw [Lib.run_from_unsafe w ⟨b,0,none⟩ Tryz.underlying245 Tryz.underlying124 hj lP hT];simp only [Result.andThen];rw [Oper.upon_value];go_wp2;go_end0;exact⟨rfl,rfl⟩
theorem Bi {P:Program} {ops:Array Oper} {rest:List Oper} {o:Oper} {a:Act} {Q:Exit→Act→World→Prop} {w w':World} (hgd:o.guard=none) (sl x:Operand) (t u:TypeId) (ho:o.op = .call { callee:=.builtin .append,args := #[sl,x],argTypes := #[t,u] })
  {v v' z:Value} (hs:a.eval sl=v) (hx:a.eval x=z) (hr:(Builtin.append_ #[t,u] o.type #[v,z]).run P w = .ok v' w') (h:wpList P ops Q rest (a.put o.dst v') w'):wpList P ops Q (o :: rest) a w:=by refine wpList_plain hgd fun K hK=>?_;unfold Oper.wp execOp;simp only [ho,resolve,invoke,builtin,Sem.run_bind,Sem.run_pure,Result.andThen_ok,List.map_toArray,bm,iK,hs,hx,hr];exact hK _ _ h
theorem wB (b:Nat) (s:ByteArray) (w w1 w2:World) (sv sv2:Value) (va:Option Addr) (vn vc:Nat)
  (u0:Calls aj 212 #[.pointer (some ⟨b,0,none⟩)] w fun e w'=>e = .returned (.tuple #[])∧w'=w1) (c1:w1.cell? ⟨b,1,none⟩=some sv)
  (hr:(Builtin.append_ #[125,9] 125 #[sv,.string s]).run aj w1 = .ok (.slice va vn vc) w2) (d1:w2.cell? ⟨b,1,none⟩=some sv2) (f1:w2.frozen? ⟨b,1,none⟩=false) :
  Calls aj 135 #[.pointer (some ⟨b,0,none⟩),.string s] w fun e w'=>e = .returned (.tuple #[.int .i64 s.size,.nilIface])∧w'=w2.setCell ⟨b,1,none⟩ (.slice va vn vc):=by go_enter Tryz.func135,Tryz.ntmps135;go_wp2_with (go_at_call 212;refine u0.mono ?_);rintro e w' ⟨rfl,rfl⟩;go_wp2_with (at_builtin;refine Bi rfl _ _ 125 9 rfl rfl rfl hr ?_);go_wp2;go_ret2;exact⟨rfl,rfl⟩
theorem yV (b:Nat) (c:Int) (w w1 w2:World) (sv sv2:Value) (va:Option Addr) (vn vc:Nat)
  (u0:Calls aj 212 #[.pointer (some ⟨b,0,none⟩)] w fun e w'=>e = .returned (.tuple #[])∧w'=w1) (c1:w1.cell? ⟨b,1,none⟩=some sv)
  (hr:(Builtin.append_ #[125,125] 125 #[sv,.slice (some ⟨w1.heap.size,0,none⟩) 1 1]).run aj (w1.alloc (.cells #[.int .u8 c] 5 (0,0))) = .ok (.slice va vn vc) w2) (d1:w2.cell? ⟨b,1,none⟩=some sv2) (f1:w2.frozen? ⟨b,1,none⟩=false) :
  Calls aj 195 #[.pointer (some ⟨b,0,none⟩),.int .u8 c] w fun e w'=>e = .returned .nilIface∧w'=w2.setCell ⟨b,1,none⟩ (.slice va vn vc):=by go_enter Tryz.func195,Tryz.ntmps195;go_wp2_with (go_at_call 212;refine u0.mono ?_);rintro e w' ⟨rfl,rfl⟩;go_wp2_with (at_builtin;refine Bi rfl _ _ 125 125 rfl rfl rfl hr ?_);go_wp2;go_ret;exact⟨rfl,rfl⟩
theorem ND (b:Nat) (w:World) (va:Option Addr) (vn vc:Nat) (c1:w.cell? ⟨b,1,none⟩=some (.slice va vn vc)) :
  Calls aj 84 #[.pointer (some ⟨b,0,none⟩)] w fun e w'=>e = .returned (.int .i64 vn)∧w'=w:=by go_enter Tryz.func84,Tryz.ntmps84;go_wp2;go_ret;exact⟨rfl,rfl⟩
end
end Go.Proofs.YtfbbfmcggbapoaaGreatDoor
end
section
namespace Go.Proofs.YtfbbfmcggbapoaaGreatDoor
open Go.Eng
variable [ba]
set_option maxHeartbeats 4000000
set_option maxRecDepth 100000
def bs (l:List UInt8):ByteArray:=⟨l.toArray⟩
theorem Hr (l:List UInt8):bt (bs l)=l:=by simp [bt,bs]
theorem EJ (l:List UInt8):(bs l).size=l.length:=by simp [bs,ByteArray.size]
def bM (T:TypeId) (v:Nat) (O:List UInt8) (l:List bf):List bf:=.nk T 1 v O.length :: .n7 5 v O :: l
def WG (x:V) (T:TypeId) (O X:List UInt8) (l:List bf) (r:V) (m:List bf):Prop:=r=x∧∃ O' v',O'=O++X∧m=bM T v' O' l
abbrev WR:=WG (.dR []) 129
theorem Hs (T:TypeId) (v:Nat) (O:List UInt8):(bM T v O []).all (aL 2)=true:=rfl
theorem Ht {x:V} {T:TypeId} {f:FuncId} {vs:List V} {O X:List UInt8} {v:Nat} (h:∃ r m,WG x T O X [] r m∧bo aj f vs (bM T v O []) r m) (hv:vs.all (aI 2)=true) (hx:aI 2 x=true) (l:List bf) :
  ∃ r m,WG x T O X l r m∧bo aj f vs (.nk T 1 v O.length :: .n7 5 v O :: l) r m:=by obtain⟨r,m,⟨rfl,O',v',rfl,rfl⟩,h⟩:=h;exact⟨_,_,⟨rfl,_,v',rfl,rfl⟩,h.frame hv (Hs T v O) hx rfl (Hs T v' _) l⟩
theorem tm {f:FuncId} {vs:List V} {O X:List UInt8} {v:Nat} (h:∃ r m,WR O X [] r m∧bo aj f vs (bM 129 v O []) r m) (hv:vs.all (aI 2)=true) (l:List bf) :
  ∃ r m,WR O X l r m∧bo aj f vs (.nk 129 1 v O.length :: .n7 5 v O :: l) r m:=Ht h hv rfl l
theorem mF (w:World) {g:Nat} {cs:Array Value} {T:TypeId} (h:w.heap[g]?=some (.cells cs T (0,0))) (o:Nat):w.cell? ⟨g,o,none⟩=cs[o]?:=by simp [World.cell?,h]
theorem aaK {w:World} {g i:Nat} {cs:Array Value} {T:TypeId} (v:Value) (h:w.heap[g]?=some (.cells cs T (0,0))):od w (w.setCell ⟨g,i,none⟩ v) g∧(w.setCell ⟨g,i,none⟩ v).heap[g]?=some (.cells (cs.setIfInBounds i v) T (0,0)) :=
 ⟨⟨rfl,rfl,rfl,by simp [World.setCell],fun b hb=>heap_setCell_other w _ b v hb⟩,heap_setCell_same w g i cs T v h⟩
theorem XS {E:Env} {a b:V} {xs:Array Value} (hx:cU E [a,b] xs.toList):∃ x y,xs = #[x,y]∧cT E a x∧cT E b y:=by obtain⟨x0,ys,rj,vh,AV⟩:=hx.of_cons;obtain⟨x1,zs,hys,Cb,aaL⟩:=AV.of_cons;have Po:=aaL.of_nil;subst Po;subst hys;exact⟨x0,x1,by rw [← cr (xs:=xs),rj],vh,Cb⟩
theorem XT {E:Env} {a:V} {xs:Array Value} (hx:cU E [a] xs.toList):∃ x,xs = #[x]∧cT E a x:=by obtain⟨x0,ys,rj,vh,AV⟩:=hx.of_cons;obtain rfl:=AV.of_nil;exact⟨x0,by rw [← cr (xs:=xs),rj],vh⟩
theorem tt5i:∃ i,aj.info? 5=some i∧i.zero=some (.int .u8 0)∧i.size=1∧i.bytes=1:=by obtain⟨i,h1,h2⟩:=aY.1 (show (aj.info? 5).map (fun i=>(i.zero,i.size,i.bytes))=some (some (.int .u8 0),1,1) from kr);simp only [dn] at h2;exact⟨i,h1,h2.1,h2.2.1,h2.2.2⟩
theorem XU {T:TypeId} (hT:okB T) {E:Env} {w:World} {a:Act} {fr:List V} {v:Nat} {O:List UInt8} {l:List bf} (hs:c5 E w a { fr:=fr,mem:=bM T v O l }) :
  ∃ g T' sv w1,E.cn 0 0=some (g,0,0)∧Calls aj 212 #[.pointer (some ⟨g,0,none⟩)] w (fun e w'=>e = .returned (.tuple #[])∧w'=w1)∧w1.heap[g]?=some (.cells #[.pointer (some ⟨g,0,none⟩),sv] T' (0,0))∧cT E (.ms 1 v 0 O.length) sv ∧
   c5 E w1 a { fr:=fr,mem:=bM T v O l }∧gK E w E w1:=by
 obtain⟨g,T',p,sv,fR,hh,hp,wV,hF⟩:=hs.mem 0 _ rfl;obtain⟨w1,u0,Cd,MA⟩:∃ w1,Calls aj 212 #[.pointer (some ⟨g,0,none⟩)] w (fun e w'=>e = .returned (.tuple #[])∧w'=w1)∧od w w1 g∧w1.heap[g]?=some (.cells #[.pointer (some ⟨g,0,none⟩),sv] T' (0,0)):=by (rcases hp with ⟨rfl,rfl⟩|rfl);(·obtain⟨h1,h2⟩:=aaK (i:=0) (.pointer (some ⟨g,0,none⟩)) hh;exact⟨_,yU T' hT g w (by rw [mF w hh];rfl) (by simp [World.shape?,hh]) (by simp [World.frozen?,hh]),h1,h2⟩);exact⟨w,Bh g w (by rw [mF w hh];rfl),⟨rfl,rfl,rfl,rfl,fun _ _=>rfl⟩,hh⟩
 obtain⟨sZ,Rs⟩:=hs.zU (b:=0) (B:=.nk T 1 v O.length) (B':=.nk T 1 v O.length) rfl rfl rfl fR hF Cd ⟨g,T',_,sv,fR,MA,.inr rfl,wV,hF⟩;exact⟨g,T',sv,w1,fR,u0,MA,wV,sZ,Rs⟩
theorem wC {T:TypeId} (hT:okB T) (s:ByteArray) (h0:0<s.size) (v:Nat) (O:List UInt8) (hO:O.length+s.size≤34359738368):∃ r m,WG (.dR [num s.size,.sc .nilIface]) T O (bt s) [] r m∧bo aj 135 [.ptr 0 0,str s] (bM T v O []) r m:=by refine⟨.dR [num s.size,.sc .nilIface],bM T (v+1) (O++bt s) [],⟨rfl,_,_,rfl,rfl⟩,Tryz.call135,fun E w xs hs hx=>?_⟩;obtain⟨x0,x1,rfl,vh,Cb⟩:=XS hx;obtain rfl:=eT Cb;obtain⟨g,T',sv,w1,fR,u0,MA,wV,sZ,Rs⟩:=XU hT hs;cases vh with|ptr _ _ _ g e c hb =>rw [fR] at hb;cases hb;obtain⟨v',w2,E2,eQ,Fk,fK,j4⟩:=sZ.aaj tt_ok (k:=1) (t:=125) (u:=9) (ty:=125) (s:=s) Qg rfl tt5 tt5i tt9 rfl rfl rfl rfl wV h0 hO;obtain⟨g2,T2,p2,sv2,tZ,Ie,CL,-,ju⟩:=Fk.mem 0 _ rfl;rw [fK.le.cn _ _ _ fR] at tZ;cases tZ;(obtain⟨va,vn,vc,rfl⟩:∃ va vn vc,v' = .slice va vn vc:=by rcases j4.uK with ⟨-,rfl⟩|⟨_,_,_,rfl,-⟩ <;> exact⟨_,_,_,rfl⟩);obtain⟨aaM,hh4⟩:=aaK (i:=1) (.slice va vn vc) Ie;(have hO':(O++bt s).length=O.length+s.size:=by rw [ae,dH]);obtain⟨hs4,MI⟩:=Fk.zU (b:=0) (B:=.nk T 1 v O.length) (B':=.nk T 1 (v+1) (O++bt s).length) rfl rfl rfl (fK.le.cn _ _ _ fR) ju aaM ⟨g,T2,p2,_,fK.le.cn _ _ _ fR,hh4,CL,by rw [hO'];exact j4,ju⟩;refine (wB g s w w1 w2 sv sv2 va vn vc u0 (by rw [mF w1 MA];rfl) eQ (by rw [mF w2 Ie];rfl) (by simp [World.frozen?,Ie])).mono ?_;rintro e w' ⟨rfl,rfl⟩;exact⟨E2,_,rfl,(Rs.trans fK).trans MI,hs4,.dR _ _ _ (by simp) fun i c x hc hx=>lX E2 #[.int .i64 s.size,.nilIface] i c x hc hx⟩
theorem jQ {T:TypeId} (hT:okB T) (b:UInt8) (v:Nat) (O:List UInt8) (hO:O.length+1≤34359738368):∃ r m,WG (.sc .nilIface) T O [b] [] r m∧bo aj 195 [.ptr 0 0,.sc (.int .u8 (b.toNat:Int))] (bM T v O []) r m:=by refine⟨.sc .nilIface,bM T (v+1) (O++[b]) [],⟨rfl,_,_,rfl,rfl⟩,Tryz.call195,fun E w xs hs hx=>?_⟩;obtain⟨x0,x1,rfl,vh,Cb⟩:=XS hx;obtain rfl:=eT Cb;obtain⟨g,T',sv,w1,fR,u0,MA,wV,sZ,Rs⟩:=XU hT hs;cases vh with|ptr _ _ _ g e c hb =>rw [fR] at hb;cases hb;obtain⟨v',w2,E2,eQ,Fk,fK,j4⟩:=sZ.Vh tt_ok (k:=1) (t:=125) (ty:=125) (b:=b) Qg rfl tt5 tt5i rfl wV hO;obtain⟨g2,T2,p2,sv2,tZ,Ie,CL,-,ju⟩:=Fk.mem 0 _ rfl;rw [fK.le.cn _ _ _ fR] at tZ;cases tZ;(obtain⟨va,vn,vc,rfl⟩:∃ va vn vc,v' = .slice va vn vc:=by rcases j4.uK with ⟨-,rfl⟩|⟨_,_,_,rfl,-⟩ <;> exact⟨_,_,_,rfl⟩);obtain⟨aaM,hh4⟩:=aaK (i:=1) (.slice va vn vc) Ie;(have hO':(O++[b]).length=O.length+1:=by rw [ae];rfl);obtain⟨hs4,MI⟩:=Fk.zU (b:=0) (B:=.nk T 1 v O.length) (B':=.nk T 1 (v+1) (O++[b]).length) rfl rfl rfl (fK.le.cn _ _ _ fR) ju aaM ⟨g,T2,p2,_,fK.le.cn _ _ _ fR,hh4,CL,by rw [hO'];exact j4,ju⟩;refine (yV g _ w w1 w2 sv sv2 va vn vc u0 (by rw [mF w1 MA];rfl) eQ (by rw [mF w2 Ie];rfl) (by simp [World.frozen?,Ie])).mono ?_;rintro e w' ⟨rfl,rfl⟩;exact⟨E2,_,rfl,(Rs.trans fK).trans MI,hs4,.sc _ _⟩
theorem VE {T:TypeId} (v:Nat) (O:List UInt8):∃ r m,WG (num O.length) T O [] [] r m∧bo aj 84 [.ptr 0 0] (bM T v O []) r m:=by refine⟨num O.length,bM T v O [],⟨rfl,O,v,by simp,rfl⟩,Tryz.call84,fun E w xs hs hx=>?_⟩;obtain⟨x0,rfl,vh⟩:=XT hx;cases vh with|ptr _ _ _ g e c hb =>obtain⟨g,T',p,sv,fR,hh,hp,wV,hF⟩:=hs.mem 0 _ rfl;rw [fR] at hb;cases hb;(obtain⟨va,vc,rfl⟩:∃ va vc,sv = .slice va O.length vc:=by rcases wV.uK with ⟨h0,rfl⟩|⟨_,_,_,rfl,-⟩ <;> first|exact⟨_,_,rfl⟩|(rw [h0];exact⟨_,_,rfl⟩));refine (ND g w va _ vc (by rw [mF w hh];rfl)).mono ?_;rintro e w' ⟨rfl,rfl⟩;exact⟨E,_,rfl,gK.refl E _,hs,.sc _ _⟩
theorem EK (b g cap cells:Nat) (w:World) (l:List UInt8) (h0:l≠[]) (lR:cap≠0) (c1:w.cell? ⟨b,1,none⟩=some (.slice (some ⟨g,0,none⟩) l.length cap)) (lP:w.shape? g=some (5,cells)) (hn:l.length≤cells) (hm:l.length≤maxLen)
  (pj:∀ j x,l[j]?=some x→w.cell? ((⟨g,0,none⟩:Addr).add j)=some (.int .u8 x.toNat)) :
  Calls aj 85 #[.pointer (some ⟨b,0,none⟩)] w fun e w'=>e = .returned (.string ⟨l.toArray⟩)∧w'=w.drew.freeze ⟨g,0,none⟩ l.length:=by have c1':w.drew.cell? ⟨b,1,none⟩=some (.slice (some ⟨g,0,none⟩) l.length cap):=c1;have hSD:(Builtin.unsafeSliceData_ #[125] 194 #[.slice (some ⟨g,0,none⟩) l.length cap]).run aj w.drew = .ok (.pointer (some ⟨g,0,none⟩)) w.drew := Lib.run_unsafeSliceData_row _ _ _ _ _ _ lR;have hUS:(Builtin.unsafeString_ #[194,3] 9 #[.pointer (some ⟨g,0,none⟩),.int .i64 l.length]).run aj w.drew = .ok (.string ⟨l.toArray⟩) (w.drew.freeze ⟨g,0,none⟩ l.length) := Lib.run_unsafeString_row w.drew 194 3 9 5 kr kr g cells lP l h0 hn (by unfold maxLen at hm;omega) pj;have mixed:=cB;go_enter Tryz.func85,Tryz.ntmps85;go_wp2;go_region_o;all_goals (go_wp2;go_ret;exact⟨rfl,rfl⟩)
theorem Dk {T:TypeId} (v:Nat) (O:List UInt8) (h0:O≠[]):bo aj 85 [.ptr 0 0] (bM T v O []) (str (bs O)) [.nk T 1 v O.length,.rv v 1 (kY O)]:=by refine⟨Tryz.call85,fun E w xs hs hx=>?_⟩;obtain⟨x0,rfl,vh⟩:=XT hx;cases vh with|ptr _ _ _ g e c hb =>obtain⟨g,T',p,sv,fR,hh,hp,wV,hF⟩:=hs.mem 0 _ rfl;rw [fR] at hb;cases hb;obtain⟨gr,cap,cells,E',rfl,lR,lP,hn,hm,pj,sZ,fK⟩:=hs.aan (k:=1) rfl h0 wV;refine (EK g gr cap cells w O h0 lR (by rw [mF w hh];rfl) lP hn hm pj).mono ?_;rintro e w' ⟨rfl,rfl⟩;exact⟨E',_,rfl,fK,sZ,.sc _ _⟩
section
theorem pS {α β:Type} (g:α→List β) {l:List α} {i:Nat} {x:α} (h:l[i]?=some x):(l.take (i+1)).flatMap g=(l.take i).flatMap g++g x:=by rw [bH,h,lN];simp
theorem wD {α β:Type} (g:α→List β) (l:List α) (i:Nat):((l.take i).flatMap g).length≤(l.flatMap g).length:=by
 have e:l.flatMap g=(l.take i).flatMap g++(l.drop i).flatMap g:=by rw [← lN,nB]
 rw [e,ae];omega
theorem XV (sep:List UInt8):∀ (L:List (List UInt8)) (i:Nat),(jn sep (L.take i)).length≤(jn sep L).length
 | [],i=>by rw [atS];exact ay _
 | x :: r,0=>by simp [jn]
 | x :: r,i+1=>by
  rw [y5,jn,jn,ae,ae]
  have:=wD (fun y=>sep++y) r i
  omega
def sgK (k N j:Nat):Nat:=if j=2 then k+2 else if j<2 then j else N+(j-3)
theorem Hu {P:Program} {f:FuncId} {vs:List V} {M m m':List bf} {r:V} (h:bo P f vs M r m) (e:m=m'):bo P f vs M r m':=e ▸ h
theorem ld {f:FuncId} {vs vs' rs:List V} {O X:List UInt8} {v e:Nat} (h:∃ r m,WR O X [.rows 0 e rs] r m∧bo aj f vs (bM 129 v O [.rows 0 e rs]) r m) (l:List bf) (k:Nat) (hk:l[k]?=some (.rows 0 e rs)) (hv:vs.all (aI 3)=true) (MF:∀ N,tG (sgK k N) vs=vs') (wV:aL 3 (.rows 0 e rs)=true) :
  ∃ r m,WR O X l r m∧bo aj f vs' (.nk 129 1 v O.length :: .n7 5 v O :: l) r m:=by
 obtain⟨r,m,⟨rfl,O',v',rfl,rfl⟩,h⟩:=h;refine⟨_,_,⟨rfl,_,v',rfl,rfl⟩,?_⟩;have h2:=h.Jk (bM 129 v O l) (sgK k (bM 129 v O l).length) 3 rfl hv (by simp only [bM,cI,wV,dM,aU];rfl) rfl (by simp only [bM,cI,wV,dM,aU];rfl) (ay _) (fun i B hi=>?_) (fun i j hi hj he=>?_) (fun j hj=>by unfold sgK;rw [if_neg (by omega),if_neg (by omega)]);·rw [MF] at h2;refine Hu h2 ((ah _).trans ?_);show (((bM 129 v O l).set 0 (.nk 129 1 v' (O++X).length)).set 1 (.n7 5 v' (O++X))).set (k+2) (Co (sgK k (bM 129 v O l).length) (.rows 0 e rs))=_;show .nk 129 1 v' (O++X).length :: .n7 5 v' (O++X) :: l.set k (.rows 0 e rs)=_;rw [rZ hk];rfl
 ·match i,hi with|0,hi=>cases hi;rfl|1,hi=>cases hi;rfl|2,hi=>cases hi;exact hk|i+3,hi=>cases hi
 have:i=0∨i=1∨i=2:=by omega
 have:j=0∨j=1∨j=2:=by omega
 rcases ‹i=0∨i=1∨i=2› with rfl|rfl|rfl <;> rcases ‹j=0∨j=1∨j=2› with rfl|rfl|rfl <;> first|rfl|(simp [sgK] at he)|(simp [sgK] at he;omega)
section
attribute [local go_sem] ax bM
theorem cy (l:List ByteArray) (hl:l.length≤1048576) (hx:∀ x∈l,0<x.size) (v:Nat) (O:List UInt8) (hO:O.length+(l.flatMap bt).length≤34359738368):∃ r_ m_,(WR O (l.flatMap bt) [.rows 0 1 (l.map str)]) r_ m_∧bo aj 53 [.ptr 0 0,.ms 2 0 0 l.length] (bM 129 v O [.rows 0 1 (l.map str)]) r_ m_:=by
 refine uJ tt_ok [] 18 [] (3) (ay _) (fn:=Tryz.f53) Tryz.func53 rfl Tryz.call53 ⟨rfl,rfl,by simp⟩ fun K hK=>?_;simp only [bM];simp only [go_sem];refine nM tt_ok [] (fun a:Nat×Nat×List UInt8=>[(0,.ptr 0 0),(6,.ms 2 0 0 l.length),(7,num l.length),(8,num a.1)]) (fun a:Nat×Nat×List UInt8=>bM 129 a.2.1 a.2.2 [.rows 0 1 (l.map str)]) (fun a=>l.length-a.1) (fun a=>a.1≤l.length∧a.2.2=O++(l.take a.1).flatMap bt) ((0,v,O)) 3 (eU (by omega) (by simp only [dY,go_sem] <;> rfl)) (⟨ck _,by simp⟩) ?_;rintro⟨i,va,Oa⟩ ⟨hi,mo⟩;try dsimp only at hi mo
 try dsimp only [bM]
 intro Z1 fh;simp only [go_sem];refine cC (fun kh=>?_) (fun kh=>?_);·(have bQ:i<l.length:=by simpa using kh);have hw:=bN i (by omega);obtain⟨x,BZ⟩:∃ x,l[i]?=some x:=⟨_,au bQ⟩;(have dO:(i:Int)<(l.length:Int):=by omega);have qT:=pS bt BZ;have Fi:=wD bt l (i+1);have uQ:=Fi;rw [qT,ae] at uQ;have hxb:=hx x (aE BZ);have uq:=congrArg List.length mo;rw [ae] at uq;simp only [hw,aq,BZ,dO,go_sem];refine cW (Ht (wC afx x hxb va Oa (by rw [dH] at uQ;omega)) rfl rfl [.rows 0 1 (l.map str)]) ?_;rintro _ _ ⟨rfl,O1,v1,ke,rfl⟩;simp only [hw,aq,BZ,dO,go_sem];refine fh _ ⟨(i+1,v1,O1),?_,?_,eU (by omega) (by simp only [hw,go_sem])⟩;(·exact⟨bQ,by rw [ke,mo,qT,al]⟩);dsimp only;omega
 have jL:¬ i<l.length:=by simpa using kh
 have kz:i=l.length:=by omega
 rw [kz,az] at mo;simp only [go_sem];exact hK _ _ ⟨rfl,_,_,mo,rfl⟩
end
theorem wf2 {f:FuncId} {vs:List V} {A0 A1 B0 B1:bf} {O Y:List UInt8} {v:Nat} (h:∃ r m,WR O Y [B0,B1] r m∧bo aj f vs (bM 129 v O [A0,A1]) r m) (hv:vs.all (aI 4)=true) (hb:[A0,A1].all (aL 4)=true) (fR:[B0,B1].all (aL 4)=true) (l:List bf) :
  ∃ r m,WR O Y (B0 :: B1 :: l) r m∧bo aj f vs (.nk 129 1 v O.length :: .n7 5 v O :: A0 :: A1 :: l) r m:=by obtain⟨r,m,⟨rfl,O',v',rfl,rfl⟩,h⟩:=h;exact⟨_,_,⟨rfl,_,v',rfl,rfl⟩,h.frame hv (by show (true&&(true&&[A0,A1].all (aL 4)))=true;rw [hb];rfl) rfl rfl (by show (true&&(true&&[B0,B1].all (aL 4)))=true;rw [fR];rfl) l⟩
theorem wf3 {f:FuncId} {vs:List V} {A0 A1 A2 B0 B1 B2:bf} {O Y:List UInt8} {v:Nat} (h:∃ r m,WR O Y [B0,B1,B2] r m∧bo aj f vs (bM 129 v O [A0,A1,A2]) r m) (hv:vs.all (aI 5)=true) (hb:[A0,A1,A2].all (aL 5)=true) (fR:[B0,B1,B2].all (aL 5)=true) (l:List bf) :
  ∃ r m,WR O Y (B0 :: B1 :: B2 :: l) r m∧bo aj f vs (.nk 129 1 v O.length :: .n7 5 v O :: A0 :: A1 :: A2 :: l) r m:=by obtain⟨r,m,⟨rfl,O',v',rfl,rfl⟩,h⟩:=h;exact⟨_,_,⟨rfl,_,v',rfl,rfl⟩,h.frame hv (by show (true&&(true&&[A0,A1,A2].all (aL 5)))=true;rw [hb];rfl) rfl rfl (by show (true&&(true&&[B0,B1,B2].all (aL 5)))=true;rw [fR];rfl) l⟩
theorem blA {n:Nat}:∀ {l:List V},aV n l=true→l.all (aI n)=true
 | [],_=>rfl
 | x :: r,h=>by
  simp only [aV,aJ] at h
  simp only [cI,aJ]
  exact⟨h.1,blA h.2⟩
theorem afz {f:FuncId} {cs:List V} {A0 A1 B0 B1:bf} {i:Int} {O Y:List UInt8} {v:Nat} (h:∃ r m,WR O Y [B0,B1] r m∧bo aj f (num i :: cs) (bM 129 v O [A0,A1]) r m) (hb:[A0,A1].all (aL 4)=true) (fR:[B0,B1].all (aL 4)=true) (hv:cs.all (aI 4)=true) (l:List bf) :
  ∃ r m,WR O Y (B0 :: B1 :: l) r m∧bo aj f (num i :: cs) (.nk 129 1 v O.length :: .n7 5 v O :: A0 :: A1 :: l) r m:=by obtain⟨r,m,⟨rfl,O',v',rfl,rfl⟩,h⟩:=h;exact⟨_,_,⟨rfl,_,v',rfl,rfl⟩,h.frame (by show (true&&cs.all (aI 4))=true;rw [hv];rfl) (by show (true&&(true&&[A0,A1].all (aL 4)))=true;rw [hb];rfl) rfl rfl (by show (true&&(true&&[B0,B1].all (aL 4)))=true;rw [fR];rfl) l⟩
theorem afA {f:FuncId} {cs:List V} {A0 A1 A2 B0 B1 B2:bf} {i:Int} {O Y:List UInt8} {v:Nat} (h:∃ r m,WR O Y [B0,B1,B2] r m∧bo aj f (num i :: cs) (bM 129 v O [A0,A1,A2]) r m) (hb:[A0,A1,A2].all (aL 5)=true) (fR:[B0,B1,B2].all (aL 5)=true) (hv:cs.all (aI 5)=true) (l:List bf) :
  ∃ r m,WR O Y (B0 :: B1 :: B2 :: l) r m∧bo aj f (num i :: cs) (.nk 129 1 v O.length :: .n7 5 v O :: A0 :: A1 :: A2 :: l) r m:=by obtain⟨r,m,⟨rfl,O',v',rfl,rfl⟩,h⟩:=h;exact⟨_,_,⟨rfl,_,v',rfl,rfl⟩,h.frame (by show (true&&cs.all (aI 5))=true;rw [hv];rfl) (by show (true&&(true&&[A0,A1,A2].all (aL 5)))=true;rw [hb];rfl) rfl rfl (by show (true&&(true&&[B0,B1,B2].all (aL 5)))=true;rw [fR];rfl) l⟩
section
attribute [local go_sem] ax bM
theorem tn (g:FuncId) (cs:List V) (L:List (List UInt8)) (n:Nat) (hL:L.length=n) (hL1:n≤1048576) (sep:ByteArray) (aaN:0<sep.size) (X:List V) (Y:List V) (mc:aV 4 cs=true) (hX:X.all (aI 4)=true) (hY:Y.all (aI 4)=true) (hg:∀ (i:Nat) (x:List UInt8),L[i]?=some x→∀ v O,O.length+x.length≤34359738368→∃ r m,WR O x [.box X,.box Y] r m∧bo aj g (num i :: cs) (bM 129 v O [.box X,.box Y]) r m) (v:Nat) (O:List UInt8) (hO:O.length+(jn (bt sep) L).length≤34359738368):∃ r_ m_,(WR O (jn (bt sep) L) [.box X,.box Y]) r_ m_∧bo aj 118 [.ptr 0 0,num n,str sep,.ia (.func g) [] cs] (bM 129 v O [.box X,.box Y]) r_ m_:=by
 refine uJ tt_ok [] 23 [] (4) (ay _) (fn:=Tryz.f118) Tryz.func118 rfl Tryz.call118 ⟨rfl,rfl,by simp⟩ fun K hK=>?_;subst hL;simp only [bM];simp only [mc,hX,hY,go_sem];refine nM tt_ok [] (fun a:Nat×Nat×List UInt8=>[(0,.ptr 0 0),(2,str sep),(3,.ia (.func g) [] cs),(9,num L.length),(10,num a.1)]) (fun a:Nat×Nat×List UInt8=>bM 129 a.2.1 a.2.2 [.box X,.box Y]) (fun a=>L.length-a.1) (fun a=>a.1≤L.length∧a.2.2=O++jn (bt sep) (L.take a.1)) ((0,v,O)) 4 (eU (by omega) (by simp only [mc,hX,hY,dY,go_sem] <;> rfl)) (⟨ck _,by simp [jn]⟩) ?_;rintro⟨i,va,Oa⟩ ⟨hi,mo⟩;try dsimp only at hi mo
 try dsimp only [bM]
 intro Z1 fh;simp only [mc,hX,hY,go_sem];refine cC (fun lI=>?_) (fun lI=>?_);·(have bQ:i<L.length:=by simpa using lI);have hw:=bN i (by omega);obtain⟨x,BZ⟩:∃ x,L[i]?=some x:=⟨_,au bQ⟩;(have nV:([sep].flatMap bt).length=(bt sep).length:=by simp);have qT:=LF (sep:=bt sep) BZ;have Fi:=XV (bt sep) L (i+1);have uQ:=Fi;rw [qT,ae,ae] at uQ;have uq:=congrArg List.length mo;rw [ae] at uq;simp only [hw,mc,hX,hY,go_sem];refine cC (fun oY=>?_) (fun oY=>?_);(·(have Pv:0<i:=by have h0:(0:Int)<i:=(by simpa using oY);omega);simp only [hw,mc,hX,hY,go_sem];refine cW (ld (cy [sep] (by simp) (by simpa using aaN) va Oa (by rw [ab,ag,ah];rw [if_pos Pv] at uQ;omega)) [.box X,.box Y,.rows 0 1 [str sep]] 2 rfl rfl (fun _=>rfl) rfl) ?_;rintro _ _ ⟨rfl,O1,v1,ke,rfl⟩;have nn:=congrArg List.length ke;rw [ae] at nn;simp only [hw,mc,hX,hY,go_sem];refine cW (afz (hg i x BZ _ _ (by simp only [Pv,if_true,if_false,ai] at uQ;omega)) (by show (X.all (aI 4)&&(Y.all (aI 4)&&true))=true;rw [hX,hY];rfl) (by show (X.all (aI 4)&&(Y.all (aI 4)&&true))=true;rw [hX,hY];rfl) (blA mc) _) ?_;rintro _ _ ⟨rfl,Oy,vy,jb,rfl⟩;simp only [hw,mc,hX,hY,go_sem];refine fh _ ⟨(i+1,vy,Oy),?_,?_,eU (by omega) (by simp only [hw,mc,hX,hY,go_sem])⟩;(·exact⟨bQ,by rw [qT];simp only [*,if_true,if_false,not_false_eq_true,ab,ag,ah,al,aC]⟩);dsimp only;omega);have Pv:¬ 0<i:=fun h0=>(of_decide_eq_false oY) (by omega:(0:Int)<(i:Int));simp only [hw,mc,hX,hY,go_sem];refine cW (afz (hg i x BZ _ _ (by simp only [Pv,if_true,if_false,ai] at uQ;omega)) (by show (X.all (aI 4)&&(Y.all (aI 4)&&true))=true;rw [hX,hY];rfl) (by show (X.all (aI 4)&&(Y.all (aI 4)&&true))=true;rw [hX,hY];rfl) (blA mc) _) ?_;rintro _ _ ⟨rfl,Oy,vy,jb,rfl⟩;simp only [hw,mc,hX,hY,go_sem];refine fh _ ⟨(i+1,vy,Oy),?_,?_,eU (by omega) (by simp only [hw,mc,hX,hY,go_sem])⟩;(·exact⟨bQ,by rw [qT];simp only [*,if_true,if_false,not_false_eq_true,ab,ag,ah,al,aC]⟩);dsimp only;omega
 have jL:¬ i<L.length:=by simpa using lI
 have kz:i=L.length:=by omega
 rw [kz,az] at mo;simp only [mc,hX,hY,go_sem];exact hK _ _ ⟨rfl,_,_,mo,by first|rfl|(rw [kz];rfl)⟩
theorem xD (g:FuncId) (cs:List V) (L:List (List UInt8)) (n:Nat) (hL:L.length=n) (hL1:n≤1048576) (sep:ByteArray) (aaN:0<sep.size) (X:List V) (Y:List V) (Z:Nat→List V) (mc:aV 5 cs=true) (hX:X.all (aI 5)=true) (hY:Y.all (aI 5)=true) (hZ:∀ i,(Z i).all (aI 5)=true) (hg:∀ (i:Nat) (x:List UInt8),L[i]?=some x→∀ v O,O.length+x.length≤34359738368→∃ r m,WR O x [.box X,.box Y,.box (Z (i+1))] r m∧bo aj g (num i :: cs) (bM 129 v O [.box X,.box Y,.box (Z i)]) r m) (v:Nat) (O:List UInt8) (hO:O.length+(jn (bt sep) L).length≤34359738368):∃ r_ m_,(WR O (jn (bt sep) L) [.box X,.box Y,.box (Z n)]) r_ m_∧bo aj 118 [.ptr 0 0,num n,str sep,.ia (.func g) [] cs] (bM 129 v O [.box X,.box Y,.box (Z 0)]) r_ m_:=by
 refine uJ tt_ok [] 23 [] (5) (ay _) (fn:=Tryz.f118) Tryz.func118 rfl Tryz.call118 ⟨rfl,rfl,by simp⟩ fun K hK=>?_;subst hL;simp only [bM];simp only [mc,hX,hY,hZ,go_sem];refine nM tt_ok [] (fun a:Nat×Nat×List UInt8=>[(0,.ptr 0 0),(2,str sep),(3,.ia (.func g) [] cs),(9,num L.length),(10,num a.1)]) (fun a:Nat×Nat×List UInt8=>bM 129 a.2.1 a.2.2 [.box X,.box Y,.box (Z a.1)]) (fun a=>L.length-a.1) (fun a=>a.1≤L.length∧a.2.2=O++jn (bt sep) (L.take a.1)) ((0,v,O)) 5 (eU (by omega) (by simp only [mc,hX,hY,hZ,dY,go_sem] <;> rfl)) (⟨ck _,by simp [jn]⟩) ?_;rintro⟨i,va,Oa⟩ ⟨hi,mo⟩;try dsimp only at hi mo
 try dsimp only [bM]
 intro Z1 fh;simp only [mc,hX,hY,hZ,go_sem];refine cC (fun lI=>?_) (fun lI=>?_);·(have bQ:i<L.length:=by simpa using lI);have hw:=bN i (by omega);obtain⟨x,BZ⟩:∃ x,L[i]?=some x:=⟨_,au bQ⟩;(have nV:([sep].flatMap bt).length=(bt sep).length:=by simp);have qT:=LF (sep:=bt sep) BZ;have Fi:=XV (bt sep) L (i+1);have uQ:=Fi;rw [qT,ae,ae] at uQ;have uq:=congrArg List.length mo;rw [ae] at uq;simp only [hw,mc,hX,hY,hZ,go_sem];refine cC (fun oY=>?_) (fun oY=>?_);(·(have Pv:0<i:=by have h0:(0:Int)<i:=(by simpa using oY);omega);simp only [hw,mc,hX,hY,hZ,go_sem];refine cW (ld (cy [sep] (by simp) (by simpa using aaN) va Oa (by rw [ab,ag,ah];rw [if_pos Pv] at uQ;omega)) [.box X,.box Y,.box (Z i),.rows 0 1 [str sep]] 3 rfl rfl (fun _=>rfl) rfl) ?_;rintro _ _ ⟨rfl,O1,v1,ke,rfl⟩;have nn:=congrArg List.length ke;rw [ae] at nn;simp only [hw,mc,hX,hY,hZ,go_sem];refine cW (afA (hg i x BZ _ _ (by simp only [Pv,if_true,if_false,ai] at uQ;omega)) (by show (X.all (aI 5)&&(Y.all (aI 5)&&((Z i).all (aI 5)&&true)))=true;rw [hX,hY,hZ];rfl) (by show (X.all (aI 5)&&(Y.all (aI 5)&&((Z (i+1)).all (aI 5)&&true)))=true;rw [hX,hY,hZ];rfl) (blA mc) _) ?_;rintro _ _ ⟨rfl,Oy,vy,jb,rfl⟩;simp only [hw,mc,hX,hY,hZ,go_sem];refine fh _ ⟨(i+1,vy,Oy),?_,?_,eU (by omega) (by simp only [hw,mc,hX,hY,hZ,go_sem])⟩;(·exact⟨bQ,by rw [qT];simp only [*,if_true,if_false,not_false_eq_true,ab,ag,ah,al,aC]⟩);dsimp only;omega);have Pv:¬ 0<i:=fun h0=>(of_decide_eq_false oY) (by omega:(0:Int)<(i:Int));simp only [hw,mc,hX,hY,hZ,go_sem];refine cW (afA (hg i x BZ _ _ (by simp only [Pv,if_true,if_false,ai] at uQ;omega)) (by show (X.all (aI 5)&&(Y.all (aI 5)&&((Z i).all (aI 5)&&true)))=true;rw [hX,hY,hZ];rfl) (by show (X.all (aI 5)&&(Y.all (aI 5)&&((Z (i+1)).all (aI 5)&&true)))=true;rw [hX,hY,hZ];rfl) (blA mc) _) ?_;rintro _ _ ⟨rfl,Oy,vy,jb,rfl⟩;simp only [hw,mc,hX,hY,hZ,go_sem];refine fh _ ⟨(i+1,vy,Oy),?_,?_,eU (by omega) (by simp only [hw,mc,hX,hY,hZ,go_sem])⟩;(·exact⟨bQ,by rw [qT];simp only [*,if_true,if_false,not_false_eq_true,ab,ag,ah,al,aC]⟩);dsimp only;omega
 have jL:¬ i<L.length:=by simpa using lI
 have kz:i=L.length:=by omega
 rw [kz,az] at mo;simp only [mc,hX,hY,hZ,go_sem];exact hK _ _ ⟨rfl,_,_,mo,by first|rfl|(rw [kz];rfl)⟩
end
end
section
theorem aK (l:List UInt8):bt ⟨l.toArray⟩=l:=by simp [bt]
theorem lh:∀ x∈([]:List ByteArray),0<x.size:=fun x hx=>by cases hx
theorem iE {a:ByteArray} {l:List ByteArray} (h:0<a.size) (t:∀ x∈l,0<x.size):∀ x∈a :: l,0<x.size:=fun x hx=>by
 rcases b8.1 hx with rfl|hx
 ·exact h
 exact t x hx
def WT (t:Ty):Prop:=∀ v O,O.length+t.pr.length≤34359738368→∃ r m,WR O t.pr [] r m∧bo aj 38 [.ptr 0 0,bk t] (bM 129 v O []) r m
theorem Hv {t:Ty} (h:WT t) {v:Nat} {O:List UInt8} (hO:O.length+t.pr.length≤34359738368) (l:List bf):∃ r m,WR O t.pr l r m∧bo aj 38 [.ptr 0 0,.agg [num t.kind,str t.mod,str t.name,.slice (t.args.map bk),.slice (t.bA.map dj)]] (.nk 129 1 v O.length :: .n7 5 v O :: l) r m:=by have h:=h v O hO;simp only [aT,aD,aQ,bD] at h;exact tm h (by simp [aI,aV]) _
section
attribute [local go_sem] ax bM
theorem nP (l:List ByteArray) (hl:l.length≤1048576) (hx:∀ x∈l,0<x.size) (v:Nat) (O:List UInt8) (hO:O.length+(l.flatMap bt).length≤34359738368):∃ r_ m_,(WR O (l.flatMap bt) []) r_ m_∧bo aj 53 [.ptr 0 0,.slice (l.map str)] (bM 129 v O []) r_ m_:=by
 refine uJ tt_ok [] 18 [] (2) (ay _) (fn:=Tryz.f53) Tryz.func53 rfl Tryz.call53 ⟨rfl,rfl,by simp⟩ fun K hK=>?_;simp only [bM];simp only [go_sem];refine nM tt_ok [] (fun a:Nat×Nat×List UInt8=>[(0,.ptr 0 0),(6,.slice (l.map str)),(7,num l.length),(8,num a.1)]) (fun a:Nat×Nat×List UInt8=>bM 129 a.2.1 a.2.2 []) (fun a=>l.length-a.1) (fun a=>a.1≤l.length∧a.2.2=O++(l.take a.1).flatMap bt) ((0,v,O)) 2 (eU (by omega) (by simp only [dY,go_sem] <;> rfl)) (⟨ck _,by simp⟩) ?_;rintro⟨i,va,Oa⟩ ⟨hi,mo⟩;try dsimp only at hi mo
 try dsimp only [bM]
 intro Z1 fh;simp only [go_sem];refine cC (fun kh=>?_) (fun kh=>?_);·(have bQ:i<l.length:=by simpa using kh);have hw:=bN i (by omega);obtain⟨x,BZ⟩:∃ x,l[i]?=some x:=⟨_,au bQ⟩;(have dO:(i:Int)<(l.length:Int):=by omega);have qT:=pS bt BZ;have Fi:=wD bt l (i+1);have uQ:=Fi;rw [qT,ae] at uQ;have hxb:=hx x (aE BZ);have uq:=congrArg List.length mo;rw [ae] at uq;simp only [hw,aq,BZ,dO,go_sem];refine cW (Ht (wC afx x hxb va Oa (by rw [dH] at uQ;omega)) rfl rfl []) ?_;rintro _ _ ⟨rfl,O1,v1,ke,rfl⟩;simp only [hw,aq,BZ,dO,go_sem];refine fh _ ⟨(i+1,v1,O1),?_,?_,eU (by omega) (by simp only [hw,go_sem])⟩;(·exact⟨bQ,by rw [ke,mo,qT,al]⟩);dsimp only;omega
 have jL:¬ i<l.length:=by simpa using kh
 have kz:i=l.length:=by omega
 rw [kz,az] at mo;simp only [go_sem];exact hK _ _ ⟨rfl,_,_,mo,rfl⟩
theorem oD (w:ByteArray) (hw:0<w.size) (t:Ty) (hT:WT t) (v:Nat) (O:List UInt8) (hO:O.length+(bt w++([91]++(t.pr++[93]))).length≤34359738368):∃ r_ m_,(WR O (bt w++([91]++(t.pr++[93]))) []) r_ m_∧bo aj 95 [.ptr 0 0,str w,.agg [num t.kind,str t.mod,str t.name,.slice (t.args.map bk),.slice (t.bA.map dj)]] (bM 129 v O []) r_ m_:=by refine uJ tt_ok [] 16 [] (2) (ay _) (fn:=Tryz.f95) Tryz.func95 rfl Tryz.call95 ⟨rfl,rfl,by simp⟩ fun K hK=>?_;simp only [bM];have fJ:=hO;simp only [ae,af,ai] at fJ;simp only [go_sem];refine cW (ld (cy [w,⟨#[91]⟩] (by simp) (iE hw (iE (by decide) lh)) _ _ (by simp only [ab,ag,ah,aK,ae,af,ai];omega)) _ 1 rfl rfl (fun _=>rfl) rfl) ?_;rintro _ _ ⟨rfl,O1,v1,ke,rfl⟩;have nn:=congrArg List.length ke;simp only [ab,ag,ah,aK,ae,af,ai] at nn;simp only [go_sem];refine cW (Hv (hT) (by omega) _) ?_;rintro _ _ ⟨rfl,O2,v2,sH,rfl⟩;have zJ:=congrArg List.length sH;simp only [ab,ag,ah,aK,ae,af,ai] at zJ;simp only [go_sem];refine cW (ld (cy [⟨#[93]⟩] (by simp) (iE (by decide) lh) _ _ (by simp only [ab,ag,ah,aK,ae,af,ai];omega)) _ 2 rfl rfl (fun _=>rfl) rfl) ?_;rintro _ _ ⟨rfl,O3,v3,tp,rfl⟩;have B4:=congrArg List.length tp;simp only [ab,ag,ah,aK,ae,af,ai] at B4;simp only [go_sem];exact hK _ _ ⟨rfl,_,_,by rw [tp,sH,ke];simp only [cP,ab,ag,ah,aK,al],rfl⟩
end
section
attribute [local go_sem] ax aq bM cw aD aQ bD aw aC
theorem NF (l:List Fd) (i:Nat) (x:Fd) (hx:l[i]?=some x) (hl:l.length≤1048576) (hn:0<x.name.size) (hT:WT x.ty) (v:Nat) (O:List UInt8) (hO:O.length+x.pr.length≤34359738368):∃ r_ m_,(WR O x.pr [.box [.ptr 0 0],.box [.slice (l.map dj)]]) r_ m_∧bo aj 182 [num i,.ptr 2 0,.ptr 3 0] (bM 129 v O [.box [.ptr 0 0],.box [.slice (l.map dj)]]) r_ m_:=by
 refine uJ tt_ok [30000] 30 [] (4) (ay _) (fn:=Tryz.f182) Tryz.func182 rfl Tryz.call182 ⟨rfl,rfl,by simp⟩ fun K hK=>?_;simp only [bM];have bQ:=(aA.1 hx).1;have dO:(i:Int)<(l.length:Int):=by omega
 have u1:=x.gV;have fJ:=hO;rw [u1] at fJ;have hof:(if x.opt=true then [63] else ([]:List UInt8)).length≤1:=by split <;> decide
 simp only [ae,af,ai] at fJ;simp only [hx,dO,go_sem];refine ga tt_ok cB [pR,pR,pN,jC [1,2],ql [1,2,3],jC [1,2,3,4],ql [1,2,3,4,5],⟨.z,0,[],[0,1,2,3,4,5,6],[]⟩] 0 kr ?_;simp only [hx,dO,go_sem];refine xq (tm (nP [x.name] (by simp) (iE hn lh) _ _ (by simp only [ab,ag,ah,aK,ae,af,ai];omega)) rfl _) ?_;rintro _ _ ⟨rfl,O1,v1,ke,rfl⟩;have nn:=congrArg List.length ke;simp only [ab,ag,ah,aK,ae,af,ai] at nn;simp only [hx,dO,go_sem];refine sk (n:=30) tt_ok [30000] (fun a:Nat×List UInt8=>[(0,num i),(1,.ptr 2 0),(2,.ptr 3 0)]) (fun a:Nat×List UInt8=>bM 129 a.1 a.2 [.box [.ptr 0 0],.box [.slice (l.map dj)]]) 4 (fun a=>a.2=O++(bt x.name++(if x.opt=true then [63] else []))) (fun Z1 fh=>?_) ?_;·simp only [hx,dO,go_sem];refine cC (fun gh=>?_) (fun gh=>?_);(·simp only [hx,dO,go_sem];refine cW (ld (cy [⟨#[63]⟩] (by simp) (iE (by decide) lh) _ _ (by simp only [ab,ag,ah,aK,ae,af,ai];omega)) _ 2 rfl rfl (fun _=>rfl) rfl) ?_;rintro _ _ ⟨rfl,Oy,vy,jb,rfl⟩;have afB:x.opt=true:=gh;rw [if_pos afB] at fJ;have Bj:=congrArg List.length jb;simp only [ab,ag,ah,aK,ae,af,ai] at Bj;simp only [hx,dO,go_sem];refine fh _ ⟨(vy,Oy),?_,eU (by omega) (by simp only [hx,dO,go_sem])⟩;dsimp only;rw [jb,ke];simp only [cP,gh,if_true,bu,if_false,ab,ag,ah,aK,al]);obtain⟨Oy,jb⟩:∃ y,y=O1:=⟨_,rfl⟩;obtain⟨vy,NH⟩:∃ y,y=v1:=⟨_,rfl⟩;rw [← jb,← NH];simp only [hx,dO,go_sem];refine fh _ ⟨(vy,Oy),?_,eU (by omega) (by simp only [hx,dO,go_sem])⟩;dsimp only;rw [jb,ke];simp only [cP,gh,if_true,bu,if_false,ab,ag,ah,aK,al]
 rintro⟨vb,Ob⟩ nZ;dsimp only at nZ;have zK:=congrArg List.length nZ;simp only [ab,ag,ah,aK,ae,af,ai] at zK;dsimp only [bM];simp only [hx,dO,go_sem];refine cW (ld (cy [⟨#[58,32]⟩] (by simp) (iE (by decide) lh) _ _ (by simp only [ab,ag,ah,aK,ae,af,ai];omega)) _ 2 rfl rfl (fun _=>rfl) rfl) ?_;rintro _ _ ⟨rfl,O3,v3,tp,rfl⟩;have B4:=congrArg List.length tp;simp only [ab,ag,ah,aK,ae,af,ai] at B4;simp only [hx,dO,go_sem];refine ga tt_ok cB [pR,pR,pN,jC [1,2],ql [1,2,3],jC [1,2,3,4],⟨.z,0,[],[0,1,2,3,4,5],[]⟩] 0 kr ?_;simp only [hx,dO,go_sem];refine xq (Hv (hT) (by omega) _) ?_;rintro _ _ ⟨rfl,O4,v4,Ct,rfl⟩;have Fq:=congrArg List.length Ct;simp only [ab,ag,ah,aK,ae,af,ai] at Fq;simp only [hx,dO,go_sem];exact hK _ _ ⟨rfl,_,_,by rw [Ct,tp,nZ,u1];simp only [cP,ab,ag,ah,aK,al],rfl⟩
end
section
attribute [local go_sem] ax aq bM aT aD aQ bD
theorem VI (l:List Ty) (i:Nat) (x:Ty) (hx:l[i]?=some x) (hl:l.length≤1048576) (hT:WT x) (v:Nat) (O:List UInt8) (hO:O.length+x.pr.length≤34359738368):∃ r_ m_,(WR O x.pr [.box [.ptr 0 0],.box [.slice (l.map bk)]]) r_ m_∧bo aj 183 [num i,.ptr 2 0,.ptr 3 0] (bM 129 v O [.box [.ptr 0 0],.box [.slice (l.map bk)]]) r_ m_:=by
 refine uJ tt_ok [] 10 [] (4) (ay _) (fn:=Tryz.f183) Tryz.func183 rfl Tryz.call183 ⟨rfl,rfl,by simp⟩ fun K hK=>?_;simp only [bM];have bQ:=(aA.1 hx).1;have dO:(i:Int)<(l.length:Int):=by omega
 simp only [hx,dO,go_sem];refine ga tt_ok cB [pR,pR,pN,jC [1,2],jC [1,2,3],⟨.z,0,[],[0,1,2,3,4],[]⟩] 0 kr ?_;simp only [hx,dO,go_sem];refine xq (Hv (hT) (by omega) _) ?_;rintro _ _ ⟨rfl,O1,v1,ke,rfl⟩;have nn:=congrArg List.length ke;simp only [ab,ag,ah,aK,ae,af,ai] at nn;simp only [hx,dO,go_sem];exact hK _ _ ⟨rfl,_,_,ke,rfl⟩
end
theorem afC {l:List Fd} (hl:l.length≤1048576) (hn:∀ f∈l,0<f.name.size) (hT:∀ f∈l,WT f.ty):∀ (i:Nat) (x:List UInt8),(l.map Fd.pr)[i]?=some x→∀ v O,O.length+x.length≤34359738368→∃ r m,WR O x [.box [.ptr 0 0],.box [.slice (l.map dj)]] r m∧bo aj 182 (num i :: [.ptr 2 0,.ptr 3 0]) (bM 129 v O [.box [.ptr 0 0],.box [.slice (l.map dj)]]) r m:=by intro i x hx v O hO;rw [aq,aY] at hx;obtain⟨f,hf,rfl⟩:=hx;exact NF l i f hf hl (hn f (aE hf)) (hT f (aE hf)) v O hO
theorem afD {l:List Ty} (hl:l.length≤1048576) (hT:∀ t∈l,WT t):∀ (i:Nat) (x:List UInt8),(l.map Ty.pr)[i]?=some x→∀ v O,O.length+x.length≤34359738368→∃ r m,WR O x [.box [.ptr 0 0],.box [.slice (l.map bk)]] r m∧bo aj 183 (num i :: [.ptr 2 0,.ptr 3 0]) (bM 129 v O [.box [.ptr 0 0],.box [.slice (l.map bk)]]) r m:=by intro i x hx v O hO;rw [aq,aY] at hx;obtain⟨f,hf,rfl⟩:=hx;exact VI l i f hf hl (hT f (aE hf)) v O hO
theorem uR (l:List Fd) (hl:l.length≤1048576) (hn:∀ f∈l,0<f.name.size) (hT:∀ f∈l,WT f.ty) (sep:ByteArray) (hs:0<sep.size) (v:Nat) (O:List UInt8) (hO:O.length+(jn (bt sep) (l.map Fd.pr)).length≤34359738368):∃ r_ m_,(WR O (jn (bt sep) (l.map Fd.pr)) []) r_ m_∧bo aj 96 [.ptr 0 0,.slice (l.map dj),str sep] (bM 129 v O []) r_ m_:=by refine uJ tt_ok [] 12 [] (2) (ay _) (fn:=Tryz.f96) Tryz.func96 rfl Tryz.call96 ⟨rfl,rfl,by simp⟩ fun K hK=>?_;simp only [bM];simp only [ax,bM,go_sem];refine cW (wf2 (tn 182 [.ptr 2 0,.ptr 3 0] (l.map Fd.pr) _ (by simp) hl sep hs [.ptr 0 0] [.slice (l.map dj)] rfl rfl rfl (afC hl hn hT) _ _ hO) rfl rfl rfl _) ?_;rintro _ _ ⟨rfl,O1,v1,ke,rfl⟩;simp only [ax,bM,go_sem];exact hK _ _ ⟨rfl,_,_,ke,rfl⟩
theorem aaO {s:ByteArray} (h:s.size=0):s=⟨#[]⟩:=by obtain⟨⟨l⟩⟩:=s;simp [ByteArray.size] at h;subst h;rfl
structure TyK (t:Ty):Prop where
 k0:0≤t.kind
 k1:t.kind≤8∨t.kind=10
 hd:t.kind=5∨t.kind=8→∃ a r,t.args=a :: r
 fn:∀ f∈t.bA,0<f.name.size
 nm:t.kind=10→0<t.name.size
 la:t.args.length≤1048576
 lf:t.bA.length≤1048576
def Rt (k:Int):ByteArray:=if k=0 then ⟨#[97,110,121]⟩ else if k=1 then ⟨#[110,111,110,101]⟩ else if k=2 then ⟨#[105,110,116]⟩ else if k=3 then ⟨#[98,111,111,108]⟩ else ⟨#[116,101,120,116]⟩
theorem aaP (k:Int):bt (Rt k)=LG k:=by unfold Rt LG;(repeat' split) <;> rfl
theorem VJ (k:Int):0<(Rt k).size:=by unfold Rt;(repeat' split) <;> decide
def arW:V:=.agg [str ⟨#[97,110,121]⟩,str ⟨#[110,111,110,101]⟩,str ⟨#[105,110,116]⟩,str ⟨#[98,111,111,108]⟩,str ⟨#[116,101,120,116]⟩]
theorem bW:xb aj 141 [(0,.string ⟨#[97,110,121]⟩),(1,.string ⟨#[110,111,110,101]⟩),(2,.string ⟨#[105,110,116]⟩),(3,.string ⟨#[98,111,111,108]⟩),(4,.string ⟨#[116,101,120,116]⟩)]=some arW:=kr
theorem iW (k:Int) (h0:0≤k) (h4:k≤4):dE aj (Instr.index 141) arW (num k)=some (str (Rt k)):=by
 have:k=0∨k=1∨k=2∨k=3∨k=4:=by omega
 have e0:dE aj (Instr.index 141) arW (num 0)=some (str (Rt 0)):=kr;have e1:dE aj (Instr.index 141) arW (num 1)=some (str (Rt 1)):=kr;have e2:dE aj (Instr.index 141) arW (num 2)=some (str (Rt 2)):=kr;have e3:dE aj (Instr.index 141) arW (num 3)=some (str (Rt 3)):=kr;have e4:dE aj (Instr.index 141) arW (num 4)=some (str (Rt 4)):=kr;rcases this with h|h|h|h|h <;> rw [h] <;> assumption
section
attribute [local go_sem] ax bM
theorem EL (m n:ByteArray) (hn:0<n.size) (l:List Ty) (hl:l.length≤1048576) (hT:∀ t∈l,WT t) (v:Nat) (O:List UInt8) (hO:O.length+(Ik m n (l.map Ty.pr)).length≤34359738368):∃ r_ m_,(WR O (Ik m n (l.map Ty.pr)) []) r_ m_∧bo aj 97 [.ptr 0 0,str m,str n,.slice (l.map bk)] (bM 129 v O []) r_ m_:=by
 refine uJ tt_ok [30000] 32 [] (2) (ay _) (fn:=Tryz.f97) Tryz.func97 rfl Tryz.call97 ⟨rfl,rfl,by simp⟩ fun K hK=>?_;simp only [bM];obtain⟨q1,pZ⟩:∃ q,(if m=⟨#[]⟩ then [] else bt m++[58,58])=q:=⟨_,rfl⟩;obtain⟨q2,mi⟩:∃ q,(if l.map Ty.pr=[] then [] else [91]++jn [44,32] (l.map Ty.pr)++[93])=q:=⟨_,rfl⟩;have hQ:Ik m n (l.map Ty.pr)=q1++bt n++q2:=by unfold Ik;rw [pZ,mi]
 have fJ:=hO;rw [hQ] at fJ;simp only [ab,ag,ah,aK,ae,af,ai] at fJ;simp only [go_sem];refine sk (n:=32) tt_ok [30000] (fun a:Nat×List UInt8=>[(2,str n),(4,.ptr 2 0),(7,.ptr 3 0)]) (fun a:Nat×List UInt8=>bM 129 a.1 a.2 [.box [.ptr 0 0],.box [.slice (l.map bk)]]) 4 (fun a=>a.2=O++(q1)) (fun Z1 fh=>?_) ?_;·simp only [go_sem];refine cC (fun kh=>?_) (fun kh=>?_);(·have hm1:0<m.size:=zr rfl kh;(have KQ:¬ m=⟨#[]⟩:=by rintro rfl;exact absurd hm1 (by decide));rw [if_neg KQ] at pZ;have BW:=congrArg List.length pZ;simp only [ab,ag,ah,aK,ae,af,ai] at BW;simp only [go_sem];refine cW (ld (cy [m,⟨#[58,58]⟩] (by simp) (iE hm1 (iE (by decide) lh)) _ _ (by simp only [ab,ag,ah,aK,ae,af,ai];omega)) _ 2 rfl rfl (fun _=>rfl) rfl) ?_;rintro _ _ ⟨rfl,Oy,vy,jb,rfl⟩;have Bj:=congrArg List.length jb;simp only [ab,ag,ah,aK,ae,af,ai] at Bj;simp only [go_sem];refine fh _ ⟨(vy,Oy),?_,eU (by omega) (by simp only [go_sem])⟩;dsimp only;rw [jb,← pZ];simp only [cP,if_true,bu,if_false,ab,ag,ah,aK,al]);have hm0:=aaO (vU rfl kh);rw [if_pos hm0] at pZ;obtain⟨Oy,jb⟩:∃ y,y=O:=⟨_,rfl⟩;obtain⟨vy,NH⟩:∃ y,y=v:=⟨_,rfl⟩;rw [← jb,← NH];simp only [go_sem];refine fh _ ⟨(vy,Oy),?_,eU (by omega) (by simp only [go_sem])⟩;dsimp only;rw [jb,← pZ];simp only [cP,if_true,bu,if_false,ab,ag,ah,aK,al]
 rintro⟨vb,Ob⟩ nZ;dsimp only at nZ;have zK:=congrArg List.length nZ;simp only [ab,ag,ah,aK,ae,af,ai] at zK;dsimp only [bM];simp only [go_sem];refine cW (ld (cy [n] (by simp) (iE hn lh) _ _ (by simp only [ab,ag,ah,aK,ae,af,ai];omega)) _ 2 rfl rfl (fun _=>rfl) rfl) ?_;rintro _ _ ⟨rfl,O2,v2,sH,rfl⟩;have zJ:=congrArg List.length sH;simp only [ab,ag,ah,aK,ae,af,ai] at zJ;simp only [go_sem];refine cC (fun JH=>?_) (fun JH=>?_);·(have BU:0<l.length:=by have h0:(0:Int)<(l.length:Int):=(of_decide_eq_true JH);omega);(have hln:¬ l.map Ty.pr=[]:=fun e=>by have e2:=congrArg List.length e;simp at e2;rw [e2] at BU;simp at BU);rw [if_neg hln] at mi;have hqm:=congrArg List.length mi;simp only [ab,ag,ah,aK,ae,af,ai] at hqm;simp only [go_sem];refine cW (ld (cy [⟨#[91]⟩] (by simp) (iE (by decide) lh) _ _ (by simp only [ab,ag,ah,aK,ae,af,ai];omega)) _ 3 rfl rfl (fun _=>rfl) rfl) ?_;rintro _ _ ⟨rfl,O3,v3,tp,rfl⟩;have B4:=congrArg List.length tp;simp only [ab,ag,ah,aK,ae,af,ai] at B4;simp only [go_sem];refine cW (wf2 (tn 183 [.ptr 2 0,.ptr 3 0] (l.map Ty.pr) _ (by simp) hl ⟨#[44,32]⟩ (by decide) [.ptr 0 0] [.slice (l.map bk)] rfl rfl rfl (afD hl hT) _ _ (by rw [aK];omega)) rfl rfl rfl _) ?_;rintro _ _ ⟨rfl,O4,v4,Ct,rfl⟩;have Fq:=congrArg List.length Ct;simp only [ab,ag,ah,aK,ae,af,ai] at Fq;simp only [go_sem];refine cW (ld (cy [⟨#[93]⟩] (by simp) (iE (by decide) lh) _ _ (by simp only [ab,ag,ah,aK,ae,af,ai];omega)) _ 4 rfl rfl (fun _=>rfl) rfl) ?_;rintro _ _ ⟨rfl,O5,v5,Ru,rfl⟩;have OT:=congrArg List.length Ru;simp only [ab,ag,ah,aK,ae,af,ai] at OT;simp only [go_sem];exact hK _ _ ⟨rfl,_,_,by first|(rw [hQ,Ru,Ct,tp,sH,nZ,← mi];simp only [cP,ab,ag,ah,aK,al])|(rw [hQ,sH,nZ,← mi];simp only [cP,ab,ag,ah,aK,al]),rfl⟩
 have BU:¬ 0<l.length:=fun h0=>(of_decide_eq_false JH) (by omega:(0:Int)<(l.length:Int));have hln:l.map Ty.pr=[]:=by rw [auy (by omega:l.length=0)];rfl
 rw [if_pos hln] at mi;simp only [go_sem];exact hK _ _ ⟨rfl,_,_,by first|(rw [hQ,Ru,Ct,tp,sH,nZ,← mi];simp only [cP,ab,ag,ah,aK,al])|(rw [hQ,sH,nZ,← mi];simp only [cP,ab,ag,ah,aK,al]),rfl⟩
end
section
attribute [local go_sem] ax bM aQ bD
theorem NI (t:Ty) (ht:TyK t) (hA:∀ u∈t.args,WT u) (hF:∀ x∈t.bA,WT x.ty) (v:Nat) (O:List UInt8) (hO:O.length+(t.pr).length≤34359738368):∃ r_ m_,(WR O (t.pr) []) r_ m_∧bo aj 38 [.ptr 0 0,bk t] (bM 129 v O []) r_ m_:=by
 refine uJ tt_ok [] 73 [] (2) (ay _) (fn:=Tryz.f38) Tryz.func38 rfl Tryz.call38 ⟨rfl,rfl,by simp⟩ fun K hK=>?_;simp only [bM];have u1:=t.gV;simp only [aT,aD];simp only [go_sem];refine cC (fun xE=>?_) (fun xE=>?_);·(have h5:t.kind=5:=by simpa using xE);rw [if_pos h5] at u1;obtain⟨a,r,ha⟩:=ht.hd (.inl h5);rw [ha] at u1;dsimp only [kB] at u1;have hWa:WT a:=hA a (by rw [ha];exact cV ..);have fJ:=hO;rw [u1] at fJ;simp only [ab,ag,ah,aK,ae,af,ai] at fJ;simp only [ha,bm,aF,bY,bp,aT,aD,go_sem];refine cW (tm (oD ⟨#[108,105,115,116]⟩ (by decide) a hWa _ _ (by simp only [ab,ag,ah,aK,ae,af,ai];omega)) (by simp [aI,aV]) _) ?_;rintro _ _ ⟨rfl,O1,v1,ke,rfl⟩;have nn:=congrArg List.length ke;simp only [ab,ag,ah,aK,ae,af,ai] at nn;simp only [ha,bm,aF,bY,bp,aT,aD,go_sem];exact hK _ _ ⟨rfl,_,_,by rw [u1];simp only [*,ab,ag,ah,aK,al,aw,aC],rfl⟩
 have h5:¬ t.kind=5:=by simpa using xE
 rw [if_neg h5] at u1;simp only [go_sem];refine cC (fun aaR=>?_) (fun aaR=>?_);·(have h6:t.kind=6:=by simpa using aaR);rw [if_pos h6] at u1;have fJ:=hO;rw [u1] at fJ;simp only [ab,ag,ah,aK,ae,af,ai] at fJ;simp only [go_sem];refine cW (ld (cy [⟨#[123]⟩] (by simp) (iE (by decide) lh) _ _ (by simp only [ab,ag,ah,aK,ae,af,ai];omega)) _ 1 rfl rfl (fun _=>rfl) rfl) ?_;rintro _ _ ⟨rfl,O2,v2,sH,rfl⟩;have zJ:=congrArg List.length sH;simp only [ab,ag,ah,aK,ae,af,ai] at zJ;simp only [go_sem];refine cW (tm (uR t.bA ht.lf ht.fn hF ⟨#[44,32]⟩ (by decide) _ _ (by rw [aK];omega)) (by simp [aI,aV]) _) ?_;rintro _ _ ⟨rfl,O3,v3,tp,rfl⟩;have B4:=congrArg List.length tp;simp only [ab,ag,ah,aK,ae,af,ai] at B4;simp only [go_sem];refine cW (ld (cy [⟨#[125]⟩] (by simp) (iE (by decide) lh) _ _ (by simp only [ab,ag,ah,aK,ae,af,ai];omega)) _ 2 rfl rfl (fun _=>rfl) rfl) ?_;rintro _ _ ⟨rfl,O4,v4,Ct,rfl⟩;have Fq:=congrArg List.length Ct;simp only [ab,ag,ah,aK,ae,af,ai] at Fq;simp only [go_sem];exact hK _ _ ⟨rfl,_,_,by rw [u1];simp only [*,ab,ag,ah,aK,al,aw,aC],rfl⟩
 have h6:¬ t.kind=6:=by simpa using aaR
 rw [if_neg h6] at u1;simp only [go_sem];refine cC (fun JI=>?_) (fun JI=>?_);·(have h7:t.kind=7:=by simpa using JI);rw [if_pos h7] at u1;have fJ:=hO;rw [u1] at fJ;simp only [ab,ag,ah,aK,ae,af,ai] at fJ;simp only [go_sem];refine cW (ld (cy [⟨#[60]⟩] (by simp) (iE (by decide) lh) _ _ (by simp only [ab,ag,ah,aK,ae,af,ai];omega)) _ 1 rfl rfl (fun _=>rfl) rfl) ?_;rintro _ _ ⟨rfl,O5,v5,Ru,rfl⟩;have OT:=congrArg List.length Ru;simp only [ab,ag,ah,aK,ae,af,ai] at OT;simp only [go_sem];refine cW (tm (uR t.bA ht.lf ht.fn hF ⟨#[32,124,32]⟩ (by decide) _ _ (by rw [aK];omega)) (by simp [aI,aV]) _) ?_;rintro _ _ ⟨rfl,O6,v6,XW,rfl⟩;have T9:=congrArg List.length XW;simp only [ab,ag,ah,aK,ae,af,ai] at T9;simp only [go_sem];refine cW (ld (cy [⟨#[62]⟩] (by simp) (iE (by decide) lh) _ _ (by simp only [ab,ag,ah,aK,ae,af,ai];omega)) _ 2 rfl rfl (fun _=>rfl) rfl) ?_;rintro _ _ ⟨rfl,O7,v7,hO7,rfl⟩;have hl7:=congrArg List.length hO7;simp only [ab,ag,ah,aK,ae,af,ai] at hl7;simp only [go_sem];exact hK _ _ ⟨rfl,_,_,by rw [u1];simp only [*,ab,ag,ah,aK,al,aw,aC],rfl⟩
 have h7:¬ t.kind=7:=by simpa using JI
 rw [if_neg h7] at u1;simp only [go_sem];refine cC (fun EM=>?_) (fun EM=>?_);·(have h8:t.kind=8:=by simpa using EM);rw [if_pos h8] at u1;obtain⟨a,r,ha⟩:=ht.hd (.inr h8);rw [ha] at u1;dsimp only [kB] at u1;have hWa:WT a:=hA a (by rw [ha];exact cV ..);have fJ:=hO;rw [u1] at fJ;simp only [ab,ag,ah,aK,ae,af,ai] at fJ;simp only [ha,bm,aF,bY,bp,aT,aD,go_sem];refine cW (ld (cy [⟨#[102,110,40]⟩] (by simp) (iE (by decide) lh) _ _ (by simp only [ab,ag,ah,aK,ae,af,ai];omega)) _ 1 rfl rfl (fun _=>rfl) rfl) ?_;rintro _ _ ⟨rfl,O8,v8,hO8,rfl⟩;have VK:=congrArg List.length hO8;simp only [ab,ag,ah,aK,ae,af,ai] at VK;simp only [ha,bm,aF,bY,bp,aT,aD,go_sem];refine cW (tm (uR t.bA ht.lf ht.fn hF ⟨#[44,32]⟩ (by decide) _ _ (by rw [aK];omega)) (by simp [aI,aV]) _) ?_;rintro _ _ ⟨rfl,O9,v9,hO9,rfl⟩;have hl9:=congrArg List.length hO9;simp only [ab,ag,ah,aK,ae,af,ai] at hl9;simp only [ha,bm,aF,bY,bp,aT,aD,go_sem];refine cW (ld (cy [⟨#[41,32]⟩] (by simp) (iE (by decide) lh) _ _ (by simp only [ab,ag,ah,aK,ae,af,ai];omega)) _ 2 rfl rfl (fun _=>rfl) rfl) ?_;rintro _ _ ⟨rfl,O10,v10,aaT,rfl⟩;have aaU:=congrArg List.length aaT;simp only [ab,ag,ah,aK,ae,af,ai] at aaU;simp only [ha,bm,aF,bY,bp,aT,aD,go_sem];refine cW (Hv (hWa) (by omega) _) ?_;rintro _ _ ⟨rfl,O11,v11,NJ,rfl⟩;have Rv:=congrArg List.length NJ;simp only [ab,ag,ah,aK,ae,af,ai] at Rv;simp only [ha,bm,aF,bY,bp,aT,aD,go_sem];exact hK _ _ ⟨rfl,_,_,by rw [u1];simp only [*,ab,ag,ah,aK,al,aw,aC],rfl⟩
 have h8:¬ t.kind=8:=by simpa using EM
 rw [if_neg h8] at u1;simp only [go_sem];refine cC (fun JJ=>?_) (fun JJ=>?_);·(have xe:t.kind=10:=by simpa using JJ);rw [if_pos xe] at u1;have fJ:=hO;rw [u1] at fJ;simp only [go_sem];refine cW (tm (EL t.mod t.name (ht.nm xe) t.args ht.la hA _ _ (by omega)) (by simp [aI,aV]) _) ?_;rintro _ _ ⟨rfl,O12,v12,VL,rfl⟩;simp only [go_sem];exact hK _ _ ⟨rfl,_,_,by rw [u1];simp only [*,ab,ag,ah,aK,al,aw,aC],rfl⟩
 have xe:¬ t.kind=10:=by simpa using JJ
 rw [if_neg xe] at u1;have fJ:=hO;rw [u1] at fJ;have oz:=iW t.kind ht.k0 (by have h1:=ht.k1;omega);have hbw:=aaP t.kind;rw [← hbw] at u1 fJ;simp only [bW,oz,go_sem];refine cW (ld (cy [(Rt t.kind)] (by simp) (iE (VJ _) lh) _ _ (by simp only [ab,ag,ah,aK,ae,af,ai];omega)) _ 1 rfl rfl (fun _=>rfl) rfl) ?_;rintro _ _ ⟨rfl,O13,v13,aaV,rfl⟩;have aaW:=congrArg List.length aaV;simp only [ab,ag,ah,aK,ae,af,ai] at aaW;simp only [bW,oz,go_sem];exact hK _ _ ⟨rfl,_,_,by rw [u1];simp only [*,ab,ag,ah,aK,al,aw,aC],rfl⟩
end
theorem LL (P:Ty→Prop) (hP:∀ t,P t→TyK t∧∀ u∈t.parts,P u):∀ (N:Nat) (t:Ty),t.size≤N→P t→WT t
 | 0,t,h,_=>absurd t.size_pos (by omega)
 | N+1,t,h,ht=>by
  obtain⟨h1,h2⟩:=hP t ht
  have hs:=t.dG
  have hp:∀ u∈t.parts,WT u:=fun u hu=>by
   obtain⟨i,hi⟩:=bB.1 hu
   have:=bU Ty.size hi
   exact LL P hP N u (by omega) (h2 u hu)
  exact NI t h1 (fun u hu=>hp u (dD _ hu)) fun x hx=>hp x.ty (eP _ (aud hx))
end
section
theorem alF (c:UInt8):((c.toNat:Int)).fdiv (2 ^ min (4:Int).toNat IntKind.u8.bits)=((c / 16).toNat:Int):=by
 have h:∀ n:Fin 256,((n.val:Int)).fdiv (2 ^ min (4:Int).toNat IntKind.u8.bits)=((n.val / 16:Nat):Int):=by decide +kernel
 rw [h ⟨c.toNat,c.toNat_lt⟩,auv];rfl
theorem afH (c:UInt8):U6 .u8 (c.toNat:Int) 15=((c % 16).toNat:Int):=by
 have h:∀ n:Fin 256,U6 .u8 (n.val:Int) 15=((n.val % 16:Nat):Int):=by decide +kernel
 rw [h ⟨c.toNat,c.toNat_lt⟩,auw];rfl
def aaX:ByteArray:=⟨#[48,49,50,51,52,53,54,55,56,57,97,98,99,100,101,102]⟩
theorem aaY (d:UInt8) (h:d.toNat<16):aaX[d.toNat]?=some (EI d):=by
 have h1:∀ n:Fin 16,aaX[n.val]?=some (EI (UInt8.ofNat n.val)):=by decide +kernel
 have h2:=h1 ⟨d.toNat,h⟩;simpa using h2
theorem oz (d:UInt8) (h:d.toNat<16):dE aj (Instr.index 9) (str ⟨#[48,49,50,51,52,53,54,55,56,57,97,98,99,100,101,102]⟩) (.sc (.int .u8 (d.toNat:Int)))=some (.sc (.int .u8 ((EI d).toNat:Int))) :=
 ku (P:=aj) aaX Tryz.underlying9 .u8 d.toNat (by omega) (c:=EI d) (by rw [ru];exact aaY d h)
theorem XX {c:UInt8} (h:(c.toNat:Int)=34∨(c.toNat:Int)=92):yS c=[92,c]:=by
 have:c=34∨c=92:=by rcases h with h|h;exact .inl (atY (by show c.toNat=34;omega));exact .inr (atY (by show c.toNat=92;omega))
 unfold yS;rw [if_pos this]
theorem Rw {c:UInt8} (h1:¬ (c.toNat:Int)=34) (h2:¬ (c.toNat:Int)=92):¬ (c=34∨c=92):=by
 rintro (rfl|rfl);·exact h1 rfl
 exact h2 rfl
theorem afI {c:UInt8} (h:(c.toNat:Int)=10):yS c=[92,110]:=by have:c=10:=atY (by show c.toNat=10;omega);subst this;rfl
theorem afJ {c:UInt8} (h1:¬ (c.toNat:Int)=34) (h2:¬ (c.toNat:Int)=92) (h3:32≤(c.toNat:Int)) (h4:(c.toNat:Int)≤126):yS c=[c]:=by unfold yS;rw [if_neg (Rw h1 h2),if_neg (by rintro rfl;exact absurd h3 (by decide)),if_pos ⟨atM.2 (by show 32≤c.toNat;omega),atM.2 (by show c.toNat≤126;omega)⟩]
theorem XY {c:UInt8} (h1:¬ (c.toNat:Int)=34) (h2:¬ (c.toNat:Int)=92) (h3:¬ (c.toNat:Int)=10) (h4:¬ (32≤(c.toNat:Int)∧(c.toNat:Int)≤126)):yS c=[92,120,EI (c / 16),EI (c % 16)]:=by unfold yS;rw [if_neg (Rw h1 h2),if_neg (by rintro rfl;exact h3 rfl),if_neg];rintro⟨h5,h6⟩;have h5:=atM.1 h5;have h6:=atM.1 h6;have e1:(32:UInt8).toNat=32:=rfl;have e2:(126:UInt8).toNat=126:=rfl;rw [e1] at h5;rw [e2] at h6;exact h4 ⟨by omega,by omega⟩
theorem VM (c:UInt8):(yS c).length≤4:=by unfold yS;(repeat' split) <;> simp
theorem VN (l:List UInt8):(l.flatMap yS).length≤4*l.length:=by induction l with|nil=>simp|cons c r ih=>rw [ab,ae,af];have:=VM c;omega
theorem afK {s:ByteArray} {i:Nat} {c:UInt8} (h:s[i]?=some c):(bt s)[i]?=some c:=by obtain⟨⟨l⟩⟩:=s;have h2:∀ (a:Array UInt8) (i:Nat),(ByteArray.mk a)[i]?=a[i]?:=fun a i=>rfl;rw [h2] at h;simpa [bt] using h
theorem afL (d:UInt8) (h:d.toNat<16):dE aj (Instr.index 9) (str ⟨#[48,49,50,51,52,53,54,55,56,57,97,98,99,100,101,102]⟩) (.sc (.int .u8 (d.toNat:Int)))=some (.sc (.int .u8 ((EI d).toNat:Int))):=oz d h
theorem aaZ {T:TypeId} (v:Nat) (O:List UInt8) (h0:O≠[]):∃ r m,(r=str (bs O)∧m=[.nk T 1 v O.length,.rv v 1 (kY O)])∧bo aj 85 [.ptr 0 0] [.nk T 1 v O.length,.n7 5 v O] r m:=⟨_,_,⟨rfl,rfl⟩,Dk v O h0⟩
section
attribute [local go_sem] bM ai
theorem Hw (s:ByteArray) (hs:s.size≤1048576):Cn 112 [str s] (str (bs (LI s))):=by
 refine jq tt_ok [1] 50 [.tmp 2] (fn:=Tryz.f112) Tryz.func112 rfl Tryz.call112 ⟨rfl,rfl,by simp⟩ fun K hK=>?_;have tH:aj.underlying 9=some .string:=Tryz.underlying9;have sl:∀ (a:ByteArray) (ty:TypeId),ko aj (Builtin.len_ #[9] ty) [.sc (.string a)]=some (num a.size):=fun a ty=>kD (P:=aj) (tt:=tt) (T:=9) a tH ty;have bl_:=dH s;simp only [go_sem];refine ae7 tt_ok 5 [1] rfl rfl rfl Xw rfl ?_;simp only [go_sem];refine cW (Ht (jQ wA 34 0 [] (by simp)) rfl rfl []) ?_;rintro _ _ ⟨rfl,O1,v1,ke,rfl⟩;have nn:=congrArg List.length ke;simp only [ab,ag,ah,aK,ae,af,ai] at nn;simp only [go_sem];refine nM tt_ok [1] (fun a:Nat×Nat×List UInt8=>[(0,str s),(3,.ptr 0 0),(8,num s.size),(9,num a.1)]) (fun a:Nat×Nat×List UInt8=>bM 127 a.2.1 a.2.2 []) (fun a=>s.size-a.1) (fun a=>a.1≤s.size∧a.2.2=34 :: ((bt s).take a.1).flatMap yS) ((0,v1,O1)) 2 (eU (by omega) (by simp only [sl,dY,go_sem] <;> rfl)) (⟨ck _,by rw [ke];simp⟩) ?_;clear ke nn;rintro⟨i,va,Oa⟩ ⟨hi,mo⟩;try dsimp only at hi mo
 have uq:=congrArg List.length mo;have hqf:=VN ((bt s).take i);rw [lg] at hqf;rw [af] at uq;try dsimp only [bM]
 intro Z1 fh;simp only [go_sem];refine cC (fun lG=>?_) (fun lG=>?_);·(have bQ:i<s.size:=by simpa using lG);have hw:=bN i (by omega);obtain⟨c,hc⟩:=ji (s:=s) (i:=i) bQ;have oz:=ku (P:=aj) s tH .i64 (i:Int) (by omega) (c:=c) (by rw [ru];exact hc);have qT:=pS yS (afK hc);have lP:=fun x y k=>ZG aj 5 x y .u8 k c.toNat 4 (by omega);have zL:=fun x y=>ZH aj 5 x y .u8 c.toNat 15;simp only [alF] at lP;simp only [afH] at zL;have qO:=afL (c / 16) (by rw [auv];have:=c.toNat_lt;show c.toNat / 16<16;omega);have rk:=afL (c % 16) (by rw [auw];show c.toNat % 16<16;omega);simp only [hw,oz,lP,zL,qO,rk,go_sem];refine cC (fun xF=>?_) (fun xF=>?_);(·have hq:=XX (c:=c) (by first|exact .inl (of_decide_eq_true xF)|exact .inr (of_decide_eq_true Hx));have BW:=congrArg List.length hq;simp only [ab,ag,ah,aK,ae,af,ai] at BW;simp only [hw,oz,lP,zL,qO,rk,go_sem];refine cW (Ht (jQ wA 92 _ _ (by omega)) rfl rfl []) ?_;rintro _ _ ⟨rfl,O2,v2,sH,rfl⟩;have zJ:=congrArg List.length sH;simp only [ab,ag,ah,aK,ae,af,ai] at zJ;simp only [hw,oz,lP,zL,qO,rk,go_sem];refine cW (Ht (jQ wA c _ _ (by omega)) rfl rfl []) ?_;rintro _ _ ⟨rfl,Oy,vy,jb,rfl⟩;have Bj:=congrArg List.length jb;simp only [ab,ag,ah,aK,ae,af,ai] at Bj;simp only [hw,oz,lP,zL,qO,rk,go_sem];refine fh _ ⟨(i+1,vy,Oy),?_,?_,eU (by omega) (by simp only [hw,go_sem])⟩;(·exact⟨bQ,by rw [qT,hq];simp only [*,al,aw,aC]⟩);dsimp only;omega);simp only [hw,oz,lP,zL,qO,rk,go_sem];refine cC (fun Hx=>?_) (fun Hx=>?_);(·have hq:=XX (c:=c) (by first|exact .inl (of_decide_eq_true xF)|exact .inr (of_decide_eq_true Hx));have BW:=congrArg List.length hq;simp only [ab,ag,ah,aK,ae,af,ai] at BW;simp only [hw,oz,lP,zL,qO,rk,go_sem];refine cW (Ht (jQ wA 92 _ _ (by omega)) rfl rfl []) ?_;rintro _ _ ⟨rfl,O4,v4,Ct,rfl⟩;have Fq:=congrArg List.length Ct;simp only [ab,ag,ah,aK,ae,af,ai] at Fq;simp only [hw,oz,lP,zL,qO,rk,go_sem];refine cW (Ht (jQ wA c _ _ (by omega)) rfl rfl []) ?_;rintro _ _ ⟨rfl,Oy,vy,jb,rfl⟩;have Bj:=congrArg List.length jb;simp only [ab,ag,ah,aK,ae,af,ai] at Bj;simp only [hw,oz,lP,zL,qO,rk,go_sem];refine fh _ ⟨(i+1,vy,Oy),?_,?_,eU (by omega) (by simp only [hw,go_sem])⟩;(·exact⟨bQ,by rw [qT,hq];simp only [*,al,aw,aC]⟩);dsimp only;omega);simp only [hw,oz,lP,zL,qO,rk,go_sem];refine cC (fun tJ=>?_) (fun tJ=>?_);(·have hq:=afI (c:=c) (of_decide_eq_true tJ);have BW:=congrArg List.length hq;simp only [ab,ag,ah,aK,ae,af,ai] at BW;simp only [hw,oz,lP,zL,qO,rk,go_sem];refine cW (Ht (wC wA ⟨#[92,110]⟩ (by decide) _ _ (by have e_:(⟨#[92,110]⟩:ByteArray).size=2:=rfl;omega)) rfl rfl []) ?_;rintro _ _ ⟨rfl,Oy,vy,jb,rfl⟩;rw [aK] at jb;have Bj:=congrArg List.length jb;simp only [ab,ag,ah,aK,ae,af,ai] at Bj;simp only [hw,oz,lP,zL,qO,rk,go_sem];refine fh _ ⟨(i+1,vy,Oy),?_,?_,eU (by omega) (by simp only [hw,go_sem])⟩;(·exact⟨bQ,by rw [qT,hq];simp only [*,al,aw,aC]⟩);dsimp only;omega);simp only [hw,oz,lP,zL,qO,rk,go_sem];refine cC (fun EN=>?_) (fun EN=>?_);(·simp only [hw,oz,lP,zL,qO,rk,go_sem];refine cC (fun VO=>?_) (fun VO=>?_);(·have hq:=afJ (c:=c) (of_decide_eq_false xF) (of_decide_eq_false Hx) (of_decide_eq_true EN) (of_decide_eq_true VO);have BW:=congrArg List.length hq;simp only [ab,ag,ah,aK,ae,af,ai] at BW;simp only [hw,oz,lP,zL,qO,rk,go_sem];refine cW (Ht (jQ wA c _ _ (by omega)) rfl rfl []) ?_;rintro _ _ ⟨rfl,Oy,vy,jb,rfl⟩;have Bj:=congrArg List.length jb;simp only [ab,ag,ah,aK,ae,af,ai] at Bj;simp only [hw,oz,lP,zL,qO,rk,go_sem];refine fh _ ⟨(i+1,vy,Oy),?_,?_,eU (by omega) (by simp only [hw,go_sem])⟩;(·exact⟨bQ,by rw [qT,hq];simp only [*,al,aw,aC]⟩);dsimp only;omega);have hq:=XY (c:=c) (of_decide_eq_false xF) (of_decide_eq_false Hx) (of_decide_eq_false tJ) (by first|exact fun h_=>(of_decide_eq_false EN) h_.1|exact fun h_=>(of_decide_eq_false VO) h_.2);have BW:=congrArg List.length hq;simp only [ab,ag,ah,aK,ae,af,ai] at BW;simp only [hw,oz,lP,zL,qO,rk,go_sem];refine cW (Ht (wC wA ⟨#[92,120]⟩ (by decide) _ _ (by have e_:(⟨#[92,120]⟩:ByteArray).size=2:=rfl;omega)) rfl rfl []) ?_;rintro _ _ ⟨rfl,O8,v8,hO8,rfl⟩;rw [aK] at hO8;have VK:=congrArg List.length hO8;simp only [ab,ag,ah,aK,ae,af,ai] at VK;simp only [hw,oz,lP,zL,qO,rk,go_sem];refine cW (Ht (jQ wA (EI (c / 16)) _ _ (by omega)) rfl rfl []) ?_;rintro _ _ ⟨rfl,O9,v9,hO9,rfl⟩;have hl9:=congrArg List.length hO9;simp only [ab,ag,ah,aK,ae,af,ai] at hl9;simp only [hw,oz,lP,zL,qO,rk,go_sem];refine cW (Ht (jQ wA (EI (c % 16)) _ _ (by omega)) rfl rfl []) ?_;rintro _ _ ⟨rfl,Oy,vy,jb,rfl⟩;have Bj:=congrArg List.length jb;simp only [ab,ag,ah,aK,ae,af,ai] at Bj;simp only [hw,oz,lP,zL,qO,rk,go_sem];refine fh _ ⟨(i+1,vy,Oy),?_,?_,eU (by omega) (by simp only [hw,go_sem])⟩;(·exact⟨bQ,by rw [qT,hq];simp only [*,al,aw,aC]⟩);dsimp only;omega);have hq:=XY (c:=c) (of_decide_eq_false xF) (of_decide_eq_false Hx) (of_decide_eq_false tJ) (by first|exact fun h_=>(of_decide_eq_false EN) h_.1|exact fun h_=>(of_decide_eq_false VO) h_.2);have BW:=congrArg List.length hq;simp only [ab,ag,ah,aK,ae,af,ai] at BW;simp only [hw,oz,lP,zL,qO,rk,go_sem];refine cW (Ht (wC wA ⟨#[92,120]⟩ (by decide) _ _ (by have e_:(⟨#[92,120]⟩:ByteArray).size=2:=rfl;omega)) rfl rfl []) ?_;rintro _ _ ⟨rfl,O11,v11,NJ,rfl⟩;rw [aK] at NJ;have Rv:=congrArg List.length NJ;simp only [ab,ag,ah,aK,ae,af,ai] at Rv;simp only [hw,oz,lP,zL,qO,rk,go_sem];refine cW (Ht (jQ wA (EI (c / 16)) _ _ (by omega)) rfl rfl []) ?_;rintro _ _ ⟨rfl,O12,v12,VL,rfl⟩;have aa0:=congrArg List.length VL;simp only [ab,ag,ah,aK,ae,af,ai] at aa0;simp only [hw,oz,lP,zL,qO,rk,go_sem];refine cW (Ht (jQ wA (EI (c % 16)) _ _ (by omega)) rfl rfl []) ?_;rintro _ _ ⟨rfl,Oy,vy,jb,rfl⟩;have Bj:=congrArg List.length jb;simp only [ab,ag,ah,aK,ae,af,ai] at Bj;simp only [hw,oz,lP,zL,qO,rk,go_sem];refine fh _ ⟨(i+1,vy,Oy),?_,?_,eU (by omega) (by simp only [hw,go_sem])⟩;(·exact⟨bQ,by rw [qT,hq];simp only [*,al,aw,aC]⟩);dsimp only;omega
 have jL:¬ i<s.size:=by simpa using lG
 have kz:i=s.size:=by omega
 rw [kz,← bl_,az] at mo;simp only [go_sem];refine cW (Ht (jQ wA 34 _ _ (by omega)) rfl rfl []) ?_;rintro _ _ ⟨rfl,Oy,vy,jb,rfl⟩;have Bj:=congrArg List.length jb;simp only [ab,ag,ah,aK,ae,af,ai] at Bj;simp only [go_sem];refine cW (aaZ _ _ (by rw [jb];simp)) ?_;rintro _ _ ⟨rfl,rfl⟩;simp only [go_sem];exact hK _ (by rw [jb,mo];rfl)
end
end
section
def iq (s:ByteArray):V:=.dR [num (rm s).1,.agg [num (rm s).2.1,num (rm s).2.2]]
theorem bO (a b:Int):xb aj 210 [(0,.int .i64 a),(1,.int .i64 b)]=some (.agg [num a,num b]):=kr
theorem bO1 (a:Int):xb aj 210 [(0,.int .i64 a)]=some (.agg [num a,num 0]):=kr
section
attribute [local go_sem] dZ bO bO1
theorem yz (s:ByteArray):Cn 200 [str s] (iq s):=by
 refine jq tt_ok [] 28 [.tmp 2,.cell 3 210] (fn:=Tryz.f200) Tryz.func200 rfl Tryz.call200 ⟨rfl,rfl,by simp⟩ fun K hK=>?_;simp only [go_sem];refine cC (fun VQ=>?_) (fun VQ=>?_) <;> simp only [go_sem];·exact hK _ (by simp_all [iq,rm])
 refine cC (fun hc8=>?_) (fun hc8=>?_) <;> simp only [go_sem];·exact hK _ (by simp_all [iq,rm])
 refine cC (fun lI=>?_) (fun lI=>?_) <;> simp only [go_sem];·exact hK _ (by simp_all [iq,rm])
 refine cC (fun oY=>?_) (fun oY=>?_) <;> simp only [go_sem];·exact hK _ (by simp_all [iq,rm])
 refine cC (fun oY=>?_) (fun oY=>?_) <;> simp only [go_sem];·exact hK _ (by simp_all [iq,rm])
 refine cC (fun oY=>?_) (fun oY=>?_) <;> simp only [go_sem];·exact hK _ (by simp_all [iq,rm])
 refine cC (fun mR=>?_) (fun mR=>?_) <;> simp only [go_sem];·exact hK _ (by simp_all [iq,rm])
 refine cC (fun mR=>?_) (fun mR=>?_) <;> simp only [go_sem];·exact hK _ (by simp_all [iq,rm])
 refine cC (fun mR=>?_) (fun mR=>?_) <;> simp only [go_sem];·exact hK _ (by simp_all [iq,rm])
 refine cC (fun Hx=>?_) (fun Hx=>?_) <;> simp only [go_sem];·exact hK _ (by simp_all [iq,rm])
 exact hK _ (by simp_all [iq,rm])
end
theorem Rx (x:Ex):Cn 198 [br x] (num x.lvl):=by
 refine jq tt_ok [] 30 [.tmp 2] (fn:=Tryz.f198) Tryz.func198 rfl Tryz.call198 ⟨rfl,rfl,by simp⟩ fun K hK=>?_;simp only [bn,aP];simp only [iq,go_sem];refine cC (fun JK=>?_) (fun JK=>?_) <;> simp only [iq,go_sem];·exact hK _ (by simp_all [Ex.lvl])
 refine cC (fun JK=>?_) (fun JK=>?_) <;> simp only [iq,go_sem];·exact hK _ (by simp_all [Ex.lvl])
 refine cC (fun JK=>?_) (fun JK=>?_) <;> simp only [iq,go_sem];·exact hK _ (by simp_all [Ex.lvl])
 refine cC (fun JK=>?_) (fun JK=>?_) <;> simp only [iq,go_sem];·exact hK _ (by simp_all [Ex.lvl])
 refine cC (fun JK=>?_) (fun JK=>?_) <;> simp only [iq,go_sem];·exact hK _ (by simp_all [Ex.lvl])
 refine cC (fun xE=>?_) (fun xE=>?_) <;> simp only [iq,go_sem];·refine ep (yz x.name) ?_;simp only [iq,go_sem];exact hK _ (by simp_all [Ex.lvl])
 refine cC (fun JL=>?_) (fun JL=>?_) <;> simp only [iq,go_sem];·exact hK _ (by simp_all [Ex.lvl])
 refine cC (fun JL=>?_) (fun JL=>?_) <;> simp only [iq,go_sem];·exact hK _ (by simp_all [Ex.lvl])
 refine cC (fun Ry=>?_) (fun Ry=>?_) <;> simp only [iq,go_sem];·refine cC (fun Rz=>?_) (fun Rz=>?_) <;> simp only [iq,go_sem];(·exact hK _ (by simp_all [Ex.lvl]));exact hK _ (by simp_all [Ex.lvl])
 exact hK _ (by simp_all [Ex.lvl])
end
def Ty.vars (t:Ty):List ByteArray:=(t.nodes.filter fun u=>decide (u.kind=9)).map Ty.name
section
attribute [local irreducible] runM fq oS cY kP vN C0
def zM (a b:ByteArray):Bool:=Op.bytesLess a.toList b.toList
end
end Go.Proofs.YtfbbfmcggbapoaaGreatDoor
end
