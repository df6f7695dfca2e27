import Derived.Test.YtfbbfmcggbapoaaGreatDoorJ3
import Derived.Lib.ItoaNum
import Derived.Lib.ItoaLen
import Derived.Lib.Builder
import Derived.Lib.AppendStr
import Derived.Lib.UnsafeStr
import Derived.Lib.Walk
import Derived.Lib.Small
import Derived.Laws.Externs
import Derived.Shelf.RegionOpenPlain
open Array renaming toArray_toList→cE,toList_inj→ahi
open Bool renaming and_eq_true→aL,and_true→aO,eq_false_iff→arL,eq_iff_iff→gu,false_eq_true→bF,not_true→aY,or_eq_true→gv,or_false→a6,or_true→bf,true_and→aP
open ByteArray renaming ext→arB
open Go.Proofs.Tryz renaming prog→aj
open Int renaming cast_ofNat_Int→dC,le_refl→cf,toNat_natCast→nK,toNat_zero→bJ
open List renaming all_append→kK,all_cons→cH,all_eq_true→aZ,all_nil→dS,any_eq_true→tV,append_assoc→aA,append_nil→ah,cons_append→ay,eq_nil_of_length_eq_zero→j8,ext_getElem?→dM,flatMap_append→pU,flatMap_cons→ae,flatMap_nil→ag,foldl_append→acI,foldl_cons→ew,getElem?_append_left→bA,getElem?_append_right→a8,getElem?_cons_zero→aJ,getElem?_eq_getElem→aw,getElem?_eq_some_iff→az,getElem?_map→ak,getElem?_set→bX,headD_cons→bh,length_append→ab,length_cons→af,length_map→au,length_nil→ai,length_set→arq,length_singleton→aru,length_take→cQ,map_append→pM,map_cons→bT,map_nil→jo,mem_append→ib,mem_append_left→jq,mem_append_right→kS,mem_cons→cI,mem_cons_of_mem→ct,mem_cons_self→cA,mem_flatMap→iN,mem_iff_getElem?→cb,mem_map→eI,mem_map_of_mem→arR,mem_of_getElem?→aE,mem_or_eq_of_mem_set→asz,mem_singleton→dq,nil_append→aC,replicate_succ→aH,replicate_zero→aI,set_append_right→eH,set_cons_succ→bw,set_cons_zero→bo,take_add_one→bY,take_append_drop→kT,take_left→rq,take_length→al,take_nil→z8,take_of_length_le→bR,take_succ_cons→gf
open Nat renaming add_sub_cancel_left→ee,le_refl→aB,le_trans→fX,sub_self→dR,sub_zero→ap6,zero_add→cr,zero_le→bj
open Option renaming bind_some→lW,isNone_none→abY,map_eq_some_iff→bc,map_some→cx,toList_some→asn
open Option.some renaming inj→mB,injEq→aF
open Prod.mk renaming injEq→dy
open UInt8 renaming le_iff_toNat_le→arv,toNat_div→ar8,toNat_mod→ar9
open UInt8.toNat renaming inj→arH
set_option linter.all false
section
namespace Go.Proofs.YtfbbfmcggbapoaaGreatDoor
open Go.Eng
variable [bB]
open Nat renaming reduceAdd → zA, reduceLT → zB, reduceLeDiff → zC, reduceMul → zD, reduceEqDiff → zE, reduceSub → zF
set_option maxHeartbeats 4000000
set_option maxRecDepth 100000
section
section
variable {α:Type} [DecidableEq α]
def uW (kv:α→Value):Nat→List (α×V)→List (Value×Nat×V)
 | _,[]=>[]
 | n,(k,v) :: r=>(kv k,n,v) :: uW kv (n+1) r
theorem Bt (kv:α→Value):∀ (g:List (α×V)) (n:Nat),(uW kv n g).length=g.length
 | [],_=>rfl
 | _ :: r,n=>by simp [uW,Bt kv r (n+1)]
theorem LI (kv:α→Value):∀ (g:List (α×V)) (n i:Nat),(uW kv n g)[i]?=g[i]?.map fun e=>(kv e.1,n+i,e.2)
 | [],_,_=>rfl
 | e :: r,n,0=>rfl
 | e :: r,n,i+1=>by
  show (uW kv (n+1) r)[i]?=_
  rw [LI kv r (n+1) i,show n+1+i=n+(i+1) by omega];rfl
theorem HK (kv:α→Value) (k:α) (v:V):∀ (g:List (α×V)) (n:Nat),uW kv n (g++[(k,v)])=uW kv n g++[(kv k,n+g.length,v)]
 | [],_=>rfl
 | e :: r,n=>by
  show (kv e.1,n,e.2) :: uW kv (n+1) (r++[(k,v)])=(kv e.1,n,e.2) :: (uW kv (n+1) r++_)
  rw [HK kv k v r (n+1),af,show n+1+r.length=n+(r.length+1) by omega]
theorem LJ (kv:α→Value) (k:α) (v:V):∀ (g:List (α×V)) (n i:Nat),i<g.length→uW kv n (g.set i (k,v))=(uW kv n g).set i (kv k,n+i,v)
 | [],_,_,h=>by simp at h
 | e :: r,n,0,_=>rfl
 | e :: r,n,i+1,h=>by
  show (kv e.1,n,e.2) :: uW kv (n+1) (r.set i (k,v))=(kv e.1,n,e.2) :: (uW kv (n+1) r).set i _
  rw [LJ kv k v r (n+1) i (by simpa using h),show n+1+i=n+(i+1) by omega]
theorem LK (kv:α→Value) (p:V→Bool):∀ (g:List (α×V)) (n:Nat),((uW kv n g).all fun e=>p e.2.2)=g.all fun e=>p e.2
 | [],_=>rfl
 | _ :: r,n=>by simp [uW,LK kv p r (n+1)]
def np (a:α):List (α×V)→Nat→Option (Nat×V)
 | [],_=>none
 | e :: r,i=>if e.1=a then some (i,e.2) else np a r (i+1)
def getM (a:α):List (α×V)→Option V
 | []=>none
 | e :: r=>if e.1=a then some e.2 else getM a r
theorem DB (a:α):∀ (g:List (α×V)) (i:Nat),(np a g i).map (·.2)=getM a g
 | [],_=>rfl
 | e :: r,i=>by
  unfold np getM
  split
  ·rfl
  exact DB a r (i+1)
theorem wF {a:α}:∀ {g:List (α×V)} {n i:Nat} {v:V},np a g n=some (i,v)→n≤i∧g[i-n]?=some (a,v)
 | [],_,_,_,h=>by simp [np] at h
 | e :: r,n,i,v,h=>by
  unfold np at h
  split at h
  ·rename_i he;cases h;subst he;simp
  obtain⟨h1,h2⟩:=wF h
  refine⟨by omega,?_⟩
  rw [show i-n=(i-(n+1))+1 by omega];simpa using h2
structure KT (P:Program) (T kt et:TypeId) (kv:α→Value) (ky:α→V):Prop where
 map:jw P T=some (kt,et)
 val:∀ a,fe (ky a)=some (kv a)
 ok:∀ a,tY P kt (kv a)=true
 bits:∀ a,Instr.sameBits 10000 (kv a) (kv a)=true
 find:∀ (a:α) (g:List (α×V)),pW P kt (kv a) (uW kv 0 g)=some (np a g 0)
theorem KT.now {P:Program} {kt:TypeId} {kv:α→Value} {d:TypeDesc} (hd:P.underlying kt=some d) (h:∀ a b,Instr.sameNow d (kv a) (kv b)=some (decide (b=a))) (a:α) (g:List (α×V)):pW P kt (kv a) (uW kv 0 g)=some (np a g 0):=by
 have key:∀ (g:List (α×V)) (n i:Nat),gX d (kv a) (uW kv n g) i=some (np a g i):=by intro g;induction g with|nil=>intro n i;rfl|cons e r ih =>intro n i;obtain⟨k,v⟩:=e;simp only [uW,gX,np,h];by_cases hk:k=a;(·simp [hk]);rw [decide_eq_false hk,if_neg hk];exact ih _ _
 unfold pW;rw [hd];dsimp only;rw [key]
section
variable {P:Program} {T kt et:TypeId} {kv:α→Value} {ky:α→V}
def Np (a:α) (v:V) (g:List (α×V)):List (α×V):=match np a g 0 with
 | none=>g++[(a,v)]
 | some (i,_)=>g.set i (a,v)
theorem KT.put (h:KT P T kt et kv ky) (a:α) (v:V) (g:List (α×V)) {mem:List bx} {b:Nat} (hm:mem[b]?=some (.map (uW kv 0 g) g.length)) :
  dU P mem T (.mp b) (ky a) v=some (mem.set b (.map (uW kv 0 (Np a v g)) (Np a v g).length)):=by unfold dU;rw [h.map];dsimp only;rw [h.val];dsimp only;rw [if_pos (h.ok a),hm];dsimp only;unfold insertAt;rw [h.find];unfold Np;cases hf:np a g 0 with|none =>dsimp only;rw [HK,cr,ab,aru]|some p =>obtain⟨i,w⟩:=p;obtain⟨-,h2⟩:=wF hf;rw [ap6] at h2;dsimp only;rw [LI,h2];dsimp only [cx];rw [if_pos (h.bits a)];dsimp only;rw [LJ _ _ _ _ _ _ (az.1 h2).1,arq]
theorem KT.get (h:KT P T kt et kv ky) (a:α) (g:List (α×V)) {mem:List bx} {b:Nat} (hm:mem[b]?=some (.map (uW kv 0 g) g.length)) {z:V} (hz:zeroV P et=some z) (ok:Bool) :
  kB P mem T (.mp b) (ky a) ok=some (VY ok (getM a g).isSome ((getM a g).getD z)):=by unfold kB;rw [h.map];dsimp only;rw [h.val];dsimp only;rw [if_pos (h.ok a)];unfold pX;dsimp only;rw [hm];dsimp only;rw [h.find,← DB a g 0];cases hf:np a g 0 with|none=>dsimp only;rw [hz];rfl|some p=>rfl
end
end
end
def strVal (s:ByteArray):Value:=.string s
theorem aer {T et:TypeId} (h:jw aj T=some (9,et)):KT aj T 9 et strVal str :=
 ⟨h,fun _=>rfl,fun a=>by unfold tY;rw [Tryz.underlying9],fun a=>(tq a a).2 rfl,
  KT.now Tryz.underlying9 fun a b=>by
   show some (a==b)=some (decide (b=a))
   congr 1
   rw [gu,tq,decide_eq_true_eq]
   exact⟨fun h=>h.symm,fun h=>h.symm⟩⟩
theorem ZO:jw aj 217=some (9,4):=kr
theorem aes:KT aj 217 9 4 strVal str:=aer ZO
abbrev GN:=List (ByteArray×V)
def wG (g:GN) (x:ByteArray):GN:=Np x (bl true) g
def eE (g:GN) (l:List ByteArray):GN:=l.foldl wG g
theorem U7 (g:GN) (x:ByteArray) {mem:List bx} {b:Nat} (hm:mem[b]?=some (.map (uW strVal 0 g) g.length)):dU aj mem 217 (.mp b) (str x) (bl true)=some (mem.set b (.map (uW strVal 0 (wG g x)) (wG g x).length)):=aes.put x (bl true) g hm
structure NG (g:GN):Prop where
 ZP:∀ e∈g,e.2=bl true
 nodup:(g.map fun e=>e.1).Nodup
theorem uX {a:ByteArray}:∀ {g:GN} {n:Nat},np a g n=none→∀ e∈g,e.1≠a
 | [],_,_,e,he=>by cases he
 | c :: r,n,h,e,he=>by
  unfold np at h
  split at h
  ·cases h
  rename_i dL
  rcases cI.1 he with rfl|he
  ·exact dL
  exact uX h e he
theorem NG.nil:NG []:=⟨fun e he=>(by cases he),List.nodup_nil⟩
theorem HL {g:GN} {i:Nat} {x:ByteArray} {v w:V} (h:g[i]?=some (x,v)):(g.set i (x,w)).map (fun e=>e.1)=g.map fun e=>e.1:=by
 rw [List.map_set];apply dM;intro j;rw [bX];split;·rename_i IP;subst IP;have bL:=(az.1 h).1;rw [if_pos (by simpa using bL),ak,h];rfl
 rfl
theorem NG.add {g:GN} (h:NG g) (x:ByteArray):NG (wG g x)∧(∀ k,k∈(wG g x).map (fun e=>e.1)↔k=x∨k∈g.map fun e=>e.1)∧(wG g x).length≤g.length+1:=by unfold wG Np;cases hf:np x g 0 with|none =>(dsimp only;refine⟨⟨fun e he=>?_,?_⟩,fun k=>?_,by simp⟩;(·(rcases ib.1 he with he|he);(·exact h.ZP e he);rw [dq] at he;subst he;rfl);(·rw [pM,List.nodup_append];refine⟨h.nodup,by simp,fun a ha b hb=>?_⟩;obtain⟨e,he,rfl⟩:=eI.1 ha;simp only [bT,jo,dq] at hb;subst hb;exact uX hf e he);rw [pM,ib];simp only [bT,jo,dq];exact Or.comm)|some p =>obtain⟨i,v⟩:=p;obtain⟨-,h2⟩:=wF hf;rw [ap6] at h2;dsimp only;refine⟨⟨fun e he=>?_,?_⟩,fun k=>?_,by simp⟩;(·(rcases asz he with he|rfl);(·exact h.ZP e he);rfl);(·rw [HL h2];exact h.nodup);rw [HL h2];constructor;(·exact .inr);rintro (rfl|h);(·exact eI.2 ⟨_,aE h2,rfl⟩);exact h
theorem NG.eE:∀ {l:List ByteArray} {g:GN},NG g→NG (eE g l)∧(∀ k,k∈(eE g l).map (fun e=>e.1)↔k∈l∨k∈g.map fun e=>e.1)∧(eE g l).length≤g.length+l.length
 | [],g,h=>⟨h,fun k=>⟨.inr,fun h=>h.resolve_left (by simp)⟩,by simp [Go.Proofs.YtfbbfmcggbapoaaGreatDoor.eE]⟩
 | x :: l,g,h=>by
  obtain⟨h1,h2,h3⟩:=h.add x
  obtain⟨h4,h5,h6⟩:=NG.eE (l:=l) h1
  refine⟨h4,fun k=>?_,by have:Go.Proofs.YtfbbfmcggbapoaaGreatDoor.eE g (x :: l)=Go.Proofs.YtfbbfmcggbapoaaGreatDoor.eE (wG g x) l:=rfl;rw [this,af];omega⟩
  have:Go.Proofs.YtfbbfmcggbapoaaGreatDoor.eE g (x :: l)=Go.Proofs.YtfbbfmcggbapoaaGreatDoor.eE (wG g x) l:=rfl
  rw [this,h5 k,h2 k,cI]
  constructor
  ·rintro (h|h|h)
   ·exact .inl (.inr h)
   ·exact .inl (.inl h)
   exact .inr h
  rintro ((h|h)|h)
  ·exact .inr (.inl h)
  ·exact .inl h
  exact .inr (.inr h)
theorem HM {α:Type} (f:α→ByteArray) (g:GN) {l:List α} {i:Nat} {x:α} (h:l[i]?=some x):eE g ((l.take (i+1)).map f)=wG (eE g ((l.take i).map f)) (f x):=by unfold eE;rw [bY,h,pM,acI];rfl
theorem NG.below {g:GN} (h:NG g) (n:Nat):((uW strVal 0 g).all fun e=>aG n e.2.2)=true:=by rw [LK strVal (aG n),aZ];intro e he;rw [h.ZP e he];rfl
def y8:List ByteArray→Bool
 | []=>false
 | a :: r=>rC a r||y8 r
theorem LL (x:ByteArray) (l m:List ByteArray):rC x (l++m)=(rC x l||rC x m):=by unfold rC;rw [List.any_append]
theorem DC (x:ByteArray):∀ l:List ByteArray,y8 (l++[x])=(y8 l||rC x l)
 | []=>rfl
 | a :: r=>by
  have e1:rC a [x]=rC x [a]:=by
   unfold rC
   simp only [List.any_cons,List.any_nil,a6]
   by_cases h:a=x
   ·rw [decide_eq_true h,decide_eq_true h.symm]
   rw [decide_eq_false h,decide_eq_false fun e=>h e.symm]
  have e2:rC x (a :: r)=(rC x [a]||rC x r):=LL x [a] r
  simp only [ay,y8,DC x r,LL,e1,e2]
  cases rC a r <;> cases rC x [a] <;> cases y8 r <;> cases rC x r <;> rfl
theorem QX (g:GN) (x:ByteArray):(x∈g.map (fun e=>e.1)→(wG g x).length=g.length)∧(x ∉ g.map (fun e=>e.1)→(wG g x).length=g.length+1):=by unfold wG Np;cases hf:np x g 0 with|none =>dsimp only;refine⟨fun h=>?_,fun _=>by simp⟩;obtain⟨e,he,hx⟩:=eI.1 h;exact absurd hx (uX hf e he)|some p =>obtain⟨i,v⟩:=p;obtain⟨-,h2⟩:=wF hf;rw [ap6] at h2;dsimp only;exact⟨fun _=>by rw [arq],fun h=>absurd (eI.2 ⟨_,aE h2,rfl⟩) h⟩
theorem HN (l:List ByteArray):∀ m:List ByteArray,(eE [] l).length≤l.length→decide ((eE [] l).length<l.length)=y8 l→(eE [] (l++m)).length≤(l++m).length∧decide ((eE [] (l++m)).length<(l++m).length)=y8 (l++m):=by intro m;induction m generalizing l with|nil=>intro h1 h2;rw [ah];exact⟨h1,h2⟩|cons x m ih =>intro h1 h2;(have e0:l++x :: m=(l++[x])++m:=by simp);(have e:eE [] (l++[x])=wG (eE [] l) x:=by unfold eE;rw [acI];rfl);(have hm:x∈(eE [] l).map (fun e=>e.1)↔x∈l:=by have:=(NG.eE (l:=l) NG.nil).2.1 x;simpa using this);have hl:=QX (eE [] l) x;rw [e0];refine ih (l++[x]) ?_ ?_;(·rw [e,ab,aru];by_cases hx:x∈l;(·rw [hl.1 (hm.2 hx)];omega);rw [hl.2 fun h=>hx (hm.1 h)];omega);rw [e,DC,← h2,ab,aru];by_cases hx:x∈l;(·rw [hl.1 (hm.2 hx),E6.2 hx,bf];exact decide_eq_true (by omega));have hb:rC x l=false:=arL.2 fun h=>hx (E6.1 h);rw [hl.2 fun h=>hx (hm.1 h),hb,a6];congr 1;rw [eq_iff_iff];omega
theorem Kb (l:List ByteArray):(eE [] l).length≤l.length∧decide ((eE [] l).length<l.length)=y8 l:=HN [] l (aB _) rfl
theorem U8 {mem:List bx} {b:Nat} (g:GN) (c:Nat) (hm:mem[b]?=some (.map (uW strVal 0 g) c)):xh mem #[217] aj [.mp b]=some (num g.length):=by unfold xh;have h:jw aj 217=some (9,4):=kr;simp [h,hm,Bt]
section
def Ex.own (e:Ex):List Ty:=e.types++if e.kind=8 then e.labels.map Lb.ty else []
mutual
def Ex.size:Ex→Nat
 | .mk k _ _ _ _ ts ls ks=>1+aS Ty.size (ts++if k=8 then ls.map Lb.ty else [])+zV ks
def zV:List Ex→Nat
 | []=>0
 | e :: r=>e.size+zV r
end
mutual
def Ex.nodes:Ex→List Ex
 | .mk k m n t i ts ls ks=>.mk k m n t i ts ls ks :: wH ks
def wH:List Ex→List Ex
 | []=>[]
 | e :: r=>e.nodes++wH r
end
theorem HO (ts:List Ex):wH ts=ts.flatMap Ex.nodes:=by induction ts with|nil=>rfl|cons t r ih=>simp [wH,ih]
theorem Kc (ts:List Ex):zV ts=aS Ex.size ts:=by induction ts with|nil=>rfl|cons t r ih=>simp [zV,aS,ih]
theorem Ex.er (t:Ex):t.nodes=t :: t.kids.flatMap Ex.nodes:=by obtain⟨k,m,n,x,i,ts,ls,ks⟩:=t;simp only [Ex.nodes,Ex.kids,HO]
theorem Ex.size_eq (t:Ex):t.size=1+aS Ty.size t.own+aS Ex.size t.kids:=by obtain⟨k,m,n,x,i,ts,ls,ks⟩:=t;rw [Ex.size,Kc];rfl
theorem Ex.size_pos (t:Ex):0<t.size:=by rw [Ex.size_eq];omega
theorem Ex.qn (t:Ex):1+aS Ex.size t.kids≤t.size:=by rw [Ex.size_eq];omega
theorem Ex.Bu:∀ (N:Nat) (t:Ex),t.size≤N→aS (fun e=>1+aS Ty.size e.own) t.nodes=t.size:=by intro N;induction N with|zero=>intro t h;have:=t.size_pos;omega|succ N ih =>intro t hN;have h1:=t.size_eq;(have gen:∀ (l:List Ex),aS Ex.size l≤N→aS (fun e=>1+aS Ty.size e.own) (l.flatMap Ex.nodes)=aS Ex.size l:=by intro l;induction l with|nil=>intro _;rfl|cons a r QP =>intro hl;simp only [aS] at hl ⊢;rw [ae,fC,ih a (by omega),QP (by omega)]);rw [Ex.er];simp only [aS];rw [gen _ (by omega)];omega
def Lb.dv (l:Lb):Nat:=1+l.ty.size
mutual
def Ex.dv:Ex→Nat
 | .mk _ _ _ _ _ ts ls ks=>1+aS Ty.size ts+aS Lb.dv ls+zW ks
def zW:List Ex→Nat
 | []=>0
 | e :: r=>e.dv+zW r
end
theorem Kd (ts:List Ex):zW ts=aS Ex.dv ts:=by induction ts with|nil=>rfl|cons t r ih=>simp [zW,aS,ih]
theorem Ex.tv (t:Ex):t.dv=1+aS Ty.size t.types+aS Lb.dv t.labels+aS Ex.dv t.kids:=by obtain⟨k,m,n,x,i,ts,ls,ks⟩:=t;rw [Ex.dv,Kd];rfl
theorem Ex.ia (t:Ex):0<t.dv:=by rw [Ex.tv];omega
theorem Ex.qo (t:Ex):1+aS Ex.dv t.kids≤t.dv:=by rw [Ex.tv];omega
theorem Ex.lM (t:Ex):t.kids.length<t.dv:=by have:=ch Ex.dv Ex.ia t.kids;rw [Ex.tv];omega
theorem Lb.ia (l:Lb):0<l.dv:=by unfold Lb.dv;omega
theorem Ex.Bv (t:Ex):aS Ty.size t.own+1+aS Ex.dv t.kids≤t.dv:=by
 rw [Ex.tv,Ex.own,fC];have:aS Ty.size (if t.kind=8 then t.labels.map Lb.ty else [])≤aS Lb.dv t.labels:=by split;(·rw [jT];generalize t.labels=l;induction l with|nil=>simp [aS]|cons a r ih=>simp only [aS,Lb.dv] at ih ⊢;omega);simp [aS]
 omega
theorem Ex.wI (t:Ex):t.types.length+t.labels.length<t.dv:=by have h1:=ch Ty.size Ty.size_pos t.types;have h2:=ch Lb.dv Lb.ia t.labels;rw [Ex.tv];omega
theorem Ex.kJ:∀ (N:Nat) (t:Ex),t.dv≤N→t.size≤t.dv:=by intro N;induction N with|zero=>intro t h;have:=t.ia;omega|succ N ih =>intro t hN;have h1:=t.Bv;rw [Ex.size_eq];(have gen:∀ (l:List Ex),aS Ex.dv l≤N→aS Ex.size l≤aS Ex.dv l:=by intro l;induction l with|nil=>intro _;simp [aS]|cons a r QP =>intro hl;simp only [aS] at hl ⊢;have:=ih a (by omega);have:=QP (by omega);omega);have:=gen t.kids (by omega);omega
section
variable {σ:Type} {M:σ→List bx} {n k k1 k2:Nat}
theorem QY (hn:∀ s,(M s).length=n) (hk:k<n) (iw:k1<n) (kG:k2<n) (h1:∀ s,(M s)[k1]?=some (.box [.j9 k])) (h2:∀ s,(M s)[k2]?=some (.box [.iU (.func 187) [] [.ptr k1 0,.ptr k2 0]])) (hb:∀ s,(M s).all (aK n)=true)
  (step:σ→Ex→σ×Bool) (G:σ→Prop) (hG:∀ s u,G s→(step s u).2=true→G (step s u).1) {B:Nat} (hB:B≤1048576) (Pd:Ex→Prop) (hy:∀ s u,G s→u.dv≤B→Pd u→IS aj k [bH u] (M s) (step s u).2 (M (step s u).1)) :
  ∀ (N:Nat) (t:Ex) (s:σ),G s→(∀ v∈t.nodes,Pd v)→t.dv≤N→N≤B→bI aj 187 [bH t,.ptr k1 0,.ptr k2 0] (M s) (bl (dE step s t.nodes).2) (M (dE step s t.nodes).1):=by
 have g0:∀ s (l:List bx),(M s++l)[n]?=l[0]?:=fun s l=>by rw [a8 (by rw [hn];exact aB _),hn,dR]
 have g1:∀ s (l:List bx),(M s++l)[n+1]?=l[1]?:=fun s l=>by rw [a8 (by rw [hn];omega),hn,ee]
 have W3:∀ s (l:List bx),(M s++l)[k1]?=some (.box [.j9 k]):=fun s l=>by rw [bA (by rw [hn];exact iw)];exact h1 s
 have gk2:∀ s (l:List bx),(M s++l)[k2]?=some (.box [.iU (.func 187) [] [.ptr k1 0,.ptr k2 0]]):=fun s l=>by rw [bA (by rw [hn];exact kG)];exact h2 s
 have gs:∀ s (l:List bx) X,(M s++l).set n X=M s++l.set 0 X:=fun s l X=>by rw [eH _ _ (by rw [hn];exact aB _),hn,dR]
 have gt:∀ s (l:List bx),(M s++l).take n=M s:=fun s l=>by rw [← hn s,rq]
 have W4:∀ s,(M s).take n=M s:=fun s=>by rw [bR (by rw [hn];exact aB _)]
 have fy:∀ s u (l:List bx),G s→u.dv≤B→Pd u→IS aj k [bH u] (M s++l) (step s u).2 (M (step s u).1++l):=fun s u l hg hu hp=>by refine (hy s u hg hu hp).frame (by rw [hn];exact hk) ?_ (by rw [hn];exact hb s) (by rw [hn,hn]) (by rw [hn];exact hb _) l;rw [bk];simp [aG,aQ,aX]
 intro N;induction N with|zero=>intro t s hg hP h;have:=t.ia;omega|succ N ih =>intro t s hg hP hN hNB;have vj:=t.lM;have nZ:=t.qo;have QM:=ch Ex.dv Ex.ia t.kids;have dL:=t.er;have QQ:=fun l=>fy s t l hg (by omega) (hP t (by rw [t.er];simp));(have W5:∀ u s (l:List bx),G s→(∀ v∈u.nodes,Pd v)→u.dv≤N→bI aj 187 [bH u,.ptr k1 0,.ptr k2 0] (M s++l) (bl (dE step s u.nodes).2) (M (dE step s u.nodes).1++l):=fun u s l hg hq hu=>by refine (ih u s hg hq hu (by omega)).frame ?_ (by rw [hn];exact hb s) rfl (by rw [hn,hn]) (by rw [hn];exact hb _) l;rw [bk,hn];simp [aG,aQ,aX,iw,kG]);simp only [bk,aX] at W5;refine ov tt_ok (fn:=Tryz.f187) n (by rw [hn];exact aB _) Tryz.func187 rfl Tryz.call187 ?_;simp only [cZ,cO,Tryz.ntmps187,af,ai,zA,zF,aH,aI];rw [bk] at QQ ⊢;simp only [aX] at QQ ⊢;refine aq tt_ok fun K hK=>?_;simp only [hn,go_sem];refine hK _ ?_;refine bE ?_;refine aq tt_ok fun K hK=>?_;simp only [W3,g0,hn,go_sem];refine .inl ⟨_,_,QQ _,?_⟩;(try simp only [go_sem]);refine hK _ ?_;cases QR:(step s t).2 with|false =>refine bd rfl ?_;refine aq tt_ok fun K hK=>?_;simp only [go_sem];refine hK _ ?_;refine cn ⟨.inl rfl,?_⟩;(have oN:dE step s t.nodes=((step s t).1,false):=by rw [dL];simp [dE,QR]);rw [oN];exact⟨rfl,rfl,by dsimp only;rw [gt];exact hb _,(gt _ _).symm⟩|true =>refine bd rfl (cw ?_);show ek _ _ _ _ _ _;refine bE ?_;refine aq tt_ok fun K hK=>?_;simp only [W3,g0,hn,cJ,go_sem];refine hK _ ?_;obtain⟨ps,Bn⟩:∃ ps,ps=t.kids:=⟨_,rfl⟩;rw [← Bn] at nZ QM dL ⊢;have hPp:∀ u∈ps,∀ v∈u.nodes,Pd v:=fun u hu v hv=>hP v (by rw [dL];exact ct _ (iN.2 ⟨u,hu,hv⟩));refine bU (dj (fun N st=>∃ (i:Nat) (s':σ),G s'∧N=ps.length-i∧i≤ps.length∧dE step s (t :: (ps.take i).flatMap Ex.nodes)=(s',true) ∧ st = { fr:=[.undef,.ptr k1 0,.ptr k2 0,.undef,.undef,.undef,.undef,.undef,.undef,.undef,.undef,.undef,.slice (oF ps),num ps.length,num i]++List.replicate 8 .undef,mem:=M s' }) ps.length ?_ ?_);(·refine⟨n,(false::true::true::(rp 9 false [true,true,true])),by rw [hn];exact aB _,by simp only [aW,aG,aQ,aK,zB,iw,kG,ef],by dsimp only;rw [gt];exact hb _,0,(step s t).1,hG s t hg QR,by omega,by omega,by simp [dE,QR],?_⟩;dsimp only;rw [gt];rfl);rintro N' st ⟨i,s',Gp,rfl,hi,QS,rfl⟩;simp only [cZ,aH,aI];by_cases bL:i<ps.length;(·have hd:=iR bL;refine aq tt_ok fun K hK=>?_;simp only [cJ,hd,go_sem];refine hK _ ?_;refine bE (bd rfl (cw ?_));refine bE (bU ?_);obtain⟨u,hu⟩:∃ u,ps[i]?=some u:=⟨_,aw bL⟩;have ZM:=b9 Ex.dv hu;have j7:=fun l=>W5 u s' l Gp (hPp u (aE hu)) (by omega);(have zT:(ps.take (i+1)).flatMap Ex.nodes=(ps.take i).flatMap Ex.nodes++u.nodes:=by rw [bY,hu];simp);(have DA:dE step s (t :: (ps.take (i+1)).flatMap Ex.nodes)=dE step s' u.nodes:=by rw [zT,← ay,jB,QS];simp);refine aq tt_ok fun K hK=>?_;simp only [fc,hu,bk,aX,hn,g0,gs,go_sem];refine hK _ ?_;refine aq tt_ok fun K hK=>?_;simp only [gk2,g0,hn,go_sem];(refine .inr <| .inl ⟨_,_,j7 _,?_⟩);(try simp only [go_sem]);refine hK _ ?_;cases QT:(dE step s' u.nodes).2 with|false =>refine bd rfl ?_;refine aq tt_ok fun K hK=>?_;simp only [go_sem];refine hK _ ?_;refine cn ⟨.inl rfl,?_⟩;(have oN:dE step s t.nodes=((dE step s' u.nodes).1,false):=by (have Bq:ps.flatMap Ex.nodes=(ps.take (i+1)).flatMap Ex.nodes++(ps.drop (i+1)).flatMap Ex.nodes:=by rw [← pU,kT]);rw [dL,Bq,← ay,jB,DA,QT];simp);rw [oN];exact⟨rfl,rfl,by dsimp only;rw [gt];exact hb _,(gt _ _).symm⟩|true =>refine bd rfl (cw ?_);show ek _ _ _ _ _ _;refine a7 tt_ok fun K hK=>?_;simp only [go_sem];refine hK _ ?_;have ix:=bm i (by omega);rw [ix];refine⟨ps.length-(i+1),by omega,n,(false::true::true::(rp 9 false [true,true,true])),by rw [hn];exact aB _,by simp only [aW,aG,aQ,aK,zB,iw,kG,ef],by dsimp only;rw [gt];exact hb _,i+1,(dE step s' u.nodes).1,ra step hG _ _ Gp QT,rfl,bL,by rw [DA,← QT],?_⟩;dsimp only;rw [gt];rfl);have hd:=iS bL;refine aq tt_ok fun K hK=>?_;simp only [cJ,hd,go_sem];refine hK _ ?_;refine bE (bd rfl (ep ?_));(have lh:i=ps.length:=by omega);subst lh;show ek _ _ _ _ _ _;refine aq tt_ok fun K hK=>?_;simp only [go_sem];refine hK _ ?_;refine cn ⟨.inl rfl,?_⟩;rw [al] at QS;rw [dL,QS];exact⟨rfl,rfl,by dsimp only;rw [W4];exact hb _,(W4 _).symm⟩
end
theorem HP (t:Ex) (m:List bx) (hb:m.all (aK (m.length+1))=true):bI aj 104 [bH t] m (.iU (.func 186) [] [.ptr m.length 0]) (m++[.box (aX t)]):=by
 refine ov tt_ok (fn:=Tryz.f104) (m.length+1) (by omega) Tryz.func104 rfl Tryz.call104 ?_;simp only [cZ,cO,Tryz.ntmps104,af,ai,zA,zF,aH,aI];rw [bk];simp only [aX];refine aq tt_ok fun K hK=>?_;simp only [go_sem];refine hK _ ?_;refine aq tt_ok fun K hK=>?_;simp only [go_sem];refine hK _ ?_;have ht:∀ B:bx,(m++[B]).take (m.length+1)=m++[B]:=fun B=>bR (by simp);refine cn ⟨.inl rfl,rfl,by simp [aG,aQ],?_,?_⟩;·dsimp only;rw [ht];simp [hb,aK,aG,aQ]
 dsimp only;rw [ht]
section
variable {σ:Type} {M:σ→List bx} {n k kt:Nat}
theorem QZ (hn:∀ s,(M s).length=n) (hk:k<n) (Nl:kt<n) {t:Ex} (h1:∀ s,(M s)[kt]?=some (.box (aX t))) (hb:∀ s,(M s).all (aK n)=true)
  (step:σ→Ex→σ×Bool) (G:σ→Prop) (hG:∀ s u,G s→(step s u).2=true→G (step s u).1) {B:Nat} (hB:B≤1048576) (Pd:Ex→Prop) (hy:∀ s u,G s→u.dv≤B→Pd u→IS aj k [bH u] (M s) (step s u).2 (M (step s u).1)) (ht:t.dv≤B) (hP:∀ v∈t.nodes,Pd v) (s:σ) (hs:G s) :
  bI aj 186 [.j9 k,.ptr kt 0] (M s) (.eg []) (M (dE step s t.nodes).1):=by
 have g0:∀ s (l:List bx),(M s++l)[n]?=l[0]?:=fun s l=>by rw [a8 (by rw [hn];exact aB _),hn,dR]
 have g1:∀ s (l:List bx),(M s++l)[n+1]?=l[1]?:=fun s l=>by rw [a8 (by rw [hn];omega),hn,ee]
 have W6:∀ s (l:List bx),(M s++l)[kt]?=some (.box (aX t)):=fun s l=>by rw [bA (by rw [hn];exact Nl)];exact h1 s
 have gs:∀ s (l:List bx) X,(M s++l).set (n+1) X=M s++l.set 1 X:=fun s l X=>by rw [eH _ _ (by rw [hn];omega),hn,ee]
 have gt:∀ s (l:List bx),(M s++l).take n=M s:=fun s l=>by rw [← hn s,rq]
 have hw:∀ s,G s→bI aj 187 [bH t,.ptr n 0,.ptr (n+1) 0] (M s++[.box [.j9 k],.box [.iU (.func 187) [] [.ptr n 0,.ptr (n+1) 0]]]) (bl (dE step s t.nodes).2) (M (dE step s t.nodes).1++[.box [.j9 k],.box [.iU (.func 187) [] [.ptr n 0,.ptr (n+1) 0]]]):=fun s hs=>by refine QY (M:=fun s=>M s++[.box [.j9 k],.box [.iU (.func 187) [] [.ptr n 0,.ptr (n+1) 0]]]) (n:=n+2) (k:=k) (k1:=n) (k2:=n+1) (fun s=>by simp [hn]) (by omega) (by omega) (by omega) (fun s=>g0 _ _) (fun s=>g1 _ _) (fun s=>?_) step G hG hB Pd (fun s u hg hu hq=>?_) t.dv t s hs hP (aB _) ht;(·rw [kK,aL];refine⟨qO (by omega) (hb s),?_⟩;simp [aK,aG,aQ];omega);refine (hy s u hg hu hq).frame (by rw [hn];exact hk) ?_ (by rw [hn];exact hb s) (by rw [hn,hn]) (by rw [hn];exact hb _) _;rw [bk];simp [aG,aQ,aX]
 refine ov tt_ok (fn:=Tryz.f186) n (by rw [hn];exact aB _) Tryz.func186 rfl Tryz.call186 ?_;simp only [cZ,cO,Tryz.ntmps186,af,ai,zA,zF,aH,aI];have um:=hw s hs;rw [bk] at um;simp only [aX] at um W6;refine aq tt_ok fun K hK=>?_;simp only [hn,go_sem];refine hK _ ?_;refine aq tt_ok fun K hK=>?_;simp only [hn,ab,aA,go_sem];refine hK _ ?_;refine aq tt_ok fun K hK=>?_;simp only [hn,g1,gs,go_sem];refine hK _ ?_;refine a7 tt_ok fun K hK=>?_;simp only [hn,g1,W6,go_sem];refine .inr <| .inl ⟨_,_,um,?_⟩
 try simp only [go_sem]
 refine hK _ ?_;refine⟨.inr rfl,rfl,rfl,?_,?_⟩;·dsimp only;rw [gt];exact hb _
 dsimp only;rw [gt]
theorem Bw {n0:Nat} {st:St} {Q:Exit→St→Prop} {f:Operand} {params:Array Tmp} {assign body:Code} {t:Ex} (pre:σ→List bx) (s0:σ) (n kt:Nat) (ng:st.mem=pre s0) (hn:∀ s,(pre s).length=n) (Nl:kt<n)
  (ht:∀ s,(pre s)[kt]?=some (.box (aX t))) (hb:∀ s,(pre s).all (aK (n+1))=true) (zw:st.fr.all (aG (n+1))=true) (hf:st.eval f = .iU (.func 186) [] [.ptr kt 0]) (hp:params.size=1) (step:σ→Ex→σ×Option Code) {B:Nat} (hB:B≤1048576) (kO:t.dv≤B) (Pd:Ex→Prop) (hPt:∀ v∈t.nodes,Pd v)
  (Br:∀ s u,u.dv≤B→Pd u→∀ (l:Nat) (LR LB:bx),aK (n+1) LR=true→aK (n+1) LB=true→ek aj (some l) (n+1) assign { fr:=o7 params.toList [bH u] st.fr,mem:=pre s++[LR] } fun ex tK=>ex = .normal∧tK.mem[n]?=some LR ∧
   ek aj (some l) (n+1) body { tK with mem:=tK.mem.set n LB } fun ex zI=>si ex=some (step s u).2∧zI.mem[n]?=some LB∧zI.mem.take n=pre (step s u).1)
  (hq:match (jg step s0 t.nodes).2 with
   | none=>Q .normal { st with mem:=pre (jg step s0 t.nodes).1++[.dead] }
   | some c=>ek aj none n0 c { st with mem:=pre (jg step s0 t.nodes).1++[.dead] } Q):ek aj none n0 (.rangeFunc f params assign body) st Q:=by
 have hlen:st.mem.length=n:=by rw [ng,hn]
 have gn:∀ s X,(pre s++[X])[n]?=some X:=fun s X=>by rw [a8 (by rw [hn];exact aB _),hn,dR];rfl
 have gk:∀ s X,(pre s++[X])[kt]?=some (.box (aX t)):=fun s X=>by rw [bA (by rw [hn];exact Nl)];exact ht s
 have HJ:∀ s (X Y:bx),(pre s++[X]).set n Y=pre s++[Y]:=fun s X Y=>by rw [eH _ _ (by rw [hn];exact aB _),hn,dR];rfl
 have yN:∀ (s:σ) (a:LoopState) (b:Option Code),(pre s++[bx.loop a b st.fr params assign body]).all (aK (n+1))=true:=fun s a b=>by rw [kK,aL];exact⟨hb s,by simp only [cH,dS,aO,aK];exact zw⟩
 have it:=QZ (M:=fun s:σ×Option Code=>pre s.1++[.loop (if s.2.isNone then .ready else .done) s.2 st.fr params assign body]) (n:=n+1) (k:=n) (kt:=kt) (t:=t) (fun s=>by simp [hn]) (by omega) (by omega) (fun s=>gk _ _) (fun s=>yN _ _ _)
  (wE step) (fun s=>s.2=none) (fun s u hs h=>by simpa [wE] using h) hB Pd (fun s u hs hu hq=>by
   obtain⟨s,j⟩:=s
   simp only at hs;subst hs
   refine sj (fr:=st.fr) (params:=params) (assign:=assign) (body:=body) (gn _ _) (by simp [hp]) fun l=>?_
   have hl:(pre s++[bx.loop .ready none st.fr params assign body]).length=n+1:=by simp [hn]
   simp only [abY,if_true,hl]
   refine ek.mono (Br s u hu hq l (.loop .ready none st.fr params assign body) (.loop .busy none st.fr params assign body) zw zw) ?_
   rintro ex tK ⟨h1,h2,h3⟩
   refine⟨h1,h2,ek.mono h3 ?_⟩
   rintro ex zI ⟨h4,h5,h6⟩
   refine⟨_,h4,rfl,h5,?_,?_⟩
   ·rw [take_set (hn _) h5 h6];exact yN _ _ _
   rw [take_set (hn _) h5 h6];rfl) kO hPt (s0,none) rfl
 rw [zU] at it;refine pI (g:=186) (vs:=[.j9 n,.ptr kt 0]) (by rw [hf,hlen];rfl) (by rw [ng];exact it) ?_;rw [hlen];refine⟨_,_,_,_,_,_,gn _ _,?_,?_⟩;·cases (jg step s0 t.nodes).2 <;> simp
 generalize hj:(jg step s0 t.nodes).2=j at hq;cases j with|none=>dsimp only at hq ⊢;rw [HJ];exact hq|some c=>dsimp only at hq ⊢;rw [HJ];exact hq
theorem Nq {n0:Nat} {st:St} {Q:Exit→St→Prop} {f:Operand} {params:Array Tmp} {assign body:Code} {t:Ex} (pre:σ→List bx) (s0:σ) (n kt:Nat) (ng:st.mem=pre s0) (hn:∀ s,(pre s).length=n) (Nl:kt<n)
  (ht:∀ s,(pre s)[kt]?=some (.box (aX t))) (hb:∀ s,(pre s).all (aK (n+1))=true) (zw:st.fr.all (aG (n+1))=true) (hf:st.eval f = .iU (.func 186) [] [.ptr kt 0]) (hp:params.size=1) (step:σ→Ex→σ×Option Code) {B:Nat} (hB:B≤1048576) (kO:t.dv≤B)
  (Br:∀ s u,u.dv≤B→∀ (l:Nat) (LR LB:bx),aK (n+1) LR=true→aK (n+1) LB=true→ek aj (some l) (n+1) assign { fr:=o7 params.toList [bH u] st.fr,mem:=pre s++[LR] } fun ex tK=>ex = .normal∧tK.mem[n]?=some LR ∧
   ek aj (some l) (n+1) body { tK with mem:=tK.mem.set n LB } fun ex zI=>si ex=some (step s u).2∧zI.mem[n]?=some LB∧zI.mem.take n=pre (step s u).1)
  (hq:match (jg step s0 t.nodes).2 with
   | none=>Q .normal { st with mem:=pre (jg step s0 t.nodes).1++[.dead] }
   | some c=>ek aj none n0 c { st with mem:=pre (jg step s0 t.nodes).1++[.dead] } Q):ek aj none n0 (.rangeFunc f params assign body) st Q :=
 Bw pre s0 n kt ng hn Nl ht hb zw hf hp step hB kO (fun _=>True) (fun _ _=>trivial) (fun s u hu _=>Br s u hu) hq
end
end
mutual
def Ty.wt:Ty→Nat
 | .mk _ m n ts fs=>1+m.size+n.size+HQ ts+HR fs
def HQ:List Ty→Nat
 | []=>0
 | t :: r=>t.wt+HQ r
def Fd.wt:Fd→Nat
 | .mk n (.mk _ m n' ts fs) _=>1+n.size+m.size+n'.size+HQ ts+HR fs
def HR:List Fd→Nat
 | []=>0
 | f :: r=>f.wt+HR r
end
theorem Fd.gA (f:Fd):f.wt=f.name.size+f.ty.wt:=by obtain⟨n',⟨k,m,n,ts,fs⟩,o⟩:=f;simp only [Fd.wt,Ty.wt,Fd.name,Fd.ty];omega
theorem DD (ts:List Ty):HQ ts=aS Ty.wt ts:=by induction ts with|nil=>rfl|cons t r ih=>simp [HQ,aS,ih]
theorem DE (ts:List Fd):HR ts=aS Fd.wt ts:=by induction ts with|nil=>rfl|cons t r ih=>simp [HR,aS,ih]
theorem Ty.gA (t:Ty):t.wt=1+t.mod.size+t.name.size+aS Ty.wt t.args+aS Fd.wt t.bD:=by obtain⟨k,m,n,ts,fs⟩:=t;simp only [Ty.wt,DD,DE,Ty.mod,Ty.name,Ty.args,Ty.bD]
theorem wJ {α:Type} {g h:α→Nat} (hle:∀ a,g a≤h a) (l:List α):aS g l≤aS h l:=by induction l with|nil=>exact aB _|cons a r ih=>simp only [aS];have:=hle a;omega
theorem Ty.wK (t:Ty):1+t.mod.size+t.name.size+aS Ty.wt t.parts≤t.wt:=by rw [t.gA,Ty.parts,fC,jT];have:=wJ (g:=fun f:Fd=>f.ty.wt) (h:=Fd.wt) (fun f=>by rw [f.gA];omega) t.bD;omega
theorem Ty.HS:∀ (N:Nat) (t:Ty),t.size≤N→t.size≤t.wt:=by intro N;induction N with|zero=>intro t h;have:=t.size_pos;omega|succ N ih =>intro t hN;have h1:=t.dB;have h2:=t.wK;(have gen:∀ (l:List Ty),aS Ty.size l≤N→aS Ty.size l≤aS Ty.wt l:=by intro l;induction l with|nil=>intro _;exact aB _|cons a r QP =>intro hl;simp only [aS] at hl ⊢;have:=ih a (by omega);have:=QP (by omega);omega);have:=gen t.parts (by omega);omega
theorem Ty.fF (t:Ty):t.size≤t.wt:=Ty.HS _ t (aB _)
theorem Ty.xQ:∀ (N:Nat) (t:Ty),t.size≤N→∀ v∈t.nodes,v.wt≤t.wt:=by intro N;induction N with|zero=>intro t h;have:=t.size_pos;omega|succ N ih =>intro t hN v hv;have h1:=t.dB;have h2:=t.wK;rw [t.er] at hv;(rcases cI.1 hv with rfl|hv);(·exact aB _);obtain⟨p,hp,hv⟩:=iN.1 hv;obtain⟨i,hi⟩:=cb.1 hp;have e1:=b9 Ty.size hi;have e2:=b9 Ty.wt hi;have:=ih p (by omega) v hv;omega
theorem Ty.qp {t v:Ty} (hv:v∈t.nodes):v.wt≤t.wt:=Ty.xQ _ t (aB _) v hv
theorem Ty.mod_lt (t:Ty):t.mod.size<t.wt:=by rw [t.gA];omega
theorem Ty.aet {t:Ty} {n:Nat} (h:t.wt≤n+1):∀ v∈t.nodes,v.mod.size≤n:=fun v hv=>by have:=Ty.qp hv;have:=v.mod_lt;omega
def Lb.wt (l:Lb):Nat:=1+l.name.size+l.var.size+l.ty.wt
mutual
def Ex.wt:Ex→Nat
 | .mk _ m n t _ ts ls ks=>1+m.size+n.size+t.size+aS Ty.wt ts+aS Lb.wt ls+LM ks
def LM:List Ex→Nat
 | []=>0
 | e :: r=>e.wt+LM r
end
theorem HT (ts:List Ex):LM ts=aS Ex.wt ts:=by induction ts with|nil=>rfl|cons t r ih=>simp [LM,aS,ih]
theorem Ex.gA (t:Ex):t.wt=1+t.mod.size+t.name.size+t.text.size+aS Ty.wt t.types+aS Lb.wt t.labels+aS Ex.wt t.kids:=by obtain⟨k,m,n,x,i,ts,ls,ks⟩:=t;rw [Ex.wt,HT];rfl
theorem Ex.HU:∀ (N:Nat) (t:Ex),t.dv≤N→t.dv≤t.wt:=by intro N;induction N with|zero=>intro t h;have:=t.ia;omega|succ N ih =>intro t hN;have h1:=t.tv;have h2:=t.gA;(have gen:∀ (l:List Ex),aS Ex.dv l≤N→aS Ex.dv l≤aS Ex.wt l:=by intro l;induction l with|nil=>intro _;exact aB _|cons a r QP =>intro hl;simp only [aS] at hl ⊢;have:=ih a (by omega);have:=QP (by omega);omega);have h3:=gen t.kids (by omega);have h4:=wJ (g:=Ty.size) (h:=Ty.wt) Ty.fF t.types;have h5:=wJ (g:=Lb.dv) (h:=Lb.wt) (fun l=>by unfold Lb.dv Lb.wt;have:=l.ty.fF;omega) t.labels;omega
theorem Ex.gI (t:Ex):t.dv≤t.wt:=Ex.HU _ t (aB _)
theorem Ex.xQ:∀ (N:Nat) (t:Ex),t.dv≤N→∀ v∈t.nodes,v.wt≤t.wt:=by intro N;induction N with|zero=>intro t h;have:=t.ia;omega|succ N ih =>intro t hN v hv;have h1:=t.qo;have h2:=t.gA;rw [t.er] at hv;(rcases cI.1 hv with rfl|hv);(·exact aB _);obtain⟨p,hp,hv⟩:=iN.1 hv;obtain⟨i,hi⟩:=cb.1 hp;have e1:=b9 Ex.dv hi;have e2:=b9 Ex.wt hi;have:=ih p (by omega) v hv;omega
theorem Ex.qp {t v:Ex} (hv:v∈t.nodes):v.wt≤t.wt:=Ex.xQ _ t (aB _) v hv
theorem Ex.Ke {e:Ex} {p:Ty} (hp:p∈e.own):p.wt<e.wt:=by
 have h:=e.gA;unfold Ex.own at hp;rcases ib.1 hp with hp|hp
 ·obtain⟨i,hi⟩:=cb.1 hp;have:=b9 Ty.wt hi;omega
 split at hp;·obtain⟨l,hl,rfl⟩:=eI.1 hp;obtain⟨i,hi⟩:=cb.1 hl;have h1:=b9 Lb.wt hi;have h2:l.wt=1+l.name.size+l.var.size+l.ty.wt:=rfl;omega
 cases hp
theorem Ex.mod_lt (t:Ex):t.mod.size<t.wt:=by rw [t.gA];omega
theorem Ex.xR (t:Ex):t.labels.length<t.wt:=by have h1:=ch Lb.wt (fun l=>by unfold Lb.wt;omega) t.labels;rw [t.gA];omega
theorem Lb.Q0 {t:Ex} {l:Lb} (hl:l∈t.labels):l.wt<t.wt:=by obtain⟨i,hi⟩:=cb.1 hl;have h1:=b9 Lb.wt hi;rw [t.gA];omega
def fi (d:Dc):List V:=[num d.kind,str d.name,bl d.exported,bl d.deprecated,str d.note,.slice (d.params.map eL)]++ax d.lower++ax d.upper++ax d.type++aX d.expr++[str d.mod,str d.target]
theorem wL (d:Dc):dt d = .agg (fi d):=rfl
def Dc.dv (d:Dc):Nat:=1+d.params.length+aS (fun p=>p.bound.size) d.params+d.lower.size+d.upper.size+d.type.size+d.expr.dv
theorem Dc.ia (d:Dc):0<d.dv:=by unfold Dc.dv;omega
def Md.dv (m:Md):Nat:=1+m.imports.length+aS Dc.dv m.decls
def rb (m:Md):List V:=[str m.path,.slice (m.imports.map fI),.slice (m.decls.map dt)]
theorem qq (m:Md):sN m = .agg (rb m):=rfl
def Pm.wt (p:Pm):Nat:=1+p.name.size+p.bound.wt
def Im.wt (i:Im):Nat:=1+i.path.size+i.alias.size
def Dc.wt (d:Dc):Nat:=1+d.name.size+d.note.size+aS Pm.wt d.params+d.lower.wt+d.upper.wt+d.type.wt+d.expr.wt+d.mod.size+d.target.size
def Md.wt (m:Md):Nat:=1+m.path.size+aS Im.wt m.imports+aS Dc.wt m.decls
theorem Q1 (l:List Pm):l.length+aS (fun p=>p.bound.size) l≤aS Pm.wt l:=by induction l with|nil=>exact aB _|cons a r ih=>have:=a.bound.fF;simp only [aS,af,Pm.wt];omega
theorem Dc.gI (d:Dc):d.dv≤d.wt:=by have h1:=Q1 d.params;have h2:=d.lower.fF;have h3:=d.upper.fF;have h4:=d.type.fF;have h5:=d.expr.gI;unfold Dc.dv Dc.wt;omega
theorem Md.gI (m:Md):m.dv≤m.wt:=by have h1:=wJ (g:=Dc.dv) (h:=Dc.wt) Dc.gI m.decls;have h2:=ch Im.wt (fun l=>by unfold Im.wt;omega) m.imports;unfold Md.dv Md.wt;omega
section
attribute [local irreducible] runM gx qb dn lL wa Dp
mutual
def Ex.depth:Ex→Nat
 | .mk _ _ _ _ _ _ _ ks=>1+wM ks
def wM:List Ex→Nat
 | []=>0
 | e :: r=>max e.depth (wM r)
end
theorem Fg (ts:List Ex):wM ts=gz Ex.depth ts:=by induction ts with|nil=>rfl|cons t r ih=>simp [wM,gz,ih]
theorem Ex.Bx (t:Ex):t.depth=1+gz Ex.depth t.kids:=by obtain⟨k,m,n,x,i,ts,ls,ks⟩:=t;rw [Ex.depth,Fg];rfl
theorem Ex.ur:∀ (N:Nat) (t:Ex),t.dv≤N→t.depth≤t.dv:=by intro N;induction N with|zero=>intro t h;have:=t.ia;omega|succ N ih =>intro t hN;rw [Ex.Bx];have h1:=t.qo;(have:=Bp Ex.depth (l:=t.kids) (B:=aS Ex.dv t.kids) fun i a ha=>by have:=b9 Ex.dv ha;have:=ih a (by omega);omega);omega
theorem HV (x:Ex) (hl:x.kids.length≤1048576) (hd:x.depth≤1048576) (j7:∀ (i:Nat) (k:Ex),x.kids[i]?=some k→b8 aj 102 [bH k] (num k.depth)):Cn 102 [bH x] (num x.depth):=by
 refine Dq tt_ok (fn:=Tryz.f102) Tryz.func102 rfl Tryz.call102 ?_;simp only [cZ,cO,Tryz.ntmps102,af,ai,zA,zF,aH,aI];have hde:=x.Bx;simp only [bk,aX];refine bK tt_ok 20 [0,2,2] [] rfl rfl fun K hK=>?_;simp only [cJ,go_sem,al];refine hK _ _ rfl ?_;simp only [ji,zA,zE];refine bK tt_ok 20 [0,0,0,2] [] rfl rfl fun K hK=>?_;simp only [cJ,go_sem,al];refine hK _ _ rfl ?_;simp only [ji,zA,zE];refine eS ?_;refine bK tt_ok 20 [0,0,0,0,0,0,1,2,2,2] [] rfl rfl fun K hK=>?_;simp only [cJ,go_sem,al];refine hK _ _ rfl ?_;simp only [ji,zA,zE];refine eA ?_;refine ki [9,3] [num 0,num 0] 1 [false,false,true,true,false,false,false,true,true,true] (fun vs=>((x.kids.length:Int)-intOf (vs.headD .undef)).toNat) (fun vs=>∃ (i:Nat),vs=[num i,num (gz Ex.depth (x.kids.take i):Nat)]∧i≤x.kids.length) (by omega) (by simp only [aW,aG,aQ,aK,zB,ef]) (by simp only [aW,aG,aQ,aK,zB,ef]) (by rfl) (⟨0,rfl,by omega⟩) fun vs hI=>?_;obtain⟨i,rfl,hi⟩:=hI;simp only [aW,aG,aQ,aK,zB,eB,bo,bw,ef];refine bK tt_ok 20 (rp 10 0 [2]) [] rfl rfl fun K hK=>?_;simp only [cJ,go_sem,al];refine hK _ _ rfl ?_;simp only [ji,zA,zE];refine eS ?_;refine oy rfl (fun jZ=>?_) (fun jZ=>?_);·(have bL:i<x.kids.length:=by simpa using jZ);obtain⟨k,hx⟩:∃ k,x.kids[i]?=some k:=⟨_,aw bL⟩;have hk:=j7 i k hx;rw [bk] at hk;simp only [aX] at hk;have hw:=bm i (by omega);refine gO ?_;show Go.Eng.Ex _ _ _ _ _ _;refine eS ?_;refine eA ?_;refine bK tt_ok 20 [0,0,0,0,0,2,0,0,0,0,0,1,1] [] rfl rfl fun K hK=>?_;simp only [hw,fc,hx,bk,aX,cJ,go_sem,al];refine hK _ _ rfl ?_;simp only [ji,zA,zE];refine cM tt_ok 20 [0,0,0,2,0,0,0,0,0,0,0,0,0,2,2,2,2] [] kr rfl rfl fun K hK=>?_;(try simp only [cZ]);refine fA 3 fun K1 ff=>?_;simp only [hw,fc,hx,bk,aX,cJ,go_sem,al];refine jc (⟨_,rfl,hk⟩) ?_;rintro _ rfl;(try simp only [hw,fc,hx,bk,aX,cJ,go_sem,al]);refine ff _ ?_;simp only [hw,fc,hx,bk,aX,cJ,go_sem,al];refine hK _ _ rfl ?_;simp only [ji,zA,zE];show Go.Eng.Ex _ _ _ _ _ _;refine cM tt_ok 20 (rp 9 0 [2,0,0,0,0,0,0,0,2]) [] kr rfl rfl fun K hK=>?_;simp only [hw,fc,hx,bk,aX,cJ,go_sem,al];refine hK _ _ rfl ?_;simp only [ji,zA,zE];refine⟨[_,_],?_,?_,1,[false,false,true,true,false,false,false,true,true,true],by omega,by simp only [aW,aG,aQ,aK,zB,ef],by simp only [aW,aG,aQ,aK,zB,ef],by simp only [aW,aG,aQ,aK,zB,eB,bo,bw,ef];rfl⟩;(·refine⟨i+1,?_,bL⟩;rw [lx Ex.depth hx,← zS]);simp only [intOf,bh];omega
 have W8:¬ i<x.kids.length:=by simpa using jZ
 have gq:i=x.kids.length:=by omega
 subst gq;try rw [al]
 have hw:=bm (gz Ex.depth x.kids) (by omega);have hz:((gz Ex.depth x.kids+1:Nat):Int)=(x.depth:Int):=by omega
 refine j5 ?_;show Go.Eng.Ex _ _ _ _ _ _;refine bK tt_ok 20 (0::0::2::(rp 15 0 [1,1])) [] rfl rfl fun K hK=>?_;simp only [hw,hz,cJ,go_sem,al];refine hK _ _ rfl ?_;simp only [ji,zA,zE];exact lB ⟨.inl rfl,_,rfl,rfl⟩
theorem Kf:∀ (N:Nat) (x:Ex),x.dv≤N→N≤1048576→b8 aj 102 [bH x] (num x.depth):=by intro N;induction N with|zero=>intro x h;have:=x.ia;omega|succ N ih =>intro x hN hb;have h2:=x.lM;have h4:=Ex.ur _ x (aB _);obtain⟨_,rfl,h⟩:=HV x (by omega) (by omega) fun i k hk=>ih k (by have h1:=b9 Ex.dv hk;have h3:=x.qo;omega) (by omega);exact h
end
theorem LN (e:Ex) (hl:e.types.length+e.labels.length≤34359738368):b8 aj 185 [bH e] (.slice (cX e.own)):=by
 have om:e.types.length≤34359738368:=by omega
 obtain⟨k,m,n,x,z,ts,ls,ks⟩:=e;simp only [Ex.types,Ex.labels] at hl om;refine jL tt_ok (fn:=Tryz.f185) Tryz.func185 rfl Tryz.call185 ?_;simp only [cZ,cO,Tryz.ntmps185,af,ai,zA,zF,aH,aI];refine aq tt_ok fun K hK=>?_;simp only [bH,go_sem];refine hK _ ?_;refine aq tt_ok fun K hK=>?_;simp only [bH,go_sem];refine .inr <| .inl ⟨_,_,bI.live (by simp only [bH,aD,go_sem,al]) (Bo (cX ts) (wz ts 0) (by rw [aD];exact om)) rfl _,?_⟩
 try simp only [bH,aD,go_sem]
 refine hK _ ?_;refine bE ?_;refine aq tt_ok fun K hK=>?_;simp only [go_sem];refine hK _ ?_;by_cases hk:k=8;·(have hd:decide (k=8)=true:=by simpa using hk);rw [hd];refine bd rfl ?_;refine aq tt_ok fun K hK=>?_;simp only [au,go_sem];refine hK _ ?_;refine bU (dj (fun N st=>∃ (i dZ:Nat) (acc:List Ty),N=ls.length-i∧i≤ls.length∧acc=ts++(ls.take i).map Lb.ty ∧ st = { fr:=[.undef,.ptr 0 0,.undef,.ms 1 dZ 0 acc.length,.undef,.undef,.undef,.undef,.undef,.undef,.undef,.undef,.undef,.slice (ls.map b7),num ls.length,num i]++List.replicate 10 .undef,mem:=[.box (bH (.mk k m n x z ts ls ks)).cells,.rows dZ 5 (cX acc)] }) ls.length ?_ ?_);(·exact⟨2,(false::true::false::true::(rp 9 false [true,true,true])),by omega,by simp only [aW,aG,aQ,aK,zB,ef],by simp only [aW,aG,aQ,aK,zB,ef],0,1,ts,by omega,by omega,by simp,rfl⟩);rintro N st ⟨i,dZ,acc,rfl,hi,nE,rfl⟩;(have zR:acc.length≤34359738367∨i=ls.length:=by rw [nE];simp;omega);simp only [cZ,aH,aI,bH,V.cells];by_cases bL:i<ls.length;(·have hd:=iR bL;(have J6:acc.length≤34359738367:=by omega);refine aq tt_ok fun K hK=>?_;simp only [hd,go_sem];refine hK _ ?_;refine bE (bd rfl (cw ?_));refine bE (bU ?_);obtain⟨f,hf⟩:∃ f,ls[i]?=some f:=⟨_,aw bL⟩;(have rE:(ls.take (i+1)).map Lb.ty=(ls.take i).map Lb.ty++[f.ty]:=by rw [bY,hf];simp);refine aq tt_ok fun K hK=>?_;simp only [ak,hf,b7,ax,go_sem];refine hK _ ?_;refine a7 tt_ok fun K hK=>?_;simp only [aD,J6,go_sem];refine hK _ ?_;refine a7 tt_ok fun K hK=>?_;simp only [go_sem];refine hK _ ?_;have hw:=bm i (by omega);rw [hw];refine⟨ls.length-(i+1),by omega,2,(false::true::false::true::(rp 9 false [true,true,true])),by omega,by simp only [aW,aG,aQ,aK,zB,ef],by simp only [aW,aG,aQ,aK,zB,ef],i+1,dZ+1,acc++[f.ty],rfl,bL,by rw [nE,rE];simp,?_⟩;simp [rp,aW,aV,aM,ax]);have hd:=iS bL;refine aq tt_ok fun K hK=>?_;simp only [hd,go_sem];refine hK _ ?_;refine bE (bd rfl (ep ?_));(have lh:i=ls.length:=by omega);subst lh;show ek _ _ _ _ _ _;refine aq tt_ok fun K hK=>?_;simp only [go_sem];refine hK _ ?_;refine cn ⟨.inl rfl,?_⟩;rw [al] at nE;(have hr:cX (Ex.mk k m n x z ts ls ks).own=cX acc:=by rw [nE];simp [Ex.own,Ex.types,Ex.kind,Ex.labels,hk]);rw [hr];simp [nU,nT,pG,Tryz.f185,CA,ke,ej,aD];rw [← aD];simp
 have hd:decide (k=8)=false:=by simpa using hk
 rw [hd];refine bd rfl (cw ?_);show ek _ _ _ _ _ _;refine aq tt_ok fun K hK=>?_;simp only [go_sem];refine hK _ ?_;refine cn ⟨.inl rfl,?_⟩;have hr:cX (Ex.mk k m n x z ts ls ks).own=cX ts:=by simp [Ex.own,Ex.types,Ex.kind,Ex.labels,hk]
 rw [hr];simp [nU,nT,pG,Tryz.f185,CA,ke,ej,aD];rw [← aD];simp
theorem Kg (e:Ex) (hl:e.types.length+e.labels.length≤34359738368):b8 aj 72 [bH e] (.slice (cX e.own)):=by
 have om:e.types.length≤34359738368:=by omega
 obtain⟨k,m,n,x,z,ts,ls,ks⟩:=e;simp only [Ex.types,Ex.labels] at hl om;refine jL tt_ok (fn:=Tryz.f72) Tryz.func72 rfl Tryz.call72 ?_;simp only [cZ,cO,Tryz.ntmps72,af,ai,zA,zF,aH,aI];refine aq tt_ok fun K hK=>?_;simp only [bH,go_sem];refine hK _ ?_;refine aq tt_ok fun K hK=>?_;simp only [bH,wz,aD,om,go_sem];refine hK _ ?_;refine bE ?_;refine aq tt_ok fun K hK=>?_;simp only [go_sem];refine hK _ ?_;by_cases hk:k=8;·(have hd:decide (k=8)=true:=by simpa using hk);rw [hd];refine bd rfl ?_;refine aq tt_ok fun K hK=>?_;simp only [go_sem];refine hK _ ?_;refine bU (dj (fun N st=>∃ (i dZ:Nat) (acc:List Ty),N=ls.length-i∧i≤ls.length∧acc=ts++(ls.take i).map Lb.ty ∧ st = { fr:=[.undef,.ptr 0 0,.undef,.ms 1 dZ 0 acc.length,num i]++List.replicate 24 .undef,mem:=[.box (bH (.mk k m n x z ts ls ks)).cells,.rows dZ 5 (cX acc)] }) ls.length ?_ ?_);(·exact⟨2,[false,true,false,true,true],by omega,by simp only [aW,aG,aQ,aK,zB,ef],by simp only [aW,aG,aQ,aK,zB,ef],0,1,ts,by omega,by omega,by simp,rfl⟩);rintro N st ⟨i,dZ,acc,rfl,hi,nE,rfl⟩;(have zR:acc.length≤34359738367∨i=ls.length:=by rw [nE];simp;omega);simp only [cZ,aH,aI,bH,V.cells];refine bE ?_;by_cases bL:i<ls.length;(·have hd:=iR bL;(have J6:acc.length≤34359738367:=by omega);refine aq tt_ok fun K hK=>?_;simp only [au,hd,go_sem];refine hK _ ?_;refine bd rfl (cw ?_);refine bE (bU ?_);obtain⟨f,hf⟩:∃ f,ls[i]?=some f:=⟨_,aw bL⟩;(have rE:(ls.take (i+1)).map Lb.ty=(ls.take i).map Lb.ty++[f.ty]:=by rw [bY,hf];simp);refine a7 tt_ok fun K hK=>?_;simp only [ak,hf,b7,ax,aD,J6,go_sem];refine hK _ ?_;refine a7 tt_ok fun K hK=>?_;simp only [go_sem];refine hK _ ?_;have hw:=bm i (by omega);rw [hw];refine⟨ls.length-(i+1),by omega,2,[false,true,false,true,true],by omega,by simp only [aW,aG,aQ,aK,zB,ef],by simp only [aW,aG,aQ,aK,zB,ef],i+1,dZ+1,acc++[f.ty],rfl,bL,by rw [nE,rE];simp,?_⟩;simp [rp,aW,aV,aM,ax]);have hd:=iS bL;refine aq tt_ok fun K hK=>?_;simp only [au,hd,go_sem];refine hK _ ?_;refine bd rfl (ep ?_);(have lh:i=ls.length:=by omega);subst lh;show ek _ _ _ _ _ _;refine aq tt_ok fun K hK=>?_;simp only [go_sem];refine hK _ ?_;refine cn ⟨.inl rfl,?_⟩;rw [al] at nE;(have hr:cX (Ex.mk k m n x z ts ls ks).own=cX acc:=by rw [nE];simp [Ex.own,Ex.types,Ex.kind,Ex.labels,hk]);rw [hr];simp [nU,nT,pG,Tryz.f72,CA,ke,ej,aD];rw [← aD];simp
 have hd:decide (k=8)=false:=by simpa using hk
 rw [hd];refine bd rfl (cw ?_);show ek _ _ _ _ _ _;refine aq tt_ok fun K hK=>?_;simp only [go_sem];refine hK _ ?_;refine cn ⟨.inl rfl,?_⟩;have hr:cX (Ex.mk k m n x z ts ls ks).own=cX ts:=by simp [Ex.own,Ex.types,Ex.kind,Ex.labels,hk]
 rw [hr];simp [nU,nT,pG,Tryz.f72,CA,ke,ej,aD];rw [← aD];simp
def Kh (s:Int) (u:Ty):Int:=IntKind.i64.wrap (s+(u.size:Int))
def LO (s:Int) (e:Ex):Int:=e.own.foldl Kh (IntKind.i64.wrap (s+1))
theorem DF:∀ (l:List Ty) (a:Nat),a+aS Ty.size l≤1152921504606846976→l.foldl Kh (a:Int)=((a+aS Ty.size l:Nat):Int)
 | [],a,_=>rfl
 | u :: r,a,h=>by
  simp only [aS] at h ⊢
  rw [ew,Kh,ph a u.size (by omega),DF r _ (by omega)]
  congr 1;omega
theorem By:∀ (l:List Ex) (a:Nat),a+aS (fun e=>1+aS Ty.size e.own) l≤1152921504606846976→l.foldl LO (a:Int)=((a+aS (fun e=>1+aS Ty.size e.own) l:Nat):Int)
 | [],a,_=>rfl
 | e :: r,a,h=>by
  simp only [aS] at h ⊢
  rw [ew,LO,bm a (by omega),DF _ _ (by omega),By r _ (by omega)]
  congr 1;omega
theorem DG (e:Ex) (he:e.dv≤1048576):b8 aj 101 [bH e] (num e.size):=by
 have kO:=Ex.kJ _ e (aB _);refine jL tt_ok (fn:=Tryz.f101) Tryz.func101 rfl Tryz.call101 ?_;simp only [cZ,cO,Tryz.ntmps101,af,ai,zA,zF,aH,aI];have ZQ:=fun B0 B1 h=>HP e [B0,B1] h;rw [bk] at ZQ ⊢;simp only [aX] at ZQ ⊢;refine aq tt_ok fun K hK=>?_;simp only [go_sem];refine hK _ ?_;refine aq tt_ok fun K hK=>?_;simp only [go_sem];refine hK _ ?_;refine bE ?_;refine aq tt_ok fun K hK=>?_;simp only [go_sem];refine .inr <| .inl ⟨_,_,ZQ _ _ rfl,?_⟩
 try simp only [go_sem]
 refine hK _ ?_;refine bU (Nq (t:=e) (B:=1048576) (fun s:Int=>[.box (aX e),.box [num s],.box (aX e)]) 0 3 2 rfl (fun _=>rfl) (by omega) (fun _=>rfl) (fun _=>rfl) rfl rfl rfl (fun s u=>(LO s u,none)) (by omega) he ?_ ?_);·intro s u hu l LR LB hLR hLB;rw [bk];simp only [cZ,o7,aX,bw,bo];have Pa:=u.Bv;have ajQ:=u.wI;have kf:=LN u (by omega);have W8:=ch Ty.size Ty.size_pos u.own;rw [bk] at kf;simp only [aX] at kf;refine a7 tt_ok fun K hK=>?_;simp only [go_sem];refine hK _ ?_;refine⟨rfl,rfl,bU ?_⟩;refine bE ?_;refine a7 tt_ok fun K hK=>?_;simp only [go_sem];refine hK _ ?_;refine bE ?_;refine a7 tt_ok fun K hK=>?_;simp only [go_sem];refine .inl ⟨_,_,by simp only [aD,go_sem,al],kf,?_⟩;(try simp only [aD,go_sem]);refine hK _ ?_;obtain⟨ps,nZ⟩:∃ ps,ps=u.own:=⟨_,rfl⟩;(have hnw:LO s u=ps.foldl Kh (IntKind.i64.wrap (s+1)):=by rw [nZ];rfl);rw [hnw,← nZ];rw [← nZ] at Pa W8;refine bU (dj (fun N st=>∃ (i:Nat),N=ps.length-i∧i≤ps.length ∧ st = { fr:=[.undef,.undef,.undef,.ptr 1 0,.undef,.undef,.undef,.undef,.undef,.undef,.undef,.undef,.undef,.slice (cX ps),num ps.length,num i]++List.replicate 9 .undef,mem:=[.box (aX e),.box [num ((ps.take i).foldl Kh (IntKind.i64.wrap (s+1)))],.box (aX e),LB] }) ps.length ?_ ?_);(·exact⟨4,(false::false::false::true::(rp 9 false [true,true,true])),by omega,by simp only [aW,aG,aQ,aK,zB,ef],by have h4:aK 4 LB=true:=hLB;simp only [cZ,cH,dS,h4];rfl,0,by omega,by omega,rfl⟩);rintro N st ⟨i,rfl,hi,rfl⟩;simp only [cZ,aH,aI];by_cases bL:i<ps.length;(·have hd:=iR bL;refine aq tt_ok fun K hK=>?_;simp only [hd,go_sem];refine hK _ ?_;refine bE (bd rfl (cw ?_));refine bE (bU ?_);obtain⟨v,hv⟩:∃ v,ps[i]?=some v:=⟨_,aw bL⟩;have MC:=b9 Ty.size hv;(have Mu:(ps.take (i+1)).foldl Kh (IntKind.i64.wrap (s+1))=IntKind.i64.wrap ((ps.take i).foldl Kh (IntKind.i64.wrap (s+1))+(v.size:Int)):=by rw [bY,hv,acI];rfl);have zy:=od v (by omega);rw [aM] at zy;simp only [ax] at zy;refine aq tt_ok fun K hK=>?_;simp only [bn,hv,aM,ax,go_sem];refine hK _ ?_;refine l8 tt_ok cu [pR,pR,pN,pN,⟨.w,0,[],[],[]⟩] 1 kr fun K hK=>?_;simp only [go_sem,List.replicate];refine⟨_,_,by simp only [go_sem,al],.inl (zy),?_⟩;(try simp only [go_sem,List.replicate]);refine hK _ ?_;rw [← Mu];refine a7 tt_ok fun K hK=>?_;simp only [go_sem];refine hK _ ?_;have ix:=bm i (by omega);rw [ix];exact⟨ps.length-(i+1),by omega,4,(false::false::false::true::(rp 9 false [true,true,true])),by omega,by simp only [aW,aG,aQ,aK,zB,ef],by have h4:aK 4 LB=true:=hLB;simp only [cZ,cH,dS,h4];rfl,i+1,rfl,bL,rfl⟩);have hd:=iS bL;refine aq tt_ok fun K hK=>?_;simp only [hd,go_sem];refine hK _ ?_;refine bE (bd rfl (ep ?_));(have lh:i=ps.length:=by omega);subst lh;(try rw [al]);exact⟨rfl,rfl,rfl⟩
 rw [uV,show (0:Int)=((0:Nat):Int) from rfl,By _ _ (by rw [Ex.Bu _ e (aB _)];omega),Ex.Bu _ e (aB _),cr];show ek _ _ _ _ _ _;refine aq tt_ok fun K hK=>?_;simp only [go_sem];refine hK _ ?_;exact cn ⟨.inl rfl,rfl⟩
theorem Bz:∀ (N:Nat) (e:Ex),e.dv≤N→N≤1048576→b8 aj 23 [bH e] (num e.size):=by intro N;induction N with|zero=>intro t h;have:=t.ia;omega|succ N ih =>intro e hN hb;have Pa:=e.Bv;have ajQ:=e.wI;have kO:=e.size_eq;have hsb:=Ex.kJ _ e (aB _);have kf:=Kg e (by omega);have W8:=ch Ty.size Ty.size_pos e.own;have AP:=e.lM;refine jL tt_ok (fn:=Tryz.f23) Tryz.func23 rfl Tryz.call23 ?_;simp only [cZ,cO,Tryz.ntmps23,af,ai,zA,zF,aH,aI];rw [bk] at kf ⊢;simp only [aX] at kf ⊢;refine aq tt_ok fun K hK=>?_;simp only [go_sem];refine hK _ ?_;refine aq tt_ok fun K hK=>?_;simp only [go_sem];refine hK _ ?_;refine aq tt_ok fun K hK=>?_;simp only [go_sem];refine .inl ⟨_,_,by simp only [go_sem,al],kf,?_⟩;(try simp only [go_sem]);refine hK _ ?_;refine bE ?_;refine aq tt_ok fun K hK=>?_;simp only [go_sem];refine hK _ ?_;obtain⟨ps,nZ⟩:∃ ps,ps=e.own:=⟨_,rfl⟩;rw [← nZ] at Pa W8 kO ⊢;refine bU (dj (fun N st=>∃ (i:Nat),N=ps.length-i∧i≤ps.length ∧ st = { fr:=[.undef,.ptr 0 0,.undef,num ((1+aS Ty.size (ps.take i):Nat)),.slice (cX ps),num i]++List.replicate 32 .undef,mem:=[.box (aX e)] }) ps.length ?_ ?_);(·exact⟨1,[false,true,false,true,true,true],by omega,by simp only [aW,aG,aQ,aK,zB,ef],rfl,0,by omega,by omega,rfl⟩);rintro N' st ⟨i,rfl,hi,rfl⟩;simp only [cZ,aH,aI];refine bE ?_;by_cases bL:i<ps.length;(·have hd:=iR bL;refine aq tt_ok fun K hK=>?_;simp only [aD,hd,go_sem];refine hK _ ?_;refine bd rfl (cw ?_);refine bE (bU ?_);obtain⟨u,hu⟩:∃ u,ps[i]?=some u:=⟨_,aw bL⟩;have ZM:=b9 Ty.size hu;have zy:=eZ Ty.size hu;have PH:=gp Ty.size ps (i+1);have j7:=oG u.size u (aB _) (by omega);rw [aM] at j7;simp only [ax] at j7;refine a7 tt_ok fun K hK=>?_;simp only [bn,hu,aM,ax,go_sem];refine .inl ⟨_,_,by simp only [go_sem,al],j7,?_⟩;(try simp only [go_sem]);refine hK _ ?_;(have hw:IntKind.i64.wrap (((1+aS Ty.size (ps.take i):Nat):Int)+(u.size:Int))=((1+aS Ty.size (ps.take (i+1)):Nat):Int):=by rw [ph _ _ (by omega)];congr 1;omega);rw [hw];refine a7 tt_ok fun K hK=>?_;simp only [go_sem];refine hK _ ?_;have ix:=bm i (by omega);rw [ix];exact⟨ps.length-(i+1),by omega,1,[false,true,false,true,true,true],by omega,by simp only [aW,aG,aQ,aK,zB,ef],rfl,i+1,rfl,bL,by simp [rp,aW]⟩);have hd:=iS bL;refine aq tt_ok fun K hK=>?_;simp only [aD,hd,go_sem];refine hK _ ?_;refine bd rfl (ep ?_);(have lh:i=ps.length:=by omega);subst lh;(try rw [al]);show ek _ _ _ _ _ _;refine bE ?_;refine aq tt_ok fun K hK=>?_;simp only [go_sem];refine hK _ ?_;obtain⟨ks,Tr⟩:∃ ks,ks=e.kids:=⟨_,rfl⟩;obtain⟨S,hS⟩:∃ S,S=1+aS Ty.size ps:=⟨_,rfl⟩;rw [← hS];rw [← Tr] at Pa kO AP;refine bU (dj (fun N st=>∃ (i:Nat),N=ks.length-i∧i≤ks.length ∧ st = { fr:=[.undef,.ptr 0 0,.undef,num ((S+aS Ex.size (ks.take i):Nat)),.undef,.undef,num i]++List.replicate 31 .undef,mem:=[.box (aX e)] }) ks.length ?_ ?_);(·exact⟨1,[false,true,false,true,false,false,true],by omega,by simp only [aW,aG,aQ,aK,zB,ef],rfl,0,by omega,by omega,rfl⟩);rintro N' st ⟨i,rfl,hi,rfl⟩;simp only [aH,aI,ay,aC,aX,← Tr];refine bE ?_;by_cases bL:i<ks.length;(·have hd:=iR bL;refine aq tt_ok fun K hK=>?_;simp only [cJ,hd,go_sem];refine hK _ ?_;refine bd rfl (cw ?_);refine bE (bU ?_);obtain⟨u,hu⟩:∃ u,ks[i]?=some u:=⟨_,aw bL⟩;have ZM:=b9 Ex.dv hu;have zy:=eZ Ex.size hu;have PH:=gp Ex.size ks (i+1);have j7:=ih u (by omega) (by omega);rw [bk] at j7;simp only [aX] at j7;refine a7 tt_ok fun K hK=>?_;simp only [fc,hu,bk,aX,go_sem];refine .inl ⟨_,_,by simp only [go_sem,al],j7,?_⟩;(try simp only [go_sem]);refine hK _ ?_;(have hw:IntKind.i64.wrap (((S+aS Ex.size (ks.take i):Nat):Int)+(u.size:Int))=((S+aS Ex.size (ks.take (i+1)):Nat):Int):=by rw [ph _ _ (by omega)];congr 1;omega);rw [hw];refine a7 tt_ok fun K hK=>?_;simp only [go_sem];refine hK _ ?_;have ix:=bm i (by omega);rw [ix];exact⟨ks.length-(i+1),by omega,1,[false,true,false,true,false,false,true],by omega,by simp only [aW,aG,aQ,aK,zB,ef],rfl,i+1,rfl,bL,by simp [rp,aW,aX,← Tr]⟩);have hd:=iS bL;refine aq tt_ok fun K hK=>?_;simp only [cJ,hd,go_sem];refine hK _ ?_;refine bd rfl (ep ?_);(have lh:i=ks.length:=by omega);subst lh;(try rw [al]);show ek _ _ _ _ _ _;refine aq tt_ok fun K hK=>?_;simp only [go_sem];refine hK _ ?_;refine cn ⟨.inl rfl,?_⟩;(have oE:S+aS Ex.size ks=e.size:=by omega);rw [oE];simp [nU,nT,pG,Tryz.f23,CA,ke,ej,pZ]
noncomputable def rL {α:Type} (a b:α):Bool:=@decide (a=b) (Classical.propDecidable _)
theorem eu {α:Type} {a b:α} (h:a=b):rL a b=true:=by unfold rL;exact @decide_eq_true _ (Classical.propDecidable _) h
theorem da {α:Type} {a b:α} (h:¬ a=b):rL a b=false:=by unfold rL;exact @decide_eq_false _ (Classical.propDecidable _) h
theorem Fh {α:Type} {a b:α}:rL a b=true↔a=b:=by refine⟨fun h=>Classical.byContradiction fun hn=>?_,eu⟩;rw [da hn] at h;cases h
theorem nr (a b:ByteArray):(a.toList==b.toList)=rL a b:=by
 have inj:a.toList=b.toList→a=b:=fun h=>by rw [ByteArray.toList_eq,ByteArray.toList_eq] at h;exact arB (ahi.1 h)
 by_cases h:a=b;·rw [eu h,h];simp
 rw [da h];simpa using fun e=>h (inj e)
theorem HW (g:FuncId) (ts us:List Ty) (hl:ts.length≤1048576) (hg:∀ (i:Nat) (t u:Ty),ts[i]?=some t→us[i]?=some u→b8 aj g [br t,br u] (bl (rL t u))) :
  b8 aj 262 [.slice (cX ts),.slice (cX us),.sc (.func (.func g) #[] #[])] (bl (rL ts us)):=by
 refine jL tt_ok (fn:=Tryz.f262) Tryz.func262 rfl Tryz.call262 ?_;simp only [cZ,cO,Tryz.ntmps262,af,ai,zA,zF,aH,aI];refine aq tt_ok fun K hK=>?_;simp only [go_sem];refine hK _ ?_;refine bE ?_;by_cases hlen:ts.length=us.length;·(have hd:(!decide ((ts.length:Int)=(us.length:Int)))=false:=by simp [hlen]);refine aq tt_ok fun K hK=>?_;simp only [aD,hd,go_sem];refine hK _ ?_;refine bd rfl (cw ?_);show ek _ _ _ _ _ _;refine bE ?_;refine aq tt_ok fun K hK=>?_;simp only [aD,go_sem];refine hK _ ?_;refine bU (dj (fun N st=>∃ (i:Nat),N=ts.length-i∧i≤ts.length∧ts.take i=us.take i ∧ st = { fr:=[.undef,.slice (cX us),.sc (.func (.func g) #[] #[]),.undef,.undef,.undef,.undef,.undef,.undef,.undef,.undef,.undef,.undef,.undef,.undef,.slice (cX ts),num ts.length,num i]++List.replicate 14 .undef,mem:=[] }) ts.length ?_ ?_);(·exact⟨0,(false::true::true::(rp 12 false [true,true,true])),by omega,by simp only [aW,aG,aQ,aK,zB,ef],rfl,0,by omega,by omega,by simp,rfl⟩);rintro N' st ⟨i,rfl,hi,zT,rfl⟩;simp only [cZ,aH,aI];by_cases bL:i<ts.length;(·have hd:=iR bL;refine aq tt_ok fun K hK=>?_;simp only [hd,go_sem];refine hK _ ?_;refine bE (bd rfl (cw ?_));refine bE (bU ?_);obtain⟨t,ht⟩:∃ t,ts[i]?=some t:=⟨_,aw bL⟩;obtain⟨u,hu⟩:∃ u,us[i]?=some u:=⟨_,aw (by omega)⟩;have Q3:=hg i t u ht hu;rw [aM,aM] at Q3;simp only [ax] at Q3;refine aq tt_ok fun K hK=>?_;simp only [bn,ht,aM,ax,go_sem];refine hK _ ?_;refine aq tt_ok fun K hK=>?_;simp only [bn,hu,aM,ax,go_sem];refine hK _ ?_;refine aq tt_ok fun K hK=>?_;simp only [go_sem];refine .inl ⟨_,_,by simp only [go_sem,al],Q3,?_⟩;(try simp only [go_sem]);refine hK _ ?_;(have Q4:∀ h:t=u,ts.take (i+1)=us.take (i+1):=fun h=>by rw [bY,bY,zT,ht,hu,h]);by_cases LP:t=u;(·rw [eu LP];refine bd rfl (cw ?_);show ek _ _ _ _ _ _;refine a7 tt_ok fun K hK=>?_;simp only [go_sem];refine hK _ ?_;have ix:=bm i (by omega);rw [ix];exact⟨ts.length-(i+1),by omega,0,(false::true::true::(rp 12 false [true,true,true])),by omega,by simp only [aW,aG,aQ,aK,zB,ef],rfl,i+1,rfl,bL,Q4 LP,rfl⟩);rw [da LP];refine bd rfl ?_;refine aq tt_ok fun K hK=>?_;simp only [go_sem];refine hK _ ?_;refine cn ⟨.inl rfl,?_⟩;rw [da (fun e=>LP (by rw [e,hu] at ht;exact (mB ht).symm))];rfl);have hd:=iS bL;refine aq tt_ok fun K hK=>?_;simp only [hd,go_sem];refine hK _ ?_;refine bE (bd rfl (ep ?_));(have lh:i=ts.length:=by omega);show ek _ _ _ _ _ _;refine aq tt_ok fun K hK=>?_;simp only [go_sem];refine hK _ ?_;refine cn ⟨.inl rfl,?_⟩;rw [lh,al,hlen,al] at zT;rw [eu zT];rfl
 have hd:(!decide ((ts.length:Int)=(us.length:Int)))=true:=by simpa using fun e=>hlen (by omega)
 refine aq tt_ok fun K hK=>?_;simp only [aD,hd,go_sem];refine hK _ ?_;refine bd rfl ?_;refine aq tt_ok fun K hK=>?_;simp only [go_sem];refine hK _ ?_;refine cn ⟨.inl rfl,?_⟩;rw [da (fun e=>hlen (by rw [e]))];rfl
theorem HX (g:FuncId) (ts us:List Fd) (hl:ts.length≤1048576) (hg:∀ (i:Nat) (t u:Fd),ts[i]?=some t→us[i]?=some u→b8 aj g [du t,du u] (bl (rL t u))) :
  b8 aj 263 [.slice (jf ts),.slice (jf us),.sc (.func (.func g) #[] #[])] (bl (rL ts us)):=by
 refine jL tt_ok (fn:=Tryz.f263) Tryz.func263 rfl Tryz.call263 ?_;simp only [cZ,cO,Tryz.ntmps263,af,ai,zA,zF,aH,aI];refine aq tt_ok fun K hK=>?_;simp only [go_sem];refine hK _ ?_;refine bE ?_;by_cases hlen:ts.length=us.length;·(have hd:(!decide ((ts.length:Int)=(us.length:Int)))=false:=by simp [hlen]);refine aq tt_ok fun K hK=>?_;simp only [dd,hd,go_sem];refine hK _ ?_;refine bd rfl (cw ?_);show ek _ _ _ _ _ _;refine bE ?_;refine aq tt_ok fun K hK=>?_;simp only [dd,go_sem];refine hK _ ?_;refine bU (dj (fun N st=>∃ (i:Nat),N=ts.length-i∧i≤ts.length∧ts.take i=us.take i ∧ st = { fr:=[.undef,.slice (jf us),.sc (.func (.func g) #[] #[]),.undef,.undef,.undef,.undef,.undef,.undef,.undef,.undef,.undef,.undef,.undef,.undef,.slice (jf ts),num ts.length,num i]++List.replicate 14 .undef,mem:=[] }) ts.length ?_ ?_);(·exact⟨0,(false::true::true::(rp 12 false [true,true,true])),by omega,by simp only [aW,aG,aQ,aK,zB,ef],rfl,0,by omega,by omega,by simp,rfl⟩);rintro N' st ⟨i,rfl,hi,zT,rfl⟩;simp only [cZ,aH,aI];by_cases bL:i<ts.length;(·have hd:=iR bL;refine aq tt_ok fun K hK=>?_;simp only [hd,go_sem];refine hK _ ?_;refine bE (bd rfl (cw ?_));refine bE (bU ?_);obtain⟨t,ht⟩:∃ t,ts[i]?=some t:=⟨_,aw bL⟩;obtain⟨u,hu⟩:∃ u,us[i]?=some u:=⟨_,aw (by omega)⟩;have Q3:=hg i t u ht hu;rw [bZ,bZ] at Q3;simp only [cZ,ax] at Q3;refine aq tt_ok fun K hK=>?_;simp only [bP,ht,bZ,ax,go_sem];refine hK _ ?_;refine aq tt_ok fun K hK=>?_;simp only [bP,hu,bZ,ax,go_sem];refine hK _ ?_;refine aq tt_ok fun K hK=>?_;simp only [go_sem];refine .inl ⟨_,_,by simp only [go_sem,al],Q3,?_⟩;(try simp only [go_sem]);refine hK _ ?_;(have Q4:∀ h:t=u,ts.take (i+1)=us.take (i+1):=fun h=>by rw [bY,bY,zT,ht,hu,h]);by_cases LP:t=u;(·rw [eu LP];refine bd rfl (cw ?_);show ek _ _ _ _ _ _;refine a7 tt_ok fun K hK=>?_;simp only [go_sem];refine hK _ ?_;have ix:=bm i (by omega);rw [ix];exact⟨ts.length-(i+1),by omega,0,(false::true::true::(rp 12 false [true,true,true])),by omega,by simp only [aW,aG,aQ,aK,zB,ef],rfl,i+1,rfl,bL,Q4 LP,rfl⟩);rw [da LP];refine bd rfl ?_;refine aq tt_ok fun K hK=>?_;simp only [go_sem];refine hK _ ?_;refine cn ⟨.inl rfl,?_⟩;rw [da (fun e=>LP (by rw [e,hu] at ht;exact (mB ht).symm))];rfl);have hd:=iS bL;refine aq tt_ok fun K hK=>?_;simp only [hd,go_sem];refine hK _ ?_;refine bE (bd rfl (ep ?_));(have lh:i=ts.length:=by omega);show ek _ _ _ _ _ _;refine aq tt_ok fun K hK=>?_;simp only [go_sem];refine hK _ ?_;refine cn ⟨.inl rfl,?_⟩;rw [lh,al,hlen,al] at zT;rw [eu zT];rfl
 have hd:(!decide ((ts.length:Int)=(us.length:Int)))=true:=by simpa using fun e=>hlen (by omega)
 refine aq tt_ok fun K hK=>?_;simp only [dd,hd,go_sem];refine hK _ ?_;refine bd rfl ?_;refine aq tt_ok fun K hK=>?_;simp only [go_sem];refine hK _ ?_;refine cn ⟨.inl rfl,?_⟩;rw [da (fun e=>hlen (by rw [e]))];rfl
theorem Ty.ext_iff (t u:Ty):t=u↔t.kind=u.kind∧t.mod=u.mod∧t.name=u.name∧t.args=u.args∧t.bD=u.bD:=by obtain⟨k,m,n,ts,fs⟩:=t;obtain⟨k',m',n',ts',fs'⟩:=u;simp [Ty.kind,Ty.mod,Ty.name,Ty.args,Ty.bD]
theorem Fd.ext_iff (t u:Fd):t=u↔t.name=u.name∧t.opt=u.opt∧t.ty=u.ty:=by obtain⟨n,t,o⟩:=t;obtain⟨n',t',o'⟩:=u;simp only [Fd.name,Fd.opt,Fd.ty,Fd.mk.injEq];exact⟨fun h=>⟨h.1,h.2.2,h.2.1⟩,fun h=>⟨h.1,h.2.2,h.2.1⟩⟩
theorem U9 (t u:Fd) (h:b8 aj 214 [br t.ty,br u.ty] (bl (rL t.ty u.ty))):b8 aj 264 [du t,du u] (bl (rL t u)):=by
 refine jL tt_ok (fn:=Tryz.f264) Tryz.func264 rfl Tryz.call264 ?_;simp only [cZ,cO,Tryz.ntmps264,af,ai,zA,zF,aH,aI];rw [aM,aM] at h;rw [bZ,bZ];simp only [cZ,ax] at h ⊢;have e1:=nr t.name u.name;have hT:aj.underlying 4=some .bool:=kr;have e2:=fun x y=>T5 (P:=aj) (T:=4) x y hT;refine aq tt_ok fun K hK=>?_;simp only [go_sem];refine hK _ ?_;by_cases h1:t.name=u.name;·rw [eu h1] at e1;by_cases h2:t.opt=u.opt;(·(have e3:(t.opt==u.opt)=true:=by simpa using h2);refine aq tt_ok fun K hK=>?_;simp only [e1,e2,e3,go_sem];refine .inl ⟨_,_,by simp only [go_sem,al],h,?_⟩;(try simp only [go_sem]);refine hK _ ?_;refine cn ⟨.inl rfl,?_⟩;(have hr:rL t u=rL t.ty u.ty:=by by_cases h3:t.ty=u.ty;(·rw [eu h3,eu ((Fd.ext_iff t u).2 ⟨h1,h2,h3⟩)]);rw [da h3,da fun e=>h3 ((Fd.ext_iff t u).1 e).2.2]);rw [hr];rfl);(have e3:(t.opt==u.opt)=false:=by simpa using h2);refine aq tt_ok fun K hK=>?_;simp only [e1,e2,e3,go_sem];refine hK _ ?_;refine cn ⟨.inl rfl,?_⟩;rw [da fun e=>h2 ((Fd.ext_iff t u).1 e).2.1];rfl
 rw [da h1] at e1;refine aq tt_ok fun K hK=>?_;simp only [e1,go_sem];refine hK _ ?_;refine cn ⟨.inl rfl,?_⟩;rw [da fun e=>h1 ((Fd.ext_iff t u).1 e).1];rfl
theorem Ty.DH {t a:Ty} {i:Nat} (h:t.args[i]?=some a):a.size<t.size:=by
 have h1:t.parts[i]?=some a:=by unfold Ty.parts;rw [bA (az.1 h).1];exact h
 have:=b9 Ty.size h1;have:=t.dB;omega
theorem Ty.DI {t:Ty} {f:Fd} {i:Nat} (h:t.bD[i]?=some f):f.ty.size<t.size:=by
 have h1:t.parts[t.args.length+i]?=some f.ty:=by unfold Ty.parts;rw [a8 (by omega),ee,ak,h];rfl
 have:=b9 Ty.size h1;have:=t.dB;omega
theorem BA:∀ (N:Nat) (t u:Ty),t.size≤N→N≤1048576→b8 aj 214 [br t,br u] (bl (rL t u)):=by intro N;induction N with|zero=>intro t u h;have:=t.size_pos;omega|succ N ih =>intro t u hN hb;have vj:=t.fE;have hA:=HW 214 t.args u.args (by omega) fun i a b ha _=>ih a b (by have:=Ty.DH ha;omega) (by omega);have hF:=HX 264 t.bD u.bD (by omega) fun i a b ha _=>U9 a b (ih a.ty b.ty (by have:=Ty.DI ha;omega) (by omega));refine jL tt_ok (fn:=Tryz.f214) Tryz.func214 rfl Tryz.call214 ?_;simp only [cZ,cO,Tryz.ntmps214,af,ai,zA,zF,aH,aI];rw [aM,aM];simp only [ax];have e2:=nr t.mod u.mod;have e3:=nr t.name u.name;refine aq tt_ok fun K hK=>?_;simp only [go_sem];refine hK _ ?_;by_cases h1:t.kind=u.kind;(·have d1:decide (t.kind=u.kind)=true:=decide_eq_true h1;by_cases h2:t.mod=u.mod;(·rw [eu h2] at e2;by_cases h3:t.name=u.name;(·rw [eu h3] at e3;by_cases h4:t.args=u.args;(·rw [eu h4] at hA;by_cases h5:t.bD=u.bD;(·rw [eu h5] at hF;refine aq tt_ok fun K hK=>?_;simp only [d1,e2,e3,go_sem];refine .inl ⟨_,_,by simp only [go_sem,al],hA,?_⟩;(try simp only [go_sem]);refine .inl ⟨_,_,by simp only [go_sem,al],hF,?_⟩;(try simp only [go_sem]);refine hK _ ?_;refine cn ⟨.inl rfl,?_⟩;rw [eu ((Ty.ext_iff t u).2 ⟨h1,h2,h3,h4,h5⟩)];rfl);rw [da h5] at hF;refine aq tt_ok fun K hK=>?_;simp only [d1,e2,e3,go_sem];refine .inl ⟨_,_,by simp only [go_sem,al],hA,?_⟩;(try simp only [go_sem]);refine .inl ⟨_,_,by simp only [go_sem,al],hF,?_⟩;(try simp only [go_sem]);refine hK _ ?_;refine cn ⟨.inl rfl,?_⟩;rw [da fun e=>h5 ((Ty.ext_iff t u).1 e).2.2.2.2];rfl);rw [da h4] at hA;refine aq tt_ok fun K hK=>?_;simp only [d1,e2,e3,go_sem];refine .inl ⟨_,_,by simp only [go_sem,al],hA,?_⟩;(try simp only [go_sem]);refine hK _ ?_;refine cn ⟨.inl rfl,?_⟩;rw [da fun e=>h4 ((Ty.ext_iff t u).1 e).2.2.2.1];rfl);rw [da h3] at e3;refine aq tt_ok fun K hK=>?_;simp only [d1,e2,e3,go_sem];refine hK _ ?_;refine cn ⟨.inl rfl,?_⟩;rw [da fun e=>h3 ((Ty.ext_iff t u).1 e).2.2.1];rfl);rw [da h2] at e2;refine aq tt_ok fun K hK=>?_;simp only [d1,e2,go_sem];refine hK _ ?_;refine cn ⟨.inl rfl,?_⟩;rw [da fun e=>h2 ((Ty.ext_iff t u).1 e).2.1];rfl);have d1:decide (t.kind=u.kind)=false:=decide_eq_false h1;refine aq tt_ok fun K hK=>?_;simp only [d1,go_sem];refine hK _ ?_;refine cn ⟨.inl rfl,?_⟩;rw [da fun e=>h1 ((Ty.ext_iff t u).1 e).1];rfl
section
attribute [local irreducible] runM gx qb
theorem Nr (ts us:List Ty) (hl:ts.length≤1048576) (hg:∀ (i:Nat) (t u:Ty),ts[i]?=some t→us[i]?=some u→b8 aj 18 [br t,br u] (bl (rL t u))) :
  b8 aj 62 [.slice (cX ts),.slice (cX us)] (bl (rL ts us)):=by
 refine jL tt_ok (fn:=Tryz.f62) Tryz.func62 rfl Tryz.call62 ?_;simp only [cZ,cO,Tryz.ntmps62,af,ai,zA,zF,aH,aI];refine aq tt_ok fun K hK=>?_;simp only [go_sem];refine hK _ ?_;refine bE ?_;by_cases hlen:ts.length=us.length;·(have hd:(!decide ((ts.length:Int)=(us.length:Int)))=false:=by simp [hlen]);refine aq tt_ok fun K hK=>?_;simp only [aD,hd,go_sem];refine hK _ ?_;refine bd rfl (cw ?_);show ek _ _ _ _ _ _;refine bE ?_;refine aq tt_ok fun K hK=>?_;simp only [go_sem];refine hK _ ?_;refine bU (dj (fun N st=>∃ (i:Nat),N=ts.length-i∧i≤ts.length∧ts.take i=us.take i ∧ st = { fr:=[.slice (cX ts),.slice (cX us),.undef,.undef,.undef,num i]++List.replicate 21 .undef,mem:=[] }) ts.length ?_ ?_);(·exact⟨0,[true,true,false,false,false,true],by omega,by simp only [aW,aG,aQ,aK,zB,ef],rfl,0,by omega,by omega,by simp,rfl⟩);rintro N' st ⟨i,rfl,hi,zT,rfl⟩;simp only [cZ,aH,aI];refine bE ?_;by_cases bL:i<ts.length;(·have hd:=iR bL;refine aq tt_ok fun K hK=>?_;simp only [aD,hd,go_sem];refine hK _ ?_;refine bd rfl (cw ?_);refine bE (bU ?_);obtain⟨t,ht⟩:∃ t,ts[i]?=some t:=⟨_,aw bL⟩;obtain⟨u,hu⟩:∃ u,us[i]?=some u:=⟨_,aw (by omega)⟩;have Q3:=hg i t u ht hu;rw [aM,aM] at Q3;simp only [ax] at Q3;refine mS tt_ok cu [pN,pN,pR,pR,pN,pN,pR,pR,pN,pN] 0 kr fun K hK=>?_;simp only [bn,ht,hu,aM,ax,go_sem,List.replicate];refine⟨_,_,by simp only [go_sem,al],.inl (Q3),?_⟩;(try simp only [go_sem,List.replicate]);refine hK _ ?_;(have Q4:∀ h:t=u,ts.take (i+1)=us.take (i+1):=fun h=>by rw [bY,bY,zT,ht,hu,h]);by_cases LP:t=u;(·rw [eu LP];refine bd rfl (cw ?_);show ek _ _ _ _ _ _;refine a7 tt_ok fun K hK=>?_;simp only [go_sem];refine hK _ ?_;have ix:=bm i (by omega);rw [ix];exact⟨ts.length-(i+1),by omega,0,[true,true,false,false,false,true],by omega,by simp only [aW,aG,aQ,aK,zB,ef],rfl,i+1,rfl,bL,Q4 LP,rfl⟩);rw [da LP];refine bd rfl ?_;refine aq tt_ok fun K hK=>?_;simp only [go_sem];refine hK _ ?_;refine cn ⟨.inl rfl,?_⟩;rw [da (fun e=>LP (by rw [e,hu] at ht;exact (mB ht).symm))];rfl);have hd:=iS bL;refine aq tt_ok fun K hK=>?_;simp only [aD,hd,go_sem];refine hK _ ?_;refine bd rfl (ep ?_);(have lh:i=ts.length:=by omega);subst lh;show ek _ _ _ _ _ _;refine aq tt_ok fun K hK=>?_;simp only [go_sem];refine hK _ ?_;refine cn ⟨.inl rfl,?_⟩;(have he:ts=us:=by rw [al] at zT;rw [zT,hlen,al]);rw [eu he];rfl
 have hd:(!decide ((ts.length:Int)=(us.length:Int)))=true:=by simp;omega
 refine aq tt_ok fun K hK=>?_;simp only [aD,hd,go_sem];refine hK _ ?_;refine bd rfl ?_;refine aq tt_ok fun K hK=>?_;simp only [go_sem];refine hK _ ?_;refine cn ⟨.inl rfl,?_⟩;rw [da (fun e=>hlen (by rw [e]))];rfl
def mV (id:Nat):Code→Option (Array Oper)
 | .region j ops _=>if j=id then some ops else none
 | .seq a b=>match mV id a with|some x=>some x|none=>mV id b
 | .cond _ a b=>match mV id a with|some x=>some x|none=>mV id b
 | .block _ c=>mV id c
 | .loop c=>mV id c
 | _=>none
def zX (id:Nat) (fn:Func):Option (Array Oper):=match fn.body with|some b=>mV id b|none=>none
def Fi (t u:Ty) (i:Nat) (b:Bool) (K:St→Prop):Prop:=∀ fr:List V,aW ([false,false,true,true,false,true]++List.replicate 78 false++[true]) fr=[.undef,.undef,.ptr 0 0,.ptr 1 0,.undef,num i]++List.replicate 78 .undef++[bl b]++List.replicate 5 .undef →
 K { fr:=fr,mem:=[.box (ax t),.box (ax u)] }
section
variable {t u:Ty} {i:Nat} {f g:Fd} (hf:t.bD[i]?=some f) (hg:u.bD[i]?=some g) {a0 a b c d:V} {K:St→Prop} {ops:Array Oper} (ho:zX 6 Tryz.f18=some ops)
include hf hg ho in
theorem Ki (h5:¬ f.name=g.name) (hK:Fi t u i true K) :
  runM aj tt ops 2 ops.toList [pN,pR,pN,pR,pN,pR,pN,pR,pN,pR,pN,pR,pN,pN,pN,pR,pN,pR,pN,pR,pN,pR,pN,pR,pN,pR,pN,pN,pN,pN,pR,pN,pR,pN,pR,pN,pR,pN,pR,pN,pR,pN,pN,pN] { fr:=[.undef,.undef,.ptr 0 0,.ptr 1 0,.undef,num i]++List.replicate 28 .undef++[a0,a,b,c,d]++List.replicate 51 .undef,mem:=[.box (ax t),.box (ax u)]++List.replicate 0 .hole } K:=by simp only [zX,Tryz.f18,mV,zE,if_false,if_true,reduceIte,aF] at ho;subst ho;have e5:=nr f.name g.name;have hT:aj.underlying 4=some .bool:=kr;have e6:=fun x y=>EA (P:=aj) (T:=4) x y hT;rw [da h5] at e5;simp only [cZ,aH,aI,ax];refine cV 5 (by simp) (by simp) fun K1 ff=>?_;simp only [bP,hf,hg,bZ,ax,e5,go_sem,List.replicate];refine ff _ ?_;refine cV 5 (by simp) (by simp) fun K1 ff=>?_;simp only [bP,hf,hg,bZ,ax,e5,go_sem,List.replicate];refine ff _ ?_;refine cV 5 (by simp) (by simp) fun K1 ff=>?_;simp only [bP,hf,hg,bZ,ax,e5,go_sem,List.replicate];refine ff _ ?_;refine cV 5 (by simp) (by simp) fun K1 ff=>?_;simp only [bP,hf,hg,bZ,ax,e5,go_sem,List.replicate];refine ff _ ?_;refine cV 5 (by simp) (by simp) fun K1 ff=>?_;simp only [bP,hf,hg,bZ,ax,e5,go_sem,List.replicate];refine ff _ ?_;refine cV 5 (by simp) (by simp) fun K1 ff=>?_;simp only [bP,hf,hg,bZ,ax,e5,go_sem,List.replicate];refine ff _ ?_;refine cV 5 (by simp) (by simp) fun K1 ff=>?_;simp only [bP,hf,hg,bZ,ax,e5,go_sem,List.replicate];refine ff _ ?_;refine cV 5 (by simp) (by simp) fun K1 ff=>?_;simp only [bP,hf,hg,bZ,ax,e5,go_sem,List.replicate];refine ff _ ?_;simp only [go_sem,List.replicate];exact hK _ (by simp only [aW,aH,aI,ay,aC,ef])
include hf hg ho in
theorem Ns (h5:f.name=g.name) (h6:¬ f.opt=g.opt) (hK:Fi t u i true K) :
  runM aj tt ops 2 ops.toList [pN,pR,pN,pR,pN,pR,pN,pR,pN,pR,pN,pR,pN,pN,pN,pR,pN,pR,pN,pR,pN,pR,pN,pR,pN,pR,pN,pN,pN,pN,pR,pN,pR,pN,pR,pN,pR,pN,pR,pN,pR,pN,pN,pN] { fr:=[.undef,.undef,.ptr 0 0,.ptr 1 0,.undef,num i]++List.replicate 28 .undef++[a0,a,b,c,d]++List.replicate 51 .undef,mem:=[.box (ax t),.box (ax u)]++List.replicate 0 .hole } K:=by
 simp only [zX,Tryz.f18,mV,zE,if_false,if_true,reduceIte,aF] at ho;subst ho;have e5:=nr f.name g.name;have hT:aj.underlying 4=some .bool:=kr;have e6:=fun x y=>EA (P:=aj) (T:=4) x y hT;rw [eu h5] at e5;have e7:(f.opt==g.opt)=false:=by simpa using h6
 simp only [cZ,aH,aI,ax];refine cV 5 (by simp) (by simp) fun K1 ff=>?_;simp only [bP,hf,hg,bZ,ax,e5,e6,e7,go_sem,List.replicate];refine ff _ ?_;refine cV 5 (by simp) (by simp) fun K1 ff=>?_;simp only [bP,hf,hg,bZ,ax,e5,e6,e7,go_sem,List.replicate];refine ff _ ?_;refine cV 5 (by simp) (by simp) fun K1 ff=>?_;simp only [bP,hf,hg,bZ,ax,e5,e6,e7,go_sem,List.replicate];refine ff _ ?_;refine cV 5 (by simp) (by simp) fun K1 ff=>?_;simp only [bP,hf,hg,bZ,ax,e5,e6,e7,go_sem,List.replicate];refine ff _ ?_;refine cV 5 (by simp) (by simp) fun K1 ff=>?_;simp only [bP,hf,hg,bZ,ax,e5,e6,e7,go_sem,List.replicate];refine ff _ ?_;refine cV 5 (by simp) (by simp) fun K1 ff=>?_;simp only [bP,hf,hg,bZ,ax,e5,e6,e7,go_sem,List.replicate];refine ff _ ?_;refine cV 5 (by simp) (by simp) fun K1 ff=>?_;simp only [bP,hf,hg,bZ,ax,e5,e6,e7,go_sem,List.replicate];refine ff _ ?_;refine cV 5 (by simp) (by simp) fun K1 ff=>?_;simp only [bP,hf,hg,bZ,ax,e5,e6,e7,go_sem,List.replicate];refine ff _ ?_;simp only [go_sem,List.replicate];exact hK _ (by simp only [aW,aH,aI,ay,aC,ef])
include hf hg ho in
theorem HY (h5:f.name=g.name) (h6:f.opt=g.opt) (r:Bool) (j7:b8 aj 18 [.agg (ax f.ty),.agg (ax g.ty)] (bl r)) (hK:Fi t u i (!r) K) :
  runM aj tt ops 2 ops.toList [pN,pR,pN,pR,pN,pR,pN,pR,pN,pR,pN,pR,pN,pN,pN,pR,pN,pR,pN,pR,pN,pR,pN,pR,pN,pR,pN,pN,pN,pN,pR,pN,pR,pN,pR,pN,pR,pN,pR,pN,pR,pN,pN,pN] { fr:=[.undef,.undef,.ptr 0 0,.ptr 1 0,.undef,num i]++List.replicate 28 .undef++[a0,a,b,c,d]++List.replicate 51 .undef,mem:=[.box (ax t),.box (ax u)]++List.replicate 0 .hole } K:=by
 simp only [zX,Tryz.f18,mV,zE,if_false,if_true,reduceIte,aF] at ho;subst ho;have e5:=nr f.name g.name;have hT:aj.underlying 4=some .bool:=kr;have e6:=fun x y=>EA (P:=aj) (T:=4) x y hT;rw [eu h5] at e5;have e7:(f.opt==g.opt)=true:=by simpa using h6
 simp only [ax] at j7;simp only [cZ,aH,aI,ax];refine cV 5 (by simp) (by simp) fun K1 ff=>?_;simp only [bP,hf,hg,bZ,ax,e5,e6,e7,go_sem,List.replicate];refine ff _ ?_;refine cV 5 (by simp) (by simp) fun K1 ff=>?_;simp only [bP,hf,hg,bZ,ax,e5,e6,e7,go_sem,List.replicate];refine ff _ ?_;refine cV 5 (by simp) (by simp) fun K1 ff=>?_;simp only [bP,hf,hg,bZ,ax,e5,e6,e7,go_sem,List.replicate];refine ff _ ?_;refine cV 5 (by simp) (by simp) fun K1 ff=>?_;simp only [bP,hf,hg,bZ,ax,e5,e6,e7,go_sem,List.replicate];refine ff _ ?_;refine cV 5 (by simp) (by simp) fun K1 ff=>?_;simp only [bP,hf,hg,bZ,ax,e5,e6,e7,go_sem,List.replicate];refine ff _ ?_;refine cV 5 (by simp) (by simp) fun K1 ff=>?_;simp only [bP,hf,hg,bZ,ax,e5,e6,e7,go_sem,List.replicate];refine ff _ ?_;refine cV 5 (by simp) (by simp) fun K1 ff=>?_;simp only [bP,hf,hg,bZ,ax,e5,e6,e7,go_sem,List.replicate];refine ff _ ?_;refine cV 5 (by simp) (by simp) fun K1 ff=>?_;simp only [bP,hf,hg,bZ,ax,e5,e6,e7,go_sem,List.replicate];refine ff _ ?_;simp only [bP,hf,hg,bZ,ax,go_sem,List.replicate];refine⟨_,_,by simp only [go_sem,al],.inl (j7),?_⟩;try simp only [go_sem,List.replicate]
 exact hK _ (by simp only [aW,aH,aI,ay,aC,ef])
end
theorem BB:∀ (N:Nat) (t u:Ty),t.size≤N→N≤1048576→b8 aj 18 [br t,br u] (bl (rL t u)):=by
 intro N
 induction N with
 | zero=>intro t u h;have:=t.size_pos;omega
 | succ N ih =>
  intro t u hN hb
  have vj:=t.fE
  have hA:=Nr t.args u.args (by omega) fun i a b ha _=>ih a b (by have:=Ty.DH ha;omega) (by omega)
  refine jL tt_ok (fn:=Tryz.f18) Tryz.func18 rfl Tryz.call18 ?_
  simp only [cZ,cO,Tryz.ntmps18,af,ai,zA,zF,aH,aI]
  rw [aM,aM]
  simp only [ax]
  have e2:=nr t.mod u.mod
  have e3:=nr t.name u.name
  refine aq tt_ok fun K hK=>?_
  simp only [go_sem]
  refine hK _ ?_
  refine bE ?_
  by_cases dN:t.kind=u.kind∧t.mod=u.mod∧t.name=u.name∧t.bD.length=u.bD.length
  ·obtain⟨h1,h2,h3,h4⟩:=dN
   have d1:decide (t.kind=u.kind)=true:=decide_eq_true h1
   rw [eu h2] at e2
   rw [eu h3] at e3
   have d4:decide ((t.bD.length:Int)=(u.bD.length:Int))=true:=by simp [h4]
   refine aq tt_ok fun K hK=>?_
   simp only [d1,e2,e3,d4,dd,go_sem]
   refine hK _ ?_
   refine bd rfl (cw ?_)
   show ek _ _ _ _ _ _
   refine bE ?_
   refine aq tt_ok fun K hK=>?_
   simp only [go_sem]
   refine hK _ ?_
   refine bU (dj (fun N st=>∃ (i:Nat),N=t.bD.length-i∧i≤t.bD.length∧t.bD.take i=u.bD.take i ∧
    st = { fr:=[.undef,.undef,.ptr 0 0,.ptr 1 0,.undef,num i]++List.replicate 84 .undef,mem:=[.box (ax t),.box (ax u)] }) t.bD.length ?_ ?_)
   ·exact⟨2,[false,false,true,true,false,true],by omega,by simp only [aW,aG,aQ,aK,zB,ef],by simp only [aW,aG,aQ,aK,zB,ef],0,by omega,by omega,by simp,rfl⟩
   rintro N' st ⟨i,rfl,hi,zT,rfl⟩
   simp only [cZ,aH,aI,ax]
   refine bE ?_
   by_cases bL:i<t.bD.length
   ·have hd:=iR bL
    refine aq tt_ok fun K hK=>?_
    simp only [dd,hd,go_sem]
    refine hK _ ?_
    refine bd rfl (cw ?_)
    refine bE (bU ?_)
    obtain⟨f,hf⟩:∃ f,t.bD[i]?=some f:=⟨_,aw bL⟩
    obtain⟨g,hg⟩:∃ g,u.bD[i]?=some g:=⟨_,aw (by omega)⟩
    have j7:=ih f.ty g.ty (by have:=Ty.DI hf;omega) (by omega)
    rw [aM,aM] at j7
    have no:¬ f=g→¬ t=u:=fun h e=>h (by rw [e,hg] at hf;exact (mB hf).symm)
    refine mS tt_ok cu [pN,pR,pN,pR,pN,pR,pN,pR,pN,pR,pN,pR,pN,pN,pN,pR,pN,pR,pN,pR,pN,pR,pN,pR,pN,pR,pN,pN,pN,pN,pR,pN,pR,pN,pR,pN,pR,pN,pR,pN,pR,pN,pN,pN] 0 kr fun K hK=>?_
    have Q5:¬ t=u→Fi t u i true K:=fun dL fr zw=>by
     refine hK _ ?_
     refine ou 2 ([false,false,true,true,false,true]++List.replicate 78 false++[true]) (by omega) (by rw [zw];simp only [aH,aI,ay,aC,aW,aG,aQ,aK,zB,ef]) (by simp only [ax,aW,aG,aQ,aK,zB,ef]) ?_
     rw [zw]
     simp only [cZ,aH,aI]
     refine bd rfl ?_
     refine aq tt_ok fun K hK=>?_
     simp only [go_sem]
     refine hK _ ?_
     refine cn ⟨.inl rfl,?_⟩
     rw [da dL];rfl
    by_cases h5:f.name=g.name
    ·by_cases h6:f.opt=g.opt
     ·by_cases h7:f.ty=g.ty
      ·rw [eu h7] at j7
       refine HY hf hg rfl h5 h6 true j7 fun fr zw=>?_
       refine hK _ ?_
       refine ou 2 ([false,false,true,true,false,true]++List.replicate 78 false++[true]) (by omega) (by rw [zw];simp only [aH,aI,ay,aC,aW,aG,aQ,aK,zB,ef]) (by simp only [ax,aW,aG,aQ,aK,zB,ef]) ?_
       rw [zw]
       simp only [cZ,aH,aI]
       refine bd rfl (cw ?_)
       show ek _ _ _ _ _ _
       refine a7 tt_ok fun K hK=>?_
       simp only [go_sem]
       refine hK _ ?_
       have ix:=bm i (by omega)
       rw [ix]
       have hfg:f=g:=(Fd.ext_iff f g).2 ⟨h5,h6,h7⟩
       exact⟨t.bD.length-(i+1),by omega,2,[false,false,true,true,false,true],by omega,by simp only [aW,aG,aQ,aK,zB,ef],by simp only [ax,aW,aG,aQ,aK,zB,ef],i+1,rfl,bL,by rw [bY,bY,zT,hf,hg,hfg],rfl⟩
      rw [da h7] at j7
      exact HY hf hg rfl h5 h6 false j7 (Q5 (no fun e=>h7 ((Fd.ext_iff f g).1 e).2.2))
     exact Ns hf hg rfl h5 h6 (Q5 (no fun e=>h6 ((Fd.ext_iff f g).1 e).2.1))
    exact Ki hf hg rfl h5 (Q5 (no fun e=>h5 ((Fd.ext_iff f g).1 e).1))
   have hd:=iS bL
   refine aq tt_ok fun K hK=>?_
   simp only [dd,hd,go_sem]
   refine hK _ ?_
   refine bd rfl (ep ?_)
   have lh:i=t.bD.length:=by omega
   subst lh
   show ek _ _ _ _ _ _
   refine aq tt_ok fun K hK=>?_
   simp only [go_sem]
   refine .inl ⟨_,_,by simp only [go_sem,al],hA,?_⟩
   try simp only [go_sem]
   refine hK _ ?_
   refine cn ⟨.inl rfl,?_⟩
   have C6:t.bD=u.bD:=by
    rw [al] at zT
    rw [zT,h4,al]
   by_cases h8:t.args=u.args
   ·rw [eu h8,eu ((Ty.ext_iff t u).2 ⟨h1,h2,h3,h8,C6⟩)];rfl
   rw [da h8,da fun e=>h8 ((Ty.ext_iff t u).1 e).2.2.2.1];rfl
  have fin:∀ x,x=false→rL t u=x:=fun x hx=>by
   rw [hx]
   refine da fun e=>dN ?_
   obtain⟨h1,h2,h3,-,h5⟩:=(Ty.ext_iff t u).1 e
   exact⟨h1,h2,h3,by rw [h5]⟩
  rw [fin false rfl]
  have no:decide (t.kind=u.kind)=true→rL t.mod u.mod=true→rL t.name u.name=true→decide ((t.bD.length:Int)=(u.bD.length:Int))=true→False:=fun a b c d =>
   dN ⟨of_decide_eq_true a,Fh.1 b,Fh.1 c,by have:=of_decide_eq_true d;omega⟩
  cases d1:decide (t.kind=u.kind) with
  | false =>
   refine aq tt_ok fun K hK=>?_
   simp only [d1,go_sem]
   refine hK _ ?_
   refine bd rfl ?_
   refine aq tt_ok fun K hK=>?_
   simp only [go_sem]
   refine hK _ ?_
   exact cn ⟨.inl rfl,rfl⟩
  | true =>
   cases d2:rL t.mod u.mod with
   | false =>
    rw [d2] at e2
    refine aq tt_ok fun K hK=>?_
    simp only [d1,e2,go_sem]
    refine hK _ ?_
    refine bd rfl ?_
    refine aq tt_ok fun K hK=>?_
    simp only [go_sem]
    refine hK _ ?_
    exact cn ⟨.inl rfl,rfl⟩
   | true =>
    rw [d2] at e2
    cases d3:rL t.name u.name with
    | false =>
     rw [d3] at e3
     refine aq tt_ok fun K hK=>?_
     simp only [d1,e2,e3,go_sem]
     refine hK _ ?_
     refine bd rfl ?_
     refine aq tt_ok fun K hK=>?_
     simp only [go_sem]
     refine hK _ ?_
     exact cn ⟨.inl rfl,rfl⟩
    | true =>
     rw [d3] at e3
     cases d4:decide ((t.bD.length:Int)=(u.bD.length:Int)) with
     | false =>
      refine aq tt_ok fun K hK=>?_
      simp only [d1,e2,e3,d4,dd,go_sem]
      refine hK _ ?_
      refine bd rfl ?_
      refine aq tt_ok fun K hK=>?_
      simp only [go_sem]
      refine hK _ ?_
      exact cn ⟨.inl rfl,rfl⟩
     | true=>exact (no d1 d2 d3 d4).elim
end
section
attribute [local irreducible] runM gx qb
noncomputable def Dc.clear (d:Dc):Bool:=rL d.lower d.upper&&rL d.upper d.type
theorem Dc.Nt (d:Dc):(rL d.lower d.type&&rL d.upper d.type)=d.clear:=by rw [gu];simp only [Dc.clear,aL,Fh];exact⟨fun h=>⟨h.1.trans h.2.symm,h.2⟩,fun h=>⟨h.1.trans h.2,h.2⟩⟩
noncomputable def Dc.size (d:Dc):Nat :=
 1+d.params.length+(if d.kind=0 then d.type.size+(if d.clear=true then 0 else d.lower.size+d.upper.size)
  else if d.kind=1 then d.type.size+d.expr.size+aS (fun p=>p.bound.size) d.params else 0)
theorem Dc.size_le (d:Dc):d.size≤d.dv:=by
 have:=Ex.kJ _ d.expr (aB _);unfold Dc.size Dc.dv;split;·split <;> omega
 split <;> omega
noncomputable def Md.size (m:Md):Nat:=1+m.imports.length+aS Dc.size m.decls
theorem Nu (d:Dc) (hd:d.dv≤1048576):b8 aj 254 [dt d] (bl d.clear):=by unfold Dc.dv at hd;have hA:=BA d.lower.size d.lower d.upper (aB _) (by omega);have hB:=BA d.upper.size d.upper d.type (aB _) (by omega);rw [aM,aM] at hA hB;simp only [ax] at hA hB;refine jL tt_ok (fn:=Tryz.f254) Tryz.func254 rfl Tryz.call254 ?_;simp only [cZ,cO,Tryz.ntmps254,af,ai,zA,zF,aH,aI];rw [wL];simp only [cZ,fi,ax,aX];refine aq tt_ok fun K hK=>?_;simp only [go_sem];refine hK _ ?_;unfold Dc.clear;cases h1:rL d.lower d.upper with|false =>rw [h1] at hA;refine aq tt_ok fun K hK=>?_;simp only [go_sem];refine .inl ⟨_,_,by simp only [go_sem,al],hA,?_⟩;(try simp only [go_sem]);refine hK _ ?_;exact cn ⟨.inl rfl,rfl⟩|true =>rw [h1] at hA;refine aq tt_ok fun K hK=>?_;simp only [go_sem];refine .inl ⟨_,_,by simp only [go_sem,al],hA,?_⟩;(try simp only [go_sem]);refine .inl ⟨_,_,by simp only [go_sem,al],hB,?_⟩;(try simp only [go_sem]);refine hK _ ?_;exact cn ⟨.inl rfl,rfl⟩
theorem Nv (d:Dc) (hd:d.dv≤1048576):b8 aj 83 [dt d] (bl d.clear):=by unfold Dc.dv at hd;have hA:=BB d.lower.size d.lower d.type (aB _) (by omega);have hB:=BB d.upper.size d.upper d.type (aB _) (by omega);rw [aM,aM] at hA hB;simp only [ax] at hA hB;rw [← Dc.Nt];refine jL tt_ok (fn:=Tryz.f83) Tryz.func83 rfl Tryz.call83 ?_;simp only [cZ,cO,Tryz.ntmps83,af,ai,zA,zF,aH,aI];rw [wL];simp only [cZ,fi,ax,aX];refine aq tt_ok fun K hK=>?_;simp only [go_sem];refine hK _ ?_;cases h1:rL d.lower d.type with|false =>rw [h1] at hA;refine aq tt_ok fun K hK=>?_;simp only [go_sem];refine .inl ⟨_,_,by simp only [go_sem,al],hA,?_⟩;(try simp only [go_sem]);refine hK _ ?_;exact cn ⟨.inl rfl,rfl⟩|true =>rw [h1] at hA;refine aq tt_ok fun K hK=>?_;simp only [go_sem];refine .inl ⟨_,_,by simp only [go_sem,al],hA,?_⟩;(try simp only [go_sem]);refine .inl ⟨_,_,by simp only [go_sem,al],hB,?_⟩;(try simp only [go_sem]);refine hK _ ?_;exact cn ⟨.inl rfl,rfl⟩
end
structure Fo where
  fl:ByteArray
  ty:Int
  lb:Bool
  kd:Int
def km (k:Int):Option Fo :=
  if k=0 then some ⟨⟨#[98]⟩,0,false,0⟩ else if k=1 then some ⟨⟨#[120]⟩,0,false,0⟩ else if k=2 then some ⟨⟨#[98]⟩,0,false,0⟩ else if k=3 then some ⟨⟨#[110]⟩,0,false,0⟩
  else if k=4 then some ⟨⟨#[109,110]⟩,-1,false,0⟩ else if k=5 then some ⟨⟨#[]⟩,0,true,0⟩ else if k=6 then some ⟨⟨#[110]⟩,0,false,1⟩ else if k=7 then some ⟨⟨#[110]⟩,0,false,1⟩
  else if k=8 then some ⟨⟨#[116,111]⟩,0,true,1⟩ else if k=9 then some ⟨⟨#[]⟩,0,true,1⟩ else if k=10 then some ⟨⟨#[110]⟩,0,false,2⟩ else if k=11 then some ⟨⟨#[]⟩,1,false,1⟩
  else if k=12 then some ⟨⟨#[]⟩,1,false,3⟩ else if k=13 then some ⟨⟨#[118]⟩,1,true,1⟩ else if k=14 then some ⟨⟨#[]⟩,1,false,-1⟩ else if k=15 then some ⟨⟨#[110,120]⟩,1,false,3⟩
  else if k=16 then some ⟨⟨#[110]⟩,0,false,-1⟩ else none
def cD (fl s:ByteArray):Bool:=Lib.contains fl.data.toList s.data.toList
def xS:List ByteArray:=[⟨#[43]⟩,⟨#[45]⟩,⟨#[42]⟩,⟨#[60]⟩,⟨#[61,61]⟩,⟨#[61,61,61]⟩,⟨#[43,43]⟩,⟨#[97,110,100]⟩,⟨#[111,114]⟩]
def y9:List ByteArray:=[⟨#[110,111,116]⟩,⟨#[108,101,110,103,116,104]⟩]
def xT (s:ByteArray):Int:=if rC s xS=true then 2 else if rC s y9=true then 1 else 0
def ij (l:List Lb):Nat:=(l.filter Lb.opt).length
def fG (x:Ex) (kd:Int):Int:=if x.kind=16 then xT x.name else if x.kind=8 then 1+ij x.labels else if kd<0 then -1 else kd+x.labels.length
def mw (fl:ByteArray) (l:Lb):Bool:=!jU l.var && !cD fl ⟨#[118]⟩ || !iX l.ty && !cD fl ⟨#[116]⟩||l.opt && !cD fl ⟨#[111]⟩
def q1 (x:Ex) (fl:ByteArray):Bool:=!jU x.mod && !cD fl ⟨#[109]⟩
def q2 (x:Ex) (fl:ByteArray):Bool:=!jU x.name && !cD fl ⟨#[110]⟩
def q3 (x:Ex) (fl:ByteArray):Bool:=!jU x.text && !cD fl ⟨#[120]⟩
def q4 (x:Ex) (fl:ByteArray):Bool:=!decide (x.num=0) && !cD fl ⟨#[98]⟩
def q5 (x:Ex):Bool:=decide (x.kind=2) && !decide (x.num=0) && !decide (x.num=1)
def q6 (x:Ex) (kd:Int):Bool:=decide (x.kind=16)&&decide (fG x kd=0)
def q7 (x:Ex) (ty:Int):Bool:=decide (0≤ty) && !decide ((x.types.length:Int)=ty)
def q8 (x:Ex) (lb:Bool):Bool:=decide (0<x.labels.length) && !lb
def q9 (x:Ex) (kd:Int):Bool:=decide (0≤fG x kd) && !decide ((x.kids.length:Int)=fG x kd)
def oH (x:Ex) (fl:ByteArray) (ty:Int) (lb:Bool) (kd:Int):Bool :=
  !q1 x fl && !q2 x fl && !q3 x fl && !q4 x fl && !q5 x && !q6 x kd && !q7 x ty && !q8 x lb && !q9 x kd && !(x.labels.any (mw fl))
def rF (fl:ByteArray) (l:Lb):Bool:=!dX l.name||cD fl ⟨#[118]⟩ && !dX l.var
def m1 (x:Ex) (fl:ByteArray):Bool:=cD fl ⟨#[109]⟩ && !nY x.mod
def m2 (x:Ex) (fl:ByteArray):Bool:=cD fl ⟨#[110]⟩ && !decide (x.kind=16) && !dX x.name
def m3 (x:Ex):Bool:=decide (x.kind=15) && !dX x.text
def rK (x:Ex) (fl:ByteArray):Bool:=m1 x fl||m2 x fl||m3 x||x.labels.any (rF fl)
def oI (x:Ex):Int:=match km x.kind with
  | none=>1
  | some f=>if oH x f.fl f.ty f.lb f.kd=false then 1
    else if 32<x.labels.length∨8<x.types.length∨65536<x.text.size then 7
    else if rK x f.fl=true then 4
    else if iJ (x.labels.map Lb.name)≠0 then iJ (x.labels.map Lb.name)
    else if x.kind=15∧x.name=x.text then 5
    else cy mg x.own
noncomputable def xd (e:Ex):Int:=if 4096<e.size∨32<e.depth then 7 else cy oI e.nodes
def BC (x:Ex):Bool:=decide (x.kind=0)&&jU x.mod&&jU x.name&&jU x.text&&decide (x.num=0)&&decide (x.types.length=0)&&decide (x.labels.length=0)&&decide (x.kids.length=0)
def LQ (d:Dc):Bool :=
  !(d.deprecated && !d.exported) && !(!jU d.note && !d.deprecated) &&
  (if d.kind=0 then !(d.params.any fun p=>!iX p.bound) && !(d.params.any fun p=>decide (p.eD<0)||decide (2<p.eD))&&BC d.expr&&jU d.mod&&jU d.target
   else if d.kind=1 then !(d.params.any fun p=>!decide (p.eD=0))&&iX d.lower&&iX d.upper&&jU d.mod&&jU d.target
   else if d.kind=2 then decide (d.params.length=0)&&iX d.lower&&iX d.upper&&iX d.type&&BC d.expr else false)
def Va (d:Dc):Bool :=
  !(d.params.any fun p=>!kI p.name) &&
  (if d.kind=0 then kI d.name else if d.kind=1 then dX d.name
   else (dX d.name&&dX d.target||kI d.name&&kI d.target) && !jU d.mod&&nY d.mod)
noncomputable def DJ (before:List Dc) (d:Dc):Int :=
  if LQ d=false then 1
  else if 8<d.params.length∨65536<d.note.size then 7
  else if Va d=false then 4
  else if (before.any fun x=>decide (x.name=d.name))=true then 5
  else if y8 (d.params.map Pm.name)=true then 5
  else if cy mg ([d.lower,d.upper,d.type]++d.params.map Pm.bound)≠0 then cy mg ([d.lower,d.upper,d.type]++d.params.map Pm.bound)
  else xd d.expr
def DK (path:ByteArray) (before:List Im) (x:Im):Int :=
  if dV x.path=false∨dX x.alias=false then 4
  else if x.path=path then 14
  else if (before.any fun y=>decide (y.path=x.path)||decide (y.alias=x.alias))=true then 5 else 0
def lG {α:Type} (f:List α→α→Int):List α→List α→Nat×Int
  | _,[]=>(0,0)
  | b,x :: r=>if f b x=0 then (if (lG f (b++[x]) r).2=0 then (0,0) else ((lG f (b++[x]) r).1+1,(lG f (b++[x]) r).2)) else (0,f b x)
noncomputable def Fj (m:Md):Int :=
  if dV m.path=false then 4
  else if 16<m.imports.length∨64<m.decls.length∨4096<m.size then 7
  else (lG (DK m.path) [] m.imports).2
noncomputable def Kj (m:Md):Int×Int:=if Fj m≠0 then (-1,Fj m) else (((lG DJ [] m.decls).1:Nat),(lG DJ [] m.decls).2)
end Go.Proofs.YtfbbfmcggbapoaaGreatDoor
end
section
namespace Go.Proofs.YtfbbfmcggbapoaaGreatDoor
open Go.Eng
set_option maxHeartbeats 4000000
set_option maxRecDepth 100000
def bt (s:ByteArray):List UInt8:=s.data.toList
def jn (sep:List UInt8):List (List UInt8)→List UInt8
  | []=>[]
  | x :: r=>x++r.flatMap fun y=>sep++y
theorem Vb (sep x:List UInt8):∀ l:List (List UInt8),jn sep (l++[x])=jn sep l++(if l=[] then [] else sep)++x
  | []=>by simp [jn]
  | y :: r=>by simp [jn,pU]
theorem LS {sep:List UInt8} {l:List (List UInt8)} {i:Nat} {x:List UInt8} (h:l[i]?=some x):jn sep (l.take (i+1))=jn sep (l.take i)++(if 0<i then sep else [])++x:=by
  have bL:=(az.1 h).1;rw [bY,h,asn,Vb];by_cases hi:0<i;·rw [if_pos hi,if_neg];intro e;have h2:=congrArg List.length e;rw [cQ,ai] at h2;omega
  ·(have:i=0:=by omega);subst this;simp
def LU (m n:ByteArray) (l:List (List UInt8)):List UInt8:=(if m=⟨#[]⟩ then [] else bt m++[58,58])++bt n++(if l=[] then [] else [91]++jn [44,32] l++[93])
def ZR (k:Int):List UInt8:=if k=0 then [97,110,121] else if k=1 then [110,111,110,101] else if k=2 then [105,110,116] else if k=3 then [98,111,111,108] else [116,101,120,116]
mutual
def Ty.pr:Ty→List UInt8
  | .mk k m n ar fs =>
    if k=5 then [108,105,115,116,91]++lT ar++[93]
    else if k=6 then [123]++jn [44,32] (DL fs)++[125]
    else if k=7 then [60]++jn [32,124,32] (DL fs)++[62]
    else if k=8 then [102,110,40]++jn [44,32] (DL fs)++[41,32]++lT ar
    else if k=10 then LU m n (LV ar)
    else ZR k
def lT:List Ty→List UInt8
  | []=>[]
  | t :: _=>t.pr
def LV:List Ty→List (List UInt8)
  | []=>[]
  | t :: r=>t.pr :: LV r
def Fd.pr:Fd→List UInt8
  | .mk n t o=>bt n++(if o=true then [63] else [])++[58,32]++t.pr
def DL:List Fd→List (List UInt8)
  | []=>[]
  | f :: r=>f.pr :: DL r
end
theorem Nw (l:List Ty):LV l=l.map Ty.pr:=by induction l with|nil=>rfl|cons t r ih=>simp [LV,ih]
theorem Nx (l:List Fd):DL l=l.map Fd.pr:=by induction l with|nil=>rfl|cons t r ih=>simp [DL,ih]
theorem Fd.ju (f:Fd):f.pr=bt f.name++(if f.opt=true then [63] else [])++[58,32]++f.ty.pr:=by obtain⟨n,t,o⟩:=f;rw [Fd.pr];rfl
theorem Ty.ju (t:Ty):t.pr=if t.kind=5 then [108,105,115,116,91]++lT t.args++[93]
    else if t.kind=6 then [123]++jn [44,32] (t.bD.map Fd.pr)++[125]
    else if t.kind=7 then [60]++jn [32,124,32] (t.bD.map Fd.pr)++[62]
    else if t.kind=8 then [102,110,40]++jn [44,32] (t.bD.map Fd.pr)++[41,32]++lT t.args
    else if t.kind=10 then LU t.mod t.name (t.args.map Ty.pr)
    else ZR t.kind:=by obtain⟨k,m,n,ar,fs⟩:=t;rw [Ty.pr,Nw,Nx];rfl
def xU (s:ByteArray):Int×Int×Int :=
  if s=⟨#[111,114]⟩ then (1,1,2) else if s=⟨#[97,110,100]⟩ then (2,2,3) else if s=⟨#[110,111,116]⟩ then (3,3,0)
  else if s=⟨#[61,61]⟩∨s=⟨#[61,61,61]⟩∨s=⟨#[60]⟩ then (4,5,5) else if s=⟨#[43]⟩∨s=⟨#[45]⟩∨s=⟨#[43,43]⟩ then (5,5,6)
  else if s=⟨#[42]⟩ then (6,6,7) else (7,7,0)
def Ex.lvl (x:Ex):Int :=
  if x.kind=10∨x.kind=12∨x.kind=13∨x.kind=15∨x.kind=8 then 0 else if x.kind=16 then (xU x.name).1
  else if x.kind=6∨x.kind=9 then 8 else if x.kind=0∧x.num<0 then 7 else 9
def uY (lv least:Int) (s:List UInt8):List UInt8:=if least≤lv then s else [40]++s++[41]
def ZS (ls:List Lb) (P:List (List UInt8)):List UInt8:=jn [44,32] (List.zipWith (fun l p=>bt l.name++[58,32]++p) ls P)
def ZT (ls:List Lb) (P:List (List UInt8)):List UInt8:=jn [44,32] (List.zipWith (fun l p=>bt l.name++[32]++bt l.var++[32,61,62,32]++p) ls P)
def IU:List Lb→List (List UInt8)→List (List UInt8)
  | [],_=>[]
  | l :: r,P=>if l.opt=true then (bt l.name++[58,32]++l.ty.pr++[32,61,32]++P.headD []) :: IU r P.tail else (bt l.name++[58,32]++l.ty.pr) :: IU r P
def Ny (n:UInt8):UInt8:=if n<10 then 48+n else 87+n
def IV (c:UInt8):List UInt8:=if c=34∨c=92 then [92,c] else if c=10 then [92,110] else if 32≤c∧c≤126 then [c] else [92,120,Ny (c / 16),Ny (c % 16)]
def Nz (s:ByteArray):List UInt8:=[34]++(bt s).flatMap IV++[34]
def opS (x:Ex) (P:List (List UInt8)):List UInt8 :=
  let a (i:Nat) (least:Int):List UInt8:=uY ((x.kids.map Ex.lvl)[i]?.getD 9) least (P[i]?.getD [])
  if x.kids.length=1 then bt x.name++[32]++a 0 (xU x.name).2.1 else a 0 (xU x.name).2.1++[32]++bt x.name++[32]++a 1 (xU x.name).2.2
def Fk (w:List UInt8) (ts:List Ty):List UInt8:=w++[91]++lT ts++[93]
def CK (x:Ex) (P:List (List UInt8)):List UInt8 :=
  let p (i:Nat):List UInt8:=P[i]?.getD []
  let f:List UInt8:=uY ((x.kids.map Ex.lvl)[0]?.getD 9) 8 (p 0)
  if x.kind=0 then Lib.itoa x.num else if x.kind=1 then Nz x.text
  else if x.kind=2 then (if x.num=1 then [116,114,117,101] else [102,97,108,115,101])
  else if x.kind=3∨x.kind=4 then LU x.mod x.name (x.types.map Ty.pr)
  else if x.kind=5 then [123]++ZS x.labels P++[125]
  else if x.kind=6 then f++[46]++bt x.name
  else if x.kind=7 then [60]++bt x.name++[58,32]++p 0++[62]
  else if x.kind=8 then [102,110,40]++jn [44,32] (IU x.labels P)++[41,32,61,62,32]++p (x.labels.filter Lb.opt).length
  else if x.kind=9 then f++[40]++ZS x.labels P.tail++[41]
  else if x.kind=10 then [108,101,116,32]++bt x.name++[32,61,32]++p 0++[32,105,110,32]++p 1
  else if x.kind=11 then [40]++p 0++[32,58,32]++lT x.types++[41]
  else if x.kind=12 then Fk [105,102] x.types++[32]++p 0++[32,116,104,101,110,32]++p 1++[32,101,108,115,101,32]++p 2
  else if x.kind=13 then Fk [109,97,116,99,104] x.types++[32]++p 0++[32,123]++ZT x.labels P.tail++[125]
  else if x.kind=14 then [91]++lT x.types++[124]++(if P=[] then [] else [32]++jn [44,32] P)++[93]
  else if x.kind=15 then Fk [102,111,108,100] x.types++[32]++bt x.name++[44,32]++bt x.text++[32,105,110,32]++p 0++[32,102,114,111,109,32]++p 1++[32,61,62,32]++p 2
  else opS x P
mutual
def Ex.pr:Ex→List UInt8
  | .mk k m n t nu ts ls ks=>CK (.mk k m n t nu ts ls ks) (LW ks)
def LW:List Ex→List (List UInt8)
  | []=>[]
  | x :: r=>x.pr :: LW r
end
theorem NA (l:List Ex):LW l=l.map Ex.pr:=by induction l with|nil=>rfl|cons t r ih=>simp [LW,ih]
theorem Ex.ju (x:Ex):x.pr=CK x (x.kids.map Ex.pr):=by obtain⟨k,m,n,t,nu,ts,ls,ks⟩:=x;rw [Ex.pr,NA];rfl
def vrS (v:Int):List UInt8:=if v=0 then [43] else if v=1 then [45] else [61]
def NB (kind:Int) (p:Pm):List UInt8:=if kind=0 then vrS p.eD++bt p.name else bt p.name++(if p.bound.kind=0 then [] else [32,60,58,32]++p.bound.pr)
def CL (kind:Int) (l:List Pm):List UInt8:=if l=[] then [] else [91]++jn [44,32] (l.map (NB kind))++[93]
def bdS (trans:Bool) (d:Dc):List UInt8 :=
  if trans=true then [] else (if d.lower.kind=1 then [] else [32,62,58,32]++d.lower.pr)++(if d.upper.kind=0∧¬ d.lower.kind=1 then [] else [32,60,58,32]++d.upper.pr)
def Q6 (trans:Bool) (d:Dc):List UInt8 :=
  (if d.exported=true then [101,120,112,111,114,116,32] else []) ++
  (if d.deprecated=true then [100,101,112,114,101,99,97,116,101,100,32]++Nz d.note++[32] else []) ++
  (if d.kind=0 then [116,121,112,101,32]++bt d.name++CL 0 d.params++bdS trans d++[32,61,32]++d.type.pr
   else if d.kind=1 then [108,101,116,32]++bt d.name++CL 1 d.params++[58,32]++d.type.pr++[32,61,32]++d.expr.pr
   else [117,115,101,32]++bt d.mod++[58,58]++bt d.target++[32,97,115,32]++bt d.name)++[10]
def W9 (x:Im):List UInt8:=[105,109,112,111,114,116,32]++bt x.path++[32,97,115,32]++bt x.alias++[10]
def NC (trans:Dc→Bool) (m:Md):List UInt8:=[109,111,100,117,108,101,32]++bt m.path++[10]++m.imports.flatMap W9++m.decls.flatMap (fun d=>Q6 (trans d) d)
end Go.Proofs.YtfbbfmcggbapoaaGreatDoor
end
section
namespace Go.Proofs.YtfbbfmcggbapoaaGreatDoor
open Go.Eng
variable [bB]
set_option maxHeartbeats 4000000
set_option maxRecDepth 100000
theorem lN {α:Type} (f:α→Int) (l:List α):cy f l=0↔∀ u∈l,f u=0:=by induction l with|nil=>simp [cy]|cons a r ih =>unfold cy;by_cases h:f a=0;(·rw [if_pos h,ih];simp [h]);rw [if_neg h];simp [h]
theorem dY (s:ByteArray):(bt s).length=s.size:=by cases s;simp [bt,ByteArray.size]
theorem xV (sep:List UInt8) (l:List (List UInt8)):(jn sep l).length≤aS (fun x=>x.length+sep.length) l:=by cases l with|nil=>simp [jn]|cons x r =>(have:(r.flatMap fun y=>sep++y).length=aS (fun x=>x.length+sep.length) r:=by induction r with|nil=>rfl|cons y r ih=>simp only [ae,ab,aS,ih];omega);simp only [jn,ab,aS,this];omega
theorem jD {α:Type} {g h:α→Nat} {l:List α} (e:∀ a∈l,g a≤h a):aS g l≤aS h l:=by induction l with|nil=>simp [aS]|cons a r ih =>have h1:=e a (by simp);have h2:=ih fun b hb=>e b (by simp [hb]);simp only [aS];omega
theorem qs {α:Type} (c:Nat) (g:α→Nat) (l:List α):aS (fun a=>c*g a) l=c*aS g l:=by induction l with|nil=>simp [aS]|cons a r ih=>simp only [aS,ih,Nat.mul_add]
theorem lH {s:ByteArray} (h:dX s=true):s.size≤32:=by simp only [dX,aL,decide_eq_true_eq] at h;omega
theorem ND {s:ByteArray} (h:kI s=true):s.size≤32:=by simp only [kI,aL,decide_eq_true_eq] at h;omega
theorem BD {s:ByteArray} (h:jU s=true):s.size=0:=by simp only [jU,decide_eq_true_eq] at h;subst h;rfl
theorem Kk {s:ByteArray} (h:dV s=true):s.size≤64:=by simp only [dV,aL,decide_eq_true_eq] at h;omega
theorem NF {s:ByteArray} (h:nY s=true):s.size≤64:=by
 simp only [nY,gv] at h;rcases h with (h|h)|h
 ·have:=BD h;omega
 ·have:=lH h;omega
 exact Kk h
theorem BE {m n:ByteArray} {l:List (List UInt8)} {a b:Nat} (hm:m.size≤a) (hn:n.size≤b):(LU m n l).length≤a+b+4+aS (fun x=>x.length+2) l:=by
 have h:(jn [44,32] l).length≤aS (fun x=>x.length+2) l:=xV [44,32] l;have h1:(if m=⟨#[]⟩ then ([]:List UInt8) else bt m++[58,58]).length≤a+2:=by split;(·simp);rw [ab,dY];simp;omega
 have h2:(if l=[] then ([]:List UInt8) else [91]++jn [44,32] l++[93]).length≤2+aS (fun x=>x.length+2) l:=by split;(·simp);simp only [ab,af,ai];omega
 simp only [LU,ab,dY];omega
theorem Ty.tz:∀ (N:Nat) (t:Ty),t.size≤N→(∀ u∈t.nodes,qz u=0)→t.pr.length+40≤144*t.size:=by intro N;induction N with|zero=>intro t h;have:=t.size_pos;omega|succ N ih =>intro t hN hn;have hs:=t.dB;rw [Ty.er] at hn;have h0:qz t=0:=hn t (by simp);(have hp:∀ u∈t.parts,u.pr.length+40≤144*u.size:=fun u hu=>by obtain⟨i,hi⟩:=cb.1 hu;have:=b9 Ty.size hi;exact ih u (by omega) fun v hv=>hn v (ct _ (iN.2 ⟨u,hu,hv⟩)));(have ha:aS (fun u=>u.pr.length+40) t.args≤144*aS Ty.size t.args:=by rw [← qs];exact jD fun u hu=>hp u (by simp [Ty.parts,hu]));(have K0:aS Ty.size t.parts=aS Ty.size t.args+aS (fun f=>f.ty.size) t.bD:=by simp only [Ty.parts,fC,jT]);(have xb:∀ f∈t.bD,f.name.size≤32:=by intro f hf;unfold qz at h0;(split at h0;· simp at h0);(split at h0;· simp at h0);(split at h0;· simp at h0);(split at h0;· simp at h0);rename_i h4;(have:dX f.name=true:=by cases h5:dX f.name with|true=>rfl|false=>exact absurd (tV.2 ⟨f,hf,by simp [h5]⟩) h4);exact lH this);(have hf:aS (fun f=>f.pr.length+3) t.bD≤144*aS (fun f=>f.ty.size) t.bD:=by rw [← qs];refine jD fun f hf=>?_;have h1:=hp f.ty (by simp only [Ty.parts,ib,eI];exact .inr ⟨f,hf,rfl⟩);have h2:=xb f hf;(have h3:(if f.opt=true then ([63]:List UInt8) else []).length≤1:=by split <;> simp);rw [Fd.ju];simp only [ab,dY,af,ai];omega);(have Xa:(lT t.args).length≤aS (fun u=>u.pr.length+40) t.args:=by cases t.args with|nil=>simp [lT]|cons a r=>simp only [lT,aS];omega);(have hj:∀ sep:List UInt8,sep.length≤3→(jn sep (t.bD.map Fd.pr)).length≤aS (fun f=>f.pr.length+3) t.bD:=fun sep ve=>by refine fX (xV _ _) ?_;rw [jT];exact jD fun f _=>by omega);rw [Ty.ju];split;(·simp only [ab,af,ai];omega);split;(·have:=hj [44,32] (by simp);simp only [ab,af,ai];omega);split;(·have:=hj [32,124,32] (by simp);simp only [ab,af,ai];omega);split;(·have:=hj [44,32] (by simp);simp only [ab,af,ai];omega);split;(·rename_i C9;(have Pp:t.mod.size≤64∧t.name.size≤32:=by unfold qz at h0;(split at h0;· simp at h0);(split at h0;· simp at h0);(split at h0;· simp at h0);rename_i h4;(have h5:nY t.mod=true∧kI t.name=true:=by cases h6:nY t.mod <;> cases h7:kI t.name <;> simp [C9,h6,h7] at h4 ⊢);exact⟨NF h5.1,ND h5.2⟩);have:=BE (l:=t.args.map Ty.pr) Pp.1 Pp.2;rw [jT] at this;(have h8:aS (fun u:Ty=>u.pr.length+2) t.args≤aS (fun u=>u.pr.length+40) t.args:=jD fun u _=>by omega);omega);(have:(ZR t.kind).length≤4:=by unfold ZR;(repeat' split);all_goals simp);omega
end Go.Proofs.YtfbbfmcggbapoaaGreatDoor
end
section
namespace Go.Proofs.YtfbbfmcggbapoaaGreatDoor
set_option maxHeartbeats 4000000
set_option maxRecDepth 100000
section
open Go.Proofs Go.Lib Go.RowKit
theorem LX:∃ j,aj.info? 127=some j∧j.size=2:=bc.1 (show (aj.info? 127).map (·.size)=some 2 from kr)
def okB (T:TypeId):Prop:=liesAt aj aj.depth T (2 / aj.cellsOf T) 0 127 1=true
theorem wN:okB 127:=by unfold okB;kernel_rfl
theorem aeu:okB 129:=by unfold okB;kernel_rfl
theorem BF (b:Nat) (w:World) (h0:w.cell? ⟨b,0,none⟩=some (.pointer (some ⟨b,0,none⟩))) :
  Calls aj 212 #[.pointer (some ⟨b,0,none⟩)] w fun e w'=>e = .returned (.tuple #[])∧w'=w:=by obtain⟨j,hj,_⟩:=LX;go_enter Tryz.func212,Tryz.ntmps212;go_wp2;rw [Lib.run_neq_ptr_same w _ Tryz.underlying124 hj];go_wp2;go_end0;exact⟨rfl,rfl⟩
theorem za (T:TypeId) (hT:okB T) (b:Nat) (w:World) (h0:w.cell? ⟨b,0,none⟩=some (.pointer none)) (pQ:w.shape? b=some (T,2)) (hfz:w.frozen? ⟨b,0,none⟩=false) :
  Calls aj 212 #[.pointer (some ⟨b,0,none⟩)] w fun e w'=>e = .returned (.tuple #[])∧w'=w.setCell ⟨b,0,none⟩ (.pointer (some ⟨b,0,none⟩)):=by obtain⟨j,hj,hjs⟩:=LX;go_enter Tryz.func212,Tryz.ntmps212;go_wp2;rw [Lib.run_to_unsafe w ⟨b,0,none⟩ Tryz.underlying124 Tryz.underlying245 hj (by rw [hjs];decide) pQ (Nat.zero_lt_succ 1)];simp only [Result.andThen];rw [Oper.upon_value];go_wp2;rw [run_callFunc_extern Tryz.func261 kr kr kr (e:=Extern.AbiNoEscape.same) kr];rw [Lib.run_noEscape];simp only [Result.andThen];rw [Oper.upon_value];go_wp2;rw [Lib.run_from_unsafe w ⟨b,0,none⟩ Tryz.underlying245 Tryz.underlying124 hj pQ hT];simp only [Result.andThen];rw [Oper.upon_value];go_wp2;go_end0;exact⟨rfl,rfl⟩
theorem BG {P:Program} {ops:Array Oper} {rest:List Oper} {o:Oper} {a:Act} {Q:Exit→Act→World→Prop} {w w':World} (hgd:o.guard=none) (sl x:Operand) (t u:TypeId) (ho:o.op = .call { callee:=.builtin .append,args := #[sl,x],argTypes := #[t,u] })
  {v v' z:Value} (hs:a.eval sl=v) (hx:a.eval x=z) (hr:(Builtin.append_ #[t,u] o.type #[v,z]).run P w = .ok v' w') (h:wpList P ops Q rest (a.put o.dst v') w'):wpList P ops Q (o :: rest) a w:=by refine wpList_plain hgd fun K hK=>?_;unfold Oper.wp execOp;simp only [ho,resolve,invoke,builtin,Sem.run_bind,Sem.run_pure,Result.andThen_ok,List.map_toArray,bT,jo,hs,hx,hr];exact hK _ _ h
theorem wO (b:Nat) (s:ByteArray) (w w1 w2:World) (sv ZU:Value) (va:Option Addr) (vn vc:Nat)
  (vf:Calls aj 212 #[.pointer (some ⟨b,0,none⟩)] w fun e w'=>e = .returned (.tuple #[])∧w'=w1) (c1:w1.cell? ⟨b,1,none⟩=some sv)
  (hr:(Builtin.append_ #[125,9] 125 #[sv,.string s]).run aj w1 = .ok (.slice va vn vc) w2) (d1:w2.cell? ⟨b,1,none⟩=some ZU) (f1:w2.frozen? ⟨b,1,none⟩=false) :
  Calls aj 135 #[.pointer (some ⟨b,0,none⟩),.string s] w fun e w'=>e = .returned (.tuple #[.int .i64 s.size,.nilIface])∧w'=w2.setCell ⟨b,1,none⟩ (.slice va vn vc):=by go_enter Tryz.func135,Tryz.ntmps135;go_wp2_with (go_at_call 212;refine vf.mono ?_);rintro e w' ⟨rfl,rfl⟩;go_wp2_with (at_builtin;refine BG rfl _ _ 125 9 rfl rfl rfl hr ?_);go_wp2;go_ret2;exact⟨rfl,rfl⟩
theorem zb (b:Nat) (c:Int) (w w1 w2:World) (sv ZU:Value) (va:Option Addr) (vn vc:Nat)
  (vf:Calls aj 212 #[.pointer (some ⟨b,0,none⟩)] w fun e w'=>e = .returned (.tuple #[])∧w'=w1) (c1:w1.cell? ⟨b,1,none⟩=some sv)
  (hr:(Builtin.append_ #[125,125] 125 #[sv,.slice (some ⟨w1.heap.size,0,none⟩) 1 1]).run aj (w1.alloc (.cells #[.int .u8 c] 5 (0,0))) = .ok (.slice va vn vc) w2) (d1:w2.cell? ⟨b,1,none⟩=some ZU) (f1:w2.frozen? ⟨b,1,none⟩=false) :
  Calls aj 195 #[.pointer (some ⟨b,0,none⟩),.int .u8 c] w fun e w'=>e = .returned .nilIface∧w'=w2.setCell ⟨b,1,none⟩ (.slice va vn vc):=by go_enter Tryz.func195,Tryz.ntmps195;go_wp2_with (go_at_call 212;refine vf.mono ?_);rintro e w' ⟨rfl,rfl⟩;go_wp2_with (at_builtin;refine BG rfl _ _ 125 125 rfl rfl rfl hr ?_);go_wp2;go_ret;exact⟨rfl,rfl⟩
theorem NH (b:Nat) (w:World) (va:Option Addr) (vn vc:Nat) (c1:w.cell? ⟨b,1,none⟩=some (.slice va vn vc)) :
  Calls aj 84 #[.pointer (some ⟨b,0,none⟩)] w fun e w'=>e = .returned (.int .i64 vn)∧w'=w:=by go_enter Tryz.func84,Tryz.ntmps84;go_wp2;go_ret;exact⟨rfl,rfl⟩
end
end Go.Proofs.YtfbbfmcggbapoaaGreatDoor
end
section
namespace Go.Proofs.YtfbbfmcggbapoaaGreatDoor
open Go.Eng
variable [bB]
open Nat renaming reduceAdd → zA, reduceLT → zB, reduceLeDiff → zC, reduceMul → zD, reduceEqDiff → zE, reduceSub → zF
set_option maxHeartbeats 4000000
set_option maxRecDepth 100000
def bs (l:List UInt8):ByteArray:=⟨l.toArray⟩
theorem HZ (l:List UInt8):bt (bs l)=l:=by simp [bt,bs]
theorem zY (l:List UInt8):(bs l).size=l.length:=by simp [bs,ByteArray.size]
def bM (T:TypeId) (v:Nat) (O:List UInt8) (l:List bx):List bx:=.n5 T 1 v O.length :: .oW 5 v O :: l
def WG (x:V) (T:TypeId) (O X:List UInt8) (l:List bx) (r:V) (m:List bx):Prop:=r=x∧∃ O' v',O'=O++X∧m=bM T v' O' l
abbrev WR:=WG (.eg []) 129
theorem H0 (T:TypeId) (v:Nat) (O:List UInt8):(bM T v O []).all (aK 2)=true:=rfl
theorem H2 {x:V} {T:TypeId} {f:FuncId} {vs:List V} {O X:List UInt8} {v:Nat} (h:∃ r m,WG x T O X [] r m∧bI aj f vs (bM T v O []) r m) (hv:vs.all (aG 2)=true) (hx:aG 2 x=true) (l:List bx) :
  ∃ r m,WG x T O X l r m∧bI aj f vs (.n5 T 1 v O.length :: .oW 5 v O :: l) r m:=by obtain⟨r,m,⟨rfl,O',v',rfl,rfl⟩,h⟩:=h;exact⟨_,_,⟨rfl,_,v',rfl,rfl⟩,h.frame hv (H0 T v O) hx rfl (H0 T v' _) l⟩
theorem tB {f:FuncId} {vs:List V} {O X:List UInt8} {v:Nat} (h:∃ r m,WR O X [] r m∧bI aj f vs (bM 129 v O []) r m) (hv:vs.all (aG 2)=true) (l:List bx) :
  ∃ r m,WR O X l r m∧bI aj f vs (.n5 129 1 v O.length :: .oW 5 v O :: l) r m:=H2 h hv rfl l
theorem nw (w:World) {g:Nat} {cs:Array Value} {T:TypeId} (h:w.heap[g]?=some (.cells cs T (0,0))) (o:Nat):w.cell? ⟨g,o,none⟩=cs[o]?:=by simp [World.cell?,h]
theorem ZV {w:World} {g i:Nat} {cs:Array Value} {T:TypeId} (v:Value) (h:w.heap[g]?=some (.cells cs T (0,0))):o3 w (w.setCell ⟨g,i,none⟩ v) g∧(w.setCell ⟨g,i,none⟩ v).heap[g]?=some (.cells (cs.setIfInBounds i v) T (0,0)) :=
 ⟨⟨rfl,rfl,rfl,by simp [World.setCell],fun b hb=>heap_setCell_other w _ b v hb⟩,heap_setCell_same w g i cs T v h⟩
theorem Xb {E:Env} {a b:V} {xs:Array Value} (hx:cU E [a,b] xs.toList):∃ x y,xs = #[x,y]∧cY E a x∧cY E b y:=by obtain⟨x0,ys,n7,Ct,Bd⟩:=hx.of_cons;obtain⟨x1,zs,hys,Cr,ZW⟩:=Bd.of_cons;have OS:=ZW.of_nil;subst OS;subst hys;exact⟨x0,x1,by rw [← cE (xs:=xs),n7],Ct,Cr⟩
theorem Xc {E:Env} {a:V} {xs:Array Value} (hx:cU E [a] xs.toList):∃ x,xs = #[x]∧cY E a x:=by obtain⟨x0,ys,n7,Ct,Bd⟩:=hx.of_cons;obtain rfl:=Bd.of_nil;exact⟨x0,by rw [← cE (xs:=xs),n7],Ct⟩
theorem tt5i:∃ i,aj.info? 5=some i∧i.zero=some (.int .u8 0)∧i.size=1∧i.bytes=1:=by obtain⟨i,h1,h2⟩:=bc.1 (show (aj.info? 5).map (fun i=>(i.zero,i.size,i.bytes))=some (some (.int .u8 0),1,1) from kr);simp only [dy] at h2;exact⟨i,h1,h2.1,h2.2.1,h2.2.2⟩
theorem Xd {T:TypeId} (hT:okB T) {E:Env} {w:World} {a:Act} {fr:List V} {v:Nat} {O:List UInt8} {l:List bx} (hs:de E w a { fr:=fr,mem:=bM T v O l }) :
  ∃ g T' sv w1,E.cC 0 0=some (g,0,0)∧Calls aj 212 #[.pointer (some ⟨g,0,none⟩)] w (fun e w'=>e = .returned (.tuple #[])∧w'=w1)∧w1.heap[g]?=some (.cells #[.pointer (some ⟨g,0,none⟩),sv] T' (0,0))∧cY E (.ms 1 v 0 O.length) sv ∧
   de E w1 a { fr:=fr,mem:=bM T v O l }∧ic E w E w1:=by
 obtain⟨g,T',p,sv,gD,hh,hp,w9,hF⟩:=hs.mem 0 _ rfl;obtain⟨w1,vf,Cu,Mx⟩:∃ w1,Calls aj 212 #[.pointer (some ⟨g,0,none⟩)] w (fun e w'=>e = .returned (.tuple #[])∧w'=w1)∧o3 w w1 g∧w1.heap[g]?=some (.cells #[.pointer (some ⟨g,0,none⟩),sv] T' (0,0)):=by (rcases hp with ⟨rfl,rfl⟩|rfl);(·obtain⟨h1,h2⟩:=ZV (i:=0) (.pointer (some ⟨g,0,none⟩)) hh;exact⟨_,za T' hT g w (by rw [nw w hh];rfl) (by simp [World.shape?,hh]) (by simp [World.frozen?,hh]),h1,h2⟩);exact⟨w,BF g w (by rw [nw w hh];rfl),⟨rfl,rfl,rfl,rfl,fun _ _=>rfl⟩,hh⟩
 obtain⟨rH,Q7⟩:=hs.Ah (b:=0) (B:=.n5 T 1 v O.length) (B':=.n5 T 1 v O.length) rfl rfl rfl gD hF Cu ⟨g,T',_,sv,gD,Mx,.inr rfl,w9,hF⟩;exact⟨g,T',sv,w1,gD,vf,Mx,w9,rH,Q7⟩
theorem wP {T:TypeId} (hT:okB T) (s:ByteArray) (h0:0<s.size) (v:Nat) (O:List UInt8) (hO:O.length+s.size≤34359738368):∃ r m,WG (.eg [num s.size,.sc .nilIface]) T O (bt s) [] r m∧bI aj 135 [.ptr 0 0,str s] (bM T v O []) r m:=by refine⟨.eg [num s.size,.sc .nilIface],bM T (v+1) (O++bt s) [],⟨rfl,_,_,rfl,rfl⟩,Tryz.call135,fun E w xs hs hx=>?_⟩;obtain⟨x0,x1,rfl,Ct,Cr⟩:=Xb hx;obtain rfl:=fu Cr;obtain⟨g,T',sv,w1,gD,vf,Mx,w9,rH,Q7⟩:=Xd hT hs;cases Ct with|ptr _ _ _ g e c hb =>rw [gD] at hb;cases hb;obtain⟨v',w2,E2,fj,FX,gE,kF⟩:=rH.Zr tt_ok (k:=1) (t:=125) (u:=9) (ty:=125) (s:=s) P0 rfl tt5 tt5i tt9 rfl rfl rfl rfl w9 h0 hO;obtain⟨g2,T2,p2,ZU,vg,IN,Az,-,jV⟩:=FX.mem 0 _ rfl;rw [gE.le.cC _ _ _ gD] at vg;cases vg;(obtain⟨va,vn,vc,rfl⟩:∃ va vn vc,v' = .slice va vn vc:=by rcases kF.uQ with ⟨-,rfl⟩|⟨_,_,_,rfl,-⟩ <;> exact⟨_,_,_,rfl⟩);obtain⟨ZX,hh4⟩:=ZV (i:=1) (.slice va vn vc) IN;(have hO':(O++bt s).length=O.length+s.size:=by rw [ab,dY]);obtain⟨hs4,MF⟩:=FX.Ah (b:=0) (B:=.n5 T 1 v O.length) (B':=.n5 T 1 (v+1) (O++bt s).length) rfl rfl rfl (gE.le.cC _ _ _ gD) jV ZX ⟨g,T2,p2,_,gE.le.cC _ _ _ gD,hh4,Az,by rw [hO'];exact kF,jV⟩;refine (wO g s w w1 w2 sv ZU va vn vc vf (by rw [nw w1 Mx];rfl) fj (by rw [nw w2 IN];rfl) (by simp [World.frozen?,IN])).mono ?_;rintro e w' ⟨rfl,rfl⟩;exact⟨E2,_,rfl,(Q7.trans gE).trans MF,hs4,.eg _ _ _ (by simp) fun i c x hc hx=>mD E2 #[.int .i64 s.size,.nilIface] i c x hc hx⟩
theorem kn {T:TypeId} (hT:okB T) (b:UInt8) (v:Nat) (O:List UInt8) (hO:O.length+1≤34359738368):∃ r m,WG (.sc .nilIface) T O [b] [] r m∧bI aj 195 [.ptr 0 0,.sc (.int .u8 (b.toNat:Int))] (bM T v O []) r m:=by refine⟨.sc .nilIface,bM T (v+1) (O++[b]) [],⟨rfl,_,_,rfl,rfl⟩,Tryz.call195,fun E w xs hs hx=>?_⟩;obtain⟨x0,x1,rfl,Ct,Cr⟩:=Xb hx;obtain rfl:=fu Cr;obtain⟨g,T',sv,w1,gD,vf,Mx,w9,rH,Q7⟩:=Xd hT hs;cases Ct with|ptr _ _ _ g e c hb =>rw [gD] at hb;cases hb;obtain⟨v',w2,E2,fj,FX,gE,kF⟩:=rH.UM tt_ok (k:=1) (t:=125) (ty:=125) (b:=b) P0 rfl tt5 tt5i rfl w9 hO;obtain⟨g2,T2,p2,ZU,vg,IN,Az,-,jV⟩:=FX.mem 0 _ rfl;rw [gE.le.cC _ _ _ gD] at vg;cases vg;(obtain⟨va,vn,vc,rfl⟩:∃ va vn vc,v' = .slice va vn vc:=by rcases kF.uQ with ⟨-,rfl⟩|⟨_,_,_,rfl,-⟩ <;> exact⟨_,_,_,rfl⟩);obtain⟨ZX,hh4⟩:=ZV (i:=1) (.slice va vn vc) IN;(have hO':(O++[b]).length=O.length+1:=by rw [ab];rfl);obtain⟨hs4,MF⟩:=FX.Ah (b:=0) (B:=.n5 T 1 v O.length) (B':=.n5 T 1 (v+1) (O++[b]).length) rfl rfl rfl (gE.le.cC _ _ _ gD) jV ZX ⟨g,T2,p2,_,gE.le.cC _ _ _ gD,hh4,Az,by rw [hO'];exact kF,jV⟩;refine (zb g _ w w1 w2 sv ZU va vn vc vf (by rw [nw w1 Mx];rfl) fj (by rw [nw w2 IN];rfl) (by simp [World.frozen?,IN])).mono ?_;rintro e w' ⟨rfl,rfl⟩;exact⟨E2,_,rfl,(Q7.trans gE).trans MF,hs4,.sc _ _⟩
theorem Vc {T:TypeId} (v:Nat) (O:List UInt8):∃ r m,WG (num O.length) T O [] [] r m∧bI aj 84 [.ptr 0 0] (bM T v O []) r m:=by refine⟨num O.length,bM T v O [],⟨rfl,O,v,by simp,rfl⟩,Tryz.call84,fun E w xs hs hx=>?_⟩;obtain⟨x0,rfl,Ct⟩:=Xc hx;cases Ct with|ptr _ _ _ g e c hb =>obtain⟨g,T',p,sv,gD,hh,hp,w9,hF⟩:=hs.mem 0 _ rfl;rw [gD] at hb;cases hb;(obtain⟨va,vc,rfl⟩:∃ va vc,sv = .slice va O.length vc:=by rcases w9.uQ with ⟨h0,rfl⟩|⟨_,_,_,rfl,-⟩ <;> first|exact⟨_,_,rfl⟩|(rw [h0];exact⟨_,_,rfl⟩));refine (NH g w va _ vc (by rw [nw w hh];rfl)).mono ?_;rintro e w' ⟨rfl,rfl⟩;exact⟨E,_,rfl,ic.refl E _,hs,.sc _ _⟩
theorem Fl (b g cap cells:Nat) (w:World) (l:List UInt8) (h0:l≠[]) (mh:cap≠0) (c1:w.cell? ⟨b,1,none⟩=some (.slice (some ⟨g,0,none⟩) l.length cap)) (pQ:w.shape? g=some (5,cells)) (hn:l.length≤cells) (hm:l.length≤maxLen)
  (p8:∀ j x,l[j]?=some x→w.cell? ((⟨g,0,none⟩:Addr).add j)=some (.int .u8 x.toNat)) :
  Calls aj 85 #[.pointer (some ⟨b,0,none⟩)] w fun e w'=>e = .returned (.string ⟨l.toArray⟩)∧w'=w.drew.freeze ⟨g,0,none⟩ l.length:=by have c1':w.drew.cell? ⟨b,1,none⟩=some (.slice (some ⟨g,0,none⟩) l.length cap):=c1;have hSD:(Builtin.unsafeSliceData_ #[125] 194 #[.slice (some ⟨g,0,none⟩) l.length cap]).run aj w.drew = .ok (.pointer (some ⟨g,0,none⟩)) w.drew := Lib.run_unsafeSliceData_row _ _ _ _ _ _ mh;have hUS:(Builtin.unsafeString_ #[194,3] 9 #[.pointer (some ⟨g,0,none⟩),.int .i64 l.length]).run aj w.drew = .ok (.string ⟨l.toArray⟩) (w.drew.freeze ⟨g,0,none⟩ l.length) := Lib.run_unsafeString_row w.drew 194 3 9 5 kr kr g cells pQ l h0 hn (by unfold maxLen at hm;omega) p8;have mixed:=cu;go_enter Tryz.func85,Tryz.ntmps85;go_wp2;go_region_o;all_goals (go_wp2;go_ret;exact⟨rfl,rfl⟩)
theorem DN {T:TypeId} (v:Nat) (O:List UInt8) (h0:O≠[]):bI aj 85 [.ptr 0 0] (bM T v O []) (str (bs O)) [.n5 T 1 v O.length,.rP v 1 (lS O)]:=by refine⟨Tryz.call85,fun E w xs hs hx=>?_⟩;obtain⟨x0,rfl,Ct⟩:=Xc hx;cases Ct with|ptr _ _ _ g e c hb =>obtain⟨g,T',p,sv,gD,hh,hp,w9,hF⟩:=hs.mem 0 _ rfl;rw [gD] at hb;cases hb;obtain⟨gr,cap,cells,E',rfl,mh,pQ,hn,hm,p8,rH,gE⟩:=hs.Zv (k:=1) rfl h0 w9;refine (Fl g gr cap cells w O h0 mh (by rw [nw w hh];rfl) pQ hn hm p8).mono ?_;rintro e w' ⟨rfl,rfl⟩;exact⟨E',_,rfl,gE,rH,.sc _ _⟩
section
theorem qt {α β:Type} (g:α→List β) {l:List α} {i:Nat} {x:α} (h:l[i]?=some x):(l.take (i+1)).flatMap g=(l.take i).flatMap g++g x:=by rw [bY,h,pU];simp
theorem wQ {α β:Type} (g:α→List β) (l:List α) (i:Nat):((l.take i).flatMap g).length≤(l.flatMap g).length:=by
 have e:l.flatMap g=(l.take i).flatMap g++(l.drop i).flatMap g:=by rw [← pU,kT]
 rw [e,ab];omega
theorem Xe (sep:List UInt8):∀ (L:List (List UInt8)) (i:Nat),(jn sep (L.take i)).length≤(jn sep L).length
 | [],i=>by rw [z8];exact aB _
 | x :: r,0=>by simp [jn]
 | x :: r,i+1=>by
  rw [gf,jn,jn,ab,ab]
  have:=wQ (fun y=>sep++y) r i
  omega
def sgK (k N j:Nat):Nat:=if j=2 then k+2 else if j<2 then j else N+(j-3)
theorem H3 {P:Program} {f:FuncId} {vs:List V} {M m m':List bx} {r:V} (h:bI P f vs M r m) (e:m=m'):bI P f vs M r m':=e ▸ h
theorem lU {f:FuncId} {vs vs' rs:List V} {O X:List UInt8} {v e:Nat} (h:∃ r m,WR O X [.rows 0 e rs] r m∧bI aj f vs (bM 129 v O [.rows 0 e rs]) r m) (l:List bx) (k:Nat) (hk:l[k]?=some (.rows 0 e rs)) (hv:vs.all (aG 3)=true) (MC:∀ N,tN (sgK k N) vs=vs') (w9:aK 3 (.rows 0 e rs)=true) :
  ∃ r m,WR O X l r m∧bI aj f vs' (.n5 129 1 v O.length :: .oW 5 v O :: l) r m:=by
 obtain⟨r,m,⟨rfl,O',v',rfl,rfl⟩,h⟩:=h;refine⟨_,_,⟨rfl,_,v',rfl,rfl⟩,?_⟩;have h2:=h.JP (bM 129 v O l) (sgK k (bM 129 v O l).length) 3 rfl hv (by simp only [bM,cH,w9,dS,aO];rfl) rfl (by simp only [bM,cH,w9,dS,aO];rfl) (aB _) (fun i B hi=>?_) (fun i j hi hj he=>?_) (fun j hj=>by unfold sgK;rw [if_neg (by omega),if_neg (by omega)]);·rw [MC] at h2;refine H3 h2 ((ah _).trans ?_);show (((bM 129 v O l).set 0 (.n5 129 1 v' (O++X).length)).set 1 (.oW 5 v' (O++X))).set (k+2) (CG (sgK k (bM 129 v O l).length) (.rows 0 e rs))=_;show .n5 129 1 v' (O++X).length :: .oW 5 v' (O++X) :: l.set k (.rows 0 e rs)=_;rw [sw hk];rfl
 ·match i,hi with|0,hi=>cases hi;rfl|1,hi=>cases hi;rfl|2,hi=>cases hi;exact hk|i+3,hi=>cases hi
 have:i=0∨i=1∨i=2:=by omega
 have:j=0∨j=1∨j=2:=by omega
 rcases ‹i=0∨i=1∨i=2› with rfl|rfl|rfl <;> rcases ‹j=0∨j=1∨j=2› with rfl|rfl|rfl <;> first|rfl|(simp [sgK] at he)|(simp [sgK] at he;omega)
section
attribute [local go_sem] au bM
theorem cL (l:List ByteArray) (hl:l.length≤1048576) (hx:∀ x∈l,0<x.size) (v:Nat) (O:List UInt8) (hO:O.length+(l.flatMap bt).length≤34359738368):∃ r_ m_,(WR O (l.flatMap bt) [.rows 0 1 (l.map str)]) r_ m_∧bI aj 53 [.ptr 0 0,.ms 2 0 0 l.length] (bM 129 v O [.rows 0 1 (l.map str)]) r_ m_:=by
 refine uP tt_ok [] 18 [] (3) (aB _) (fn:=Tryz.f53) Tryz.func53 rfl Tryz.call53 ⟨rfl,rfl,by simp⟩ fun K hK=>?_;simp only [bM];simp only [go_sem];refine mv tt_ok [] (fun a:Nat×Nat×List UInt8=>[(0,.ptr 0 0),(6,.ms 2 0 0 l.length),(7,num l.length),(8,num a.1)]) (fun a:Nat×Nat×List UInt8=>bM 129 a.2.1 a.2.2 [.rows 0 1 (l.map str)]) (fun a=>l.length-a.1) (fun a=>a.1≤l.length∧a.2.2=O++(l.take a.1).flatMap bt) ((0,v,O)) 3 (eK (by omega) (by simp only [dC,go_sem] <;> rfl)) (⟨bj _,by simp⟩) ?_;rintro⟨i,va,Oa⟩ ⟨hi,mW⟩;try dsimp only at hi mW
 try dsimp only [bM]
 intro Z1 dW;simp only [go_sem];refine ca (fun iI=>?_) (fun iI=>?_);·(have bL:i<l.length:=by simpa using iI);have hw:=bm i (by omega);obtain⟨x,Ck⟩:∃ x,l[i]?=some x:=⟨_,aw bL⟩;(have dH:(i:Int)<(l.length:Int):=by omega);have rE:=qt bt Ck;have C6:=wQ bt l (i+1);have uZ:=C6;rw [rE,ab] at uZ;have hxb:=hx x (aE Ck);have uB:=congrArg List.length mW;rw [ab] at uB;simp only [hw,ak,Ck,dH,go_sem];refine cW (H2 (wP aeu x hxb va Oa (by rw [dY] at uZ;omega)) rfl rfl [.rows 0 1 (l.map str)]) ?_;rintro _ _ ⟨rfl,O1,v1,kM,rfl⟩;simp only [hw,ak,Ck,dH,go_sem];refine dW _ ⟨(i+1,v1,O1),?_,?_,eK (by omega) (by simp only [hw,go_sem])⟩;(·exact⟨bL,by rw [kM,mW,rE,aA]⟩);dsimp only;omega
 have gq:¬ i<l.length:=by simpa using iI
 have lh:i=l.length:=by omega
 rw [lh,al] at mW;simp only [go_sem];exact hK _ _ ⟨rfl,_,_,mW,rfl⟩
end
theorem wf2 {f:FuncId} {vs:List V} {A0 A1 B0 B1:bx} {O Y:List UInt8} {v:Nat} (h:∃ r m,WR O Y [B0,B1] r m∧bI aj f vs (bM 129 v O [A0,A1]) r m) (hv:vs.all (aG 4)=true) (hb:[A0,A1].all (aK 4)=true) (gD:[B0,B1].all (aK 4)=true) (l:List bx) :
  ∃ r m,WR O Y (B0 :: B1 :: l) r m∧bI aj f vs (.n5 129 1 v O.length :: .oW 5 v O :: A0 :: A1 :: l) r m:=by obtain⟨r,m,⟨rfl,O',v',rfl,rfl⟩,h⟩:=h;exact⟨_,_,⟨rfl,_,v',rfl,rfl⟩,h.frame hv (by show (true&&(true&&[A0,A1].all (aK 4)))=true;rw [hb];rfl) rfl rfl (by show (true&&(true&&[B0,B1].all (aK 4)))=true;rw [gD];rfl) l⟩
theorem wf3 {f:FuncId} {vs:List V} {A0 A1 A2 B0 B1 B2:bx} {O Y:List UInt8} {v:Nat} (h:∃ r m,WR O Y [B0,B1,B2] r m∧bI aj f vs (bM 129 v O [A0,A1,A2]) r m) (hv:vs.all (aG 5)=true) (hb:[A0,A1,A2].all (aK 5)=true) (gD:[B0,B1,B2].all (aK 5)=true) (l:List bx) :
  ∃ r m,WR O Y (B0 :: B1 :: B2 :: l) r m∧bI aj f vs (.n5 129 1 v O.length :: .oW 5 v O :: A0 :: A1 :: A2 :: l) r m:=by obtain⟨r,m,⟨rfl,O',v',rfl,rfl⟩,h⟩:=h;exact⟨_,_,⟨rfl,_,v',rfl,rfl⟩,h.frame hv (by show (true&&(true&&[A0,A1,A2].all (aK 5)))=true;rw [hb];rfl) rfl rfl (by show (true&&(true&&[B0,B1,B2].all (aK 5)))=true;rw [gD];rfl) l⟩
theorem blA {n:Nat}:∀ {l:List V},aQ n l=true→l.all (aG n)=true
 | [],_=>rfl
 | x :: r,h=>by
  simp only [aQ,aL] at h
  simp only [cH,aL]
  exact⟨h.1,blA h.2⟩
theorem aew {f:FuncId} {cs:List V} {A0 A1 B0 B1:bx} {i:Int} {O Y:List UInt8} {v:Nat} (h:∃ r m,WR O Y [B0,B1] r m∧bI aj f (num i :: cs) (bM 129 v O [A0,A1]) r m) (hb:[A0,A1].all (aK 4)=true) (gD:[B0,B1].all (aK 4)=true) (hv:cs.all (aG 4)=true) (l:List bx) :
  ∃ r m,WR O Y (B0 :: B1 :: l) r m∧bI aj f (num i :: cs) (.n5 129 1 v O.length :: .oW 5 v O :: A0 :: A1 :: l) r m:=by obtain⟨r,m,⟨rfl,O',v',rfl,rfl⟩,h⟩:=h;exact⟨_,_,⟨rfl,_,v',rfl,rfl⟩,h.frame (by show (true&&cs.all (aG 4))=true;rw [hv];rfl) (by show (true&&(true&&[A0,A1].all (aK 4)))=true;rw [hb];rfl) rfl rfl (by show (true&&(true&&[B0,B1].all (aK 4)))=true;rw [gD];rfl) l⟩
theorem aex {f:FuncId} {cs:List V} {A0 A1 A2 B0 B1 B2:bx} {i:Int} {O Y:List UInt8} {v:Nat} (h:∃ r m,WR O Y [B0,B1,B2] r m∧bI aj f (num i :: cs) (bM 129 v O [A0,A1,A2]) r m) (hb:[A0,A1,A2].all (aK 5)=true) (gD:[B0,B1,B2].all (aK 5)=true) (hv:cs.all (aG 5)=true) (l:List bx) :
  ∃ r m,WR O Y (B0 :: B1 :: B2 :: l) r m∧bI aj f (num i :: cs) (.n5 129 1 v O.length :: .oW 5 v O :: A0 :: A1 :: A2 :: l) r m:=by obtain⟨r,m,⟨rfl,O',v',rfl,rfl⟩,h⟩:=h;exact⟨_,_,⟨rfl,_,v',rfl,rfl⟩,h.frame (by show (true&&cs.all (aG 5))=true;rw [hv];rfl) (by show (true&&(true&&[A0,A1,A2].all (aK 5)))=true;rw [hb];rfl) rfl rfl (by show (true&&(true&&[B0,B1,B2].all (aK 5)))=true;rw [gD];rfl) l⟩
section
attribute [local go_sem] au bM
theorem tD (g:FuncId) (cs:List V) (L:List (List UInt8)) (n:Nat) (hL:L.length=n) (hL1:n≤1048576) (sep:ByteArray) (ZY:0<sep.size) (X:List V) (Y:List V) (mO:aQ 4 cs=true) (hX:X.all (aG 4)=true) (hY:Y.all (aG 4)=true) (hg:∀ (i:Nat) (x:List UInt8),L[i]?=some x→∀ v O,O.length+x.length≤34359738368→∃ r m,WR O x [.box X,.box Y] r m∧bI aj g (num i :: cs) (bM 129 v O [.box X,.box Y]) r m) (v:Nat) (O:List UInt8) (hO:O.length+(jn (bt sep) L).length≤34359738368):∃ r_ m_,(WR O (jn (bt sep) L) [.box X,.box Y]) r_ m_∧bI aj 118 [.ptr 0 0,num n,str sep,.iU (.func g) [] cs] (bM 129 v O [.box X,.box Y]) r_ m_:=by
 refine uP tt_ok [] 23 [] (4) (aB _) (fn:=Tryz.f118) Tryz.func118 rfl Tryz.call118 ⟨rfl,rfl,by simp⟩ fun K hK=>?_;subst hL;simp only [bM];simp only [mO,hX,hY,go_sem];refine mv tt_ok [] (fun a:Nat×Nat×List UInt8=>[(0,.ptr 0 0),(2,str sep),(3,.iU (.func g) [] cs),(9,num L.length),(10,num a.1)]) (fun a:Nat×Nat×List UInt8=>bM 129 a.2.1 a.2.2 [.box X,.box Y]) (fun a=>L.length-a.1) (fun a=>a.1≤L.length∧a.2.2=O++jn (bt sep) (L.take a.1)) ((0,v,O)) 4 (eK (by omega) (by simp only [mO,hX,hY,dC,go_sem] <;> rfl)) (⟨bj _,by simp [jn]⟩) ?_;rintro⟨i,va,Oa⟩ ⟨hi,mW⟩;try dsimp only at hi mW
 try dsimp only [bM]
 intro Z1 dW;simp only [mO,hX,hY,go_sem];refine ca (fun j0=>?_) (fun j0=>?_);·(have bL:i<L.length:=by simpa using j0);have hw:=bm i (by omega);obtain⟨x,Ck⟩:∃ x,L[i]?=some x:=⟨_,aw bL⟩;(have qC:([sep].flatMap bt).length=(bt sep).length:=by simp);have rE:=LS (sep:=bt sep) Ck;have C6:=Xe (bt sep) L (i+1);have uZ:=C6;rw [rE,ab,ab] at uZ;have uB:=congrArg List.length mW;rw [ab] at uB;simp only [hw,mO,hX,hY,go_sem];refine ca (fun lE=>?_) (fun lE=>?_);(·(have O0:0<i:=by have h0:(0:Int)<i:=(by simpa using lE);omega);simp only [hw,mO,hX,hY,go_sem];refine cW (lU (cL [sep] (by simp) (by simpa using ZY) va Oa (by rw [ae,ag,ah];rw [if_pos O0] at uZ;omega)) [.box X,.box Y,.rows 0 1 [str sep]] 2 rfl rfl (fun _=>rfl) rfl) ?_;rintro _ _ ⟨rfl,O1,v1,kM,rfl⟩;have om:=congrArg List.length kM;rw [ab] at om;simp only [hw,mO,hX,hY,go_sem];refine cW (aew (hg i x Ck _ _ (by simp only [O0,if_true,if_false,ai] at uZ;omega)) (by show (X.all (aG 4)&&(Y.all (aG 4)&&true))=true;rw [hX,hY];rfl) (by show (X.all (aG 4)&&(Y.all (aG 4)&&true))=true;rw [hX,hY];rfl) (blA mO) _) ?_;rintro _ _ ⟨rfl,Oy,vy,jE,rfl⟩;simp only [hw,mO,hX,hY,go_sem];refine dW _ ⟨(i+1,vy,Oy),?_,?_,eK (by omega) (by simp only [hw,mO,hX,hY,go_sem])⟩;(·exact⟨bL,by rw [rE];simp only [*,if_true,if_false,not_false_eq_true,ae,ag,ah,aA,aC]⟩);dsimp only;omega);have O0:¬ 0<i:=fun h0=>(of_decide_eq_false lE) (by omega:(0:Int)<(i:Int));simp only [hw,mO,hX,hY,go_sem];refine cW (aew (hg i x Ck _ _ (by simp only [O0,if_true,if_false,ai] at uZ;omega)) (by show (X.all (aG 4)&&(Y.all (aG 4)&&true))=true;rw [hX,hY];rfl) (by show (X.all (aG 4)&&(Y.all (aG 4)&&true))=true;rw [hX,hY];rfl) (blA mO) _) ?_;rintro _ _ ⟨rfl,Oy,vy,jE,rfl⟩;simp only [hw,mO,hX,hY,go_sem];refine dW _ ⟨(i+1,vy,Oy),?_,?_,eK (by omega) (by simp only [hw,mO,hX,hY,go_sem])⟩;(·exact⟨bL,by rw [rE];simp only [*,if_true,if_false,not_false_eq_true,ae,ag,ah,aA,aC]⟩);dsimp only;omega
 have gq:¬ i<L.length:=by simpa using j0
 have lh:i=L.length:=by omega
 rw [lh,al] at mW;simp only [mO,hX,hY,go_sem];exact hK _ _ ⟨rfl,_,_,mW,by first|rfl|(rw [lh];rfl)⟩
theorem xW (g:FuncId) (cs:List V) (L:List (List UInt8)) (n:Nat) (hL:L.length=n) (hL1:n≤1048576) (sep:ByteArray) (ZY:0<sep.size) (X:List V) (Y:List V) (Z:Nat→List V) (mO:aQ 5 cs=true) (hX:X.all (aG 5)=true) (hY:Y.all (aG 5)=true) (hZ:∀ i,(Z i).all (aG 5)=true) (hg:∀ (i:Nat) (x:List UInt8),L[i]?=some x→∀ v O,O.length+x.length≤34359738368→∃ r m,WR O x [.box X,.box Y,.box (Z (i+1))] r m∧bI aj g (num i :: cs) (bM 129 v O [.box X,.box Y,.box (Z i)]) r m) (v:Nat) (O:List UInt8) (hO:O.length+(jn (bt sep) L).length≤34359738368):∃ r_ m_,(WR O (jn (bt sep) L) [.box X,.box Y,.box (Z n)]) r_ m_∧bI aj 118 [.ptr 0 0,num n,str sep,.iU (.func g) [] cs] (bM 129 v O [.box X,.box Y,.box (Z 0)]) r_ m_:=by
 refine uP tt_ok [] 23 [] (5) (aB _) (fn:=Tryz.f118) Tryz.func118 rfl Tryz.call118 ⟨rfl,rfl,by simp⟩ fun K hK=>?_;subst hL;simp only [bM];simp only [mO,hX,hY,hZ,go_sem];refine mv tt_ok [] (fun a:Nat×Nat×List UInt8=>[(0,.ptr 0 0),(2,str sep),(3,.iU (.func g) [] cs),(9,num L.length),(10,num a.1)]) (fun a:Nat×Nat×List UInt8=>bM 129 a.2.1 a.2.2 [.box X,.box Y,.box (Z a.1)]) (fun a=>L.length-a.1) (fun a=>a.1≤L.length∧a.2.2=O++jn (bt sep) (L.take a.1)) ((0,v,O)) 5 (eK (by omega) (by simp only [mO,hX,hY,hZ,dC,go_sem] <;> rfl)) (⟨bj _,by simp [jn]⟩) ?_;rintro⟨i,va,Oa⟩ ⟨hi,mW⟩;try dsimp only at hi mW
 try dsimp only [bM]
 intro Z1 dW;simp only [mO,hX,hY,hZ,go_sem];refine ca (fun j0=>?_) (fun j0=>?_);·(have bL:i<L.length:=by simpa using j0);have hw:=bm i (by omega);obtain⟨x,Ck⟩:∃ x,L[i]?=some x:=⟨_,aw bL⟩;(have qC:([sep].flatMap bt).length=(bt sep).length:=by simp);have rE:=LS (sep:=bt sep) Ck;have C6:=Xe (bt sep) L (i+1);have uZ:=C6;rw [rE,ab,ab] at uZ;have uB:=congrArg List.length mW;rw [ab] at uB;simp only [hw,mO,hX,hY,hZ,go_sem];refine ca (fun lE=>?_) (fun lE=>?_);(·(have O0:0<i:=by have h0:(0:Int)<i:=(by simpa using lE);omega);simp only [hw,mO,hX,hY,hZ,go_sem];refine cW (lU (cL [sep] (by simp) (by simpa using ZY) va Oa (by rw [ae,ag,ah];rw [if_pos O0] at uZ;omega)) [.box X,.box Y,.box (Z i),.rows 0 1 [str sep]] 3 rfl rfl (fun _=>rfl) rfl) ?_;rintro _ _ ⟨rfl,O1,v1,kM,rfl⟩;have om:=congrArg List.length kM;rw [ab] at om;simp only [hw,mO,hX,hY,hZ,go_sem];refine cW (aex (hg i x Ck _ _ (by simp only [O0,if_true,if_false,ai] at uZ;omega)) (by show (X.all (aG 5)&&(Y.all (aG 5)&&((Z i).all (aG 5)&&true)))=true;rw [hX,hY,hZ];rfl) (by show (X.all (aG 5)&&(Y.all (aG 5)&&((Z (i+1)).all (aG 5)&&true)))=true;rw [hX,hY,hZ];rfl) (blA mO) _) ?_;rintro _ _ ⟨rfl,Oy,vy,jE,rfl⟩;simp only [hw,mO,hX,hY,hZ,go_sem];refine dW _ ⟨(i+1,vy,Oy),?_,?_,eK (by omega) (by simp only [hw,mO,hX,hY,hZ,go_sem])⟩;(·exact⟨bL,by rw [rE];simp only [*,if_true,if_false,not_false_eq_true,ae,ag,ah,aA,aC]⟩);dsimp only;omega);have O0:¬ 0<i:=fun h0=>(of_decide_eq_false lE) (by omega:(0:Int)<(i:Int));simp only [hw,mO,hX,hY,hZ,go_sem];refine cW (aex (hg i x Ck _ _ (by simp only [O0,if_true,if_false,ai] at uZ;omega)) (by show (X.all (aG 5)&&(Y.all (aG 5)&&((Z i).all (aG 5)&&true)))=true;rw [hX,hY,hZ];rfl) (by show (X.all (aG 5)&&(Y.all (aG 5)&&((Z (i+1)).all (aG 5)&&true)))=true;rw [hX,hY,hZ];rfl) (blA mO) _) ?_;rintro _ _ ⟨rfl,Oy,vy,jE,rfl⟩;simp only [hw,mO,hX,hY,hZ,go_sem];refine dW _ ⟨(i+1,vy,Oy),?_,?_,eK (by omega) (by simp only [hw,mO,hX,hY,hZ,go_sem])⟩;(·exact⟨bL,by rw [rE];simp only [*,if_true,if_false,not_false_eq_true,ae,ag,ah,aA,aC]⟩);dsimp only;omega
 have gq:¬ i<L.length:=by simpa using j0
 have lh:i=L.length:=by omega
 rw [lh,al] at mW;simp only [mO,hX,hY,hZ,go_sem];exact hK _ _ ⟨rfl,_,_,mW,by first|rfl|(rw [lh];rfl)⟩
end
end
section
theorem aN (l:List UInt8):bt ⟨l.toArray⟩=l:=by simp [bt]
theorem lX:∀ x∈([]:List ByteArray),0<x.size:=fun x hx=>by cases hx
theorem jh {a:ByteArray} {l:List ByteArray} (h:0<a.size) (t:∀ x∈l,0<x.size):∀ x∈a :: l,0<x.size:=fun x hx=>by
 rcases cI.1 hx with rfl|hx
 ·exact h
 exact t x hx
def WT (t:Ty):Prop:=∀ v O,O.length+t.pr.length≤34359738368→∃ r m,WR O t.pr [] r m∧bI aj 38 [.ptr 0 0,br t] (bM 129 v O []) r m
theorem H4 {t:Ty} (h:WT t) {v:Nat} {O:List UInt8} (hO:O.length+t.pr.length≤34359738368) (l:List bx):∃ r m,WR O t.pr l r m∧bI aj 38 [.ptr 0 0,.agg [num t.kind,str t.mod,str t.name,.slice (t.args.map br),.slice (t.bD.map du)]] (.n5 129 1 v O.length :: .oW 5 v O :: l) r m:=by have h:=h v O hO;simp only [aM,ax,aV,bG] at h;exact tB h (by simp [aG,aQ]) _
section
attribute [local go_sem] au bM
theorem oJ (l:List ByteArray) (hl:l.length≤1048576) (hx:∀ x∈l,0<x.size) (v:Nat) (O:List UInt8) (hO:O.length+(l.flatMap bt).length≤34359738368):∃ r_ m_,(WR O (l.flatMap bt) []) r_ m_∧bI aj 53 [.ptr 0 0,.slice (l.map str)] (bM 129 v O []) r_ m_:=by
 refine uP tt_ok [] 18 [] (2) (aB _) (fn:=Tryz.f53) Tryz.func53 rfl Tryz.call53 ⟨rfl,rfl,by simp⟩ fun K hK=>?_;simp only [bM];simp only [go_sem];refine mv tt_ok [] (fun a:Nat×Nat×List UInt8=>[(0,.ptr 0 0),(6,.slice (l.map str)),(7,num l.length),(8,num a.1)]) (fun a:Nat×Nat×List UInt8=>bM 129 a.2.1 a.2.2 []) (fun a=>l.length-a.1) (fun a=>a.1≤l.length∧a.2.2=O++(l.take a.1).flatMap bt) ((0,v,O)) 2 (eK (by omega) (by simp only [dC,go_sem] <;> rfl)) (⟨bj _,by simp⟩) ?_;rintro⟨i,va,Oa⟩ ⟨hi,mW⟩;try dsimp only at hi mW
 try dsimp only [bM]
 intro Z1 dW;simp only [go_sem];refine ca (fun iI=>?_) (fun iI=>?_);·(have bL:i<l.length:=by simpa using iI);have hw:=bm i (by omega);obtain⟨x,Ck⟩:∃ x,l[i]?=some x:=⟨_,aw bL⟩;(have dH:(i:Int)<(l.length:Int):=by omega);have rE:=qt bt Ck;have C6:=wQ bt l (i+1);have uZ:=C6;rw [rE,ab] at uZ;have hxb:=hx x (aE Ck);have uB:=congrArg List.length mW;rw [ab] at uB;simp only [hw,ak,Ck,dH,go_sem];refine cW (H2 (wP aeu x hxb va Oa (by rw [dY] at uZ;omega)) rfl rfl []) ?_;rintro _ _ ⟨rfl,O1,v1,kM,rfl⟩;simp only [hw,ak,Ck,dH,go_sem];refine dW _ ⟨(i+1,v1,O1),?_,?_,eK (by omega) (by simp only [hw,go_sem])⟩;(·exact⟨bL,by rw [kM,mW,rE,aA]⟩);dsimp only;omega
 have gq:¬ i<l.length:=by simpa using iI
 have lh:i=l.length:=by omega
 rw [lh,al] at mW;simp only [go_sem];exact hK _ _ ⟨rfl,_,_,mW,rfl⟩
theorem pn (w:ByteArray) (hw:0<w.size) (t:Ty) (hT:WT t) (v:Nat) (O:List UInt8) (hO:O.length+(bt w++([91]++(t.pr++[93]))).length≤34359738368):∃ r_ m_,(WR O (bt w++([91]++(t.pr++[93]))) []) r_ m_∧bI aj 95 [.ptr 0 0,str w,.agg [num t.kind,str t.mod,str t.name,.slice (t.args.map br),.slice (t.bD.map du)]] (bM 129 v O []) r_ m_:=by refine uP tt_ok [] 16 [] (2) (aB _) (fn:=Tryz.f95) Tryz.func95 rfl Tryz.call95 ⟨rfl,rfl,by simp⟩ fun K hK=>?_;simp only [bM];have gC:=hO;simp only [ab,af,ai] at gC;simp only [go_sem];refine cW (lU (cL [w,⟨#[91]⟩] (by simp) (jh hw (jh (by decide) lX)) _ _ (by simp only [ae,ag,ah,aN,ab,af,ai];omega)) _ 1 rfl rfl (fun _=>rfl) rfl) ?_;rintro _ _ ⟨rfl,O1,v1,kM,rfl⟩;have om:=congrArg List.length kM;simp only [ae,ag,ah,aN,ab,af,ai] at om;simp only [go_sem];refine cW (H4 (hT) (by omega) _) ?_;rintro _ _ ⟨rfl,O2,v2,sU,rfl⟩;have Cl:=congrArg List.length sU;simp only [ae,ag,ah,aN,ab,af,ai] at Cl;simp only [go_sem];refine cW (lU (cL [⟨#[93]⟩] (by simp) (jh (by decide) lX) _ _ (by simp only [ae,ag,ah,aN,ab,af,ai];omega)) _ 2 rfl rfl (fun _=>rfl) rfl) ?_;rintro _ _ ⟨rfl,O3,v3,tE,rfl⟩;have CM:=congrArg List.length tE;simp only [ae,ag,ah,aN,ab,af,ai] at CM;simp only [go_sem];exact hK _ _ ⟨rfl,_,_,by rw [tE,sU,kM];simp only [cZ,ae,ag,ah,aN,aA],rfl⟩
end
section
attribute [local go_sem] au ak bM bZ ax aV bG ay aC
theorem NI (l:List Fd) (i:Nat) (x:Fd) (hx:l[i]?=some x) (hl:l.length≤1048576) (hn:0<x.name.size) (hT:WT x.ty) (v:Nat) (O:List UInt8) (hO:O.length+x.pr.length≤34359738368):∃ r_ m_,(WR O x.pr [.box [.ptr 0 0],.box [.slice (l.map du)]]) r_ m_∧bI aj 182 [num i,.ptr 2 0,.ptr 3 0] (bM 129 v O [.box [.ptr 0 0],.box [.slice (l.map du)]]) r_ m_:=by
 refine uP tt_ok [30000] 30 [] (4) (aB _) (fn:=Tryz.f182) Tryz.func182 rfl Tryz.call182 ⟨rfl,rfl,by simp⟩ fun K hK=>?_;simp only [bM];have bL:=(az.1 hx).1;have dH:(i:Int)<(l.length:Int):=by omega
 have vk:=x.ju;have gC:=hO;rw [vk] at gC;have hof:(if x.opt=true then [63] else ([]:List UInt8)).length≤1:=by split <;> decide
 simp only [ab,af,ai] at gC;simp only [hx,dH,go_sem];refine fL tt_ok cu [pR,pR,pN,jO [1,2],mu [1,2,3],jO [1,2,3,4],mu [1,2,3,4,5],⟨.z,0,[],[0,1,2,3,4,5,6],[]⟩] 0 kr ?_;simp only [hx,dH,go_sem];refine xG (tB (oJ [x.name] (by simp) (jh hn lX) _ _ (by simp only [ae,ag,ah,aN,ab,af,ai];omega)) rfl _) ?_;rintro _ _ ⟨rfl,O1,v1,kM,rfl⟩;have om:=congrArg List.length kM;simp only [ae,ag,ah,aN,ab,af,ai] at om;simp only [hx,dH,go_sem];refine sG (n:=30) tt_ok [30000] (fun a:Nat×List UInt8=>[(0,num i),(1,.ptr 2 0),(2,.ptr 3 0)]) (fun a:Nat×List UInt8=>bM 129 a.1 a.2 [.box [.ptr 0 0],.box [.slice (l.map du)]]) 4 (fun a=>a.2=O++(bt x.name++(if x.opt=true then [63] else []))) (fun Z1 dW=>?_) ?_;·simp only [hx,dH,go_sem];refine ca (fun fT=>?_) (fun fT=>?_);(·simp only [hx,dH,go_sem];refine cW (lU (cL [⟨#[63]⟩] (by simp) (jh (by decide) lX) _ _ (by simp only [ae,ag,ah,aN,ab,af,ai];omega)) _ 2 rfl rfl (fun _=>rfl) rfl) ?_;rintro _ _ ⟨rfl,Oy,vy,jE,rfl⟩;have aey:x.opt=true:=fT;rw [if_pos aey] at gC;have BH:=congrArg List.length jE;simp only [ae,ag,ah,aN,ab,af,ai] at BH;simp only [hx,dH,go_sem];refine dW _ ⟨(vy,Oy),?_,eK (by omega) (by simp only [hx,dH,go_sem])⟩;dsimp only;rw [jE,kM];simp only [cZ,fT,if_true,bF,if_false,ae,ag,ah,aN,aA]);obtain⟨Oy,jE⟩:∃ y,y=O1:=⟨_,rfl⟩;obtain⟨vy,NJ⟩:∃ y,y=v1:=⟨_,rfl⟩;rw [← jE,← NJ];simp only [hx,dH,go_sem];refine dW _ ⟨(vy,Oy),?_,eK (by omega) (by simp only [hx,dH,go_sem])⟩;dsimp only;rw [jE,kM];simp only [cZ,fT,if_true,bF,if_false,ae,ag,ah,aN,aA]
 rintro⟨vb,Ob⟩ oS;dsimp only at oS;have xe:=congrArg List.length oS;simp only [ae,ag,ah,aN,ab,af,ai] at xe;dsimp only [bM];simp only [hx,dH,go_sem];refine cW (lU (cL [⟨#[58,32]⟩] (by simp) (jh (by decide) lX) _ _ (by simp only [ae,ag,ah,aN,ab,af,ai];omega)) _ 2 rfl rfl (fun _=>rfl) rfl) ?_;rintro _ _ ⟨rfl,O3,v3,tE,rfl⟩;have CM:=congrArg List.length tE;simp only [ae,ag,ah,aN,ab,af,ai] at CM;simp only [hx,dH,go_sem];refine fL tt_ok cu [pR,pR,pN,jO [1,2],mu [1,2,3],jO [1,2,3,4],⟨.z,0,[],[0,1,2,3,4,5],[]⟩] 0 kr ?_;simp only [hx,dH,go_sem];refine xG (H4 (hT) (by omega) _) ?_;rintro _ _ ⟨rfl,O4,v4,CN,rfl⟩;have H5:=congrArg List.length CN;simp only [ae,ag,ah,aN,ab,af,ai] at H5;simp only [hx,dH,go_sem];exact hK _ _ ⟨rfl,_,_,by rw [CN,tE,oS,vk];simp only [cZ,ae,ag,ah,aN,aA],rfl⟩
end
section
attribute [local go_sem] au ak bM aM ax aV bG
theorem Vd (l:List Ty) (i:Nat) (x:Ty) (hx:l[i]?=some x) (hl:l.length≤1048576) (hT:WT x) (v:Nat) (O:List UInt8) (hO:O.length+x.pr.length≤34359738368):∃ r_ m_,(WR O x.pr [.box [.ptr 0 0],.box [.slice (l.map br)]]) r_ m_∧bI aj 183 [num i,.ptr 2 0,.ptr 3 0] (bM 129 v O [.box [.ptr 0 0],.box [.slice (l.map br)]]) r_ m_:=by
 refine uP tt_ok [] 10 [] (4) (aB _) (fn:=Tryz.f183) Tryz.func183 rfl Tryz.call183 ⟨rfl,rfl,by simp⟩ fun K hK=>?_;simp only [bM];have bL:=(az.1 hx).1;have dH:(i:Int)<(l.length:Int):=by omega
 simp only [hx,dH,go_sem];refine fL tt_ok cu [pR,pR,pN,jO [1,2],jO [1,2,3],⟨.z,0,[],[0,1,2,3,4],[]⟩] 0 kr ?_;simp only [hx,dH,go_sem];refine xG (H4 (hT) (by omega) _) ?_;rintro _ _ ⟨rfl,O1,v1,kM,rfl⟩;have om:=congrArg List.length kM;simp only [ae,ag,ah,aN,ab,af,ai] at om;simp only [hx,dH,go_sem];exact hK _ _ ⟨rfl,_,_,kM,rfl⟩
end
theorem aez {l:List Fd} (hl:l.length≤1048576) (hn:∀ f∈l,0<f.name.size) (hT:∀ f∈l,WT f.ty):∀ (i:Nat) (x:List UInt8),(l.map Fd.pr)[i]?=some x→∀ v O,O.length+x.length≤34359738368→∃ r m,WR O x [.box [.ptr 0 0],.box [.slice (l.map du)]] r m∧bI aj 182 (num i :: [.ptr 2 0,.ptr 3 0]) (bM 129 v O [.box [.ptr 0 0],.box [.slice (l.map du)]]) r m:=by intro i x hx v O hO;rw [ak,bc] at hx;obtain⟨f,hf,rfl⟩:=hx;exact NI l i f hf hl (hn f (aE hf)) (hT f (aE hf)) v O hO
theorem aeA {l:List Ty} (hl:l.length≤1048576) (hT:∀ t∈l,WT t):∀ (i:Nat) (x:List UInt8),(l.map Ty.pr)[i]?=some x→∀ v O,O.length+x.length≤34359738368→∃ r m,WR O x [.box [.ptr 0 0],.box [.slice (l.map br)]] r m∧bI aj 183 (num i :: [.ptr 2 0,.ptr 3 0]) (bM 129 v O [.box [.ptr 0 0],.box [.slice (l.map br)]]) r m:=by intro i x hx v O hO;rw [ak,bc] at hx;obtain⟨f,hf,rfl⟩:=hx;exact Vd l i f hf hl (hT f (aE hf)) v O hO
theorem u0 (l:List Fd) (hl:l.length≤1048576) (hn:∀ f∈l,0<f.name.size) (hT:∀ f∈l,WT f.ty) (sep:ByteArray) (hs:0<sep.size) (v:Nat) (O:List UInt8) (hO:O.length+(jn (bt sep) (l.map Fd.pr)).length≤34359738368):∃ r_ m_,(WR O (jn (bt sep) (l.map Fd.pr)) []) r_ m_∧bI aj 96 [.ptr 0 0,.slice (l.map du),str sep] (bM 129 v O []) r_ m_:=by refine uP tt_ok [] 12 [] (2) (aB _) (fn:=Tryz.f96) Tryz.func96 rfl Tryz.call96 ⟨rfl,rfl,by simp⟩ fun K hK=>?_;simp only [bM];simp only [au,bM,go_sem];refine cW (wf2 (tD 182 [.ptr 2 0,.ptr 3 0] (l.map Fd.pr) _ (by simp) hl sep hs [.ptr 0 0] [.slice (l.map du)] rfl rfl rfl (aez hl hn hT) _ _ hO) rfl rfl rfl _) ?_;rintro _ _ ⟨rfl,O1,v1,kM,rfl⟩;simp only [au,bM,go_sem];exact hK _ _ ⟨rfl,_,_,kM,rfl⟩
theorem ZZ {s:ByteArray} (h:s.size=0):s=⟨#[]⟩:=by obtain⟨⟨l⟩⟩:=s;simp [ByteArray.size] at h;subst h;rfl
structure TyK (t:Ty):Prop where
 k0:0≤t.kind
 k1:t.kind≤8∨t.kind=10
 hd:t.kind=5∨t.kind=8→∃ a r,t.args=a :: r
 fn:∀ f∈t.bD,0<f.name.size
 nm:t.kind=10→0<t.name.size
 la:t.args.length≤1048576
 lf:t.bD.length≤1048576
def Q8 (k:Int):ByteArray:=if k=0 then ⟨#[97,110,121]⟩ else if k=1 then ⟨#[110,111,110,101]⟩ else if k=2 then ⟨#[105,110,116]⟩ else if k=3 then ⟨#[98,111,111,108]⟩ else ⟨#[116,101,120,116]⟩
theorem Z0 (k:Int):bt (Q8 k)=ZR k:=by unfold Q8 ZR;(repeat' split) <;> rfl
theorem Ve (k:Int):0<(Q8 k).size:=by unfold Q8;(repeat' split) <;> decide
def arW:V:=.agg [str ⟨#[97,110,121]⟩,str ⟨#[110,111,110,101]⟩,str ⟨#[105,110,116]⟩,str ⟨#[98,111,111,108]⟩,str ⟨#[116,101,120,116]⟩]
theorem bW:xq aj 141 [(0,.string ⟨#[97,110,121]⟩),(1,.string ⟨#[110,111,110,101]⟩),(2,.string ⟨#[105,110,116]⟩),(3,.string ⟨#[98,111,111,108]⟩),(4,.string ⟨#[116,101,120,116]⟩)]=some arW:=kr
theorem iW (k:Int) (h0:0≤k) (h4:k≤4):dJ aj (Instr.index 141) arW (num k)=some (str (Q8 k)):=by
 have:k=0∨k=1∨k=2∨k=3∨k=4:=by omega
 have e0:dJ aj (Instr.index 141) arW (num 0)=some (str (Q8 0)):=kr;have e1:dJ aj (Instr.index 141) arW (num 1)=some (str (Q8 1)):=kr;have e2:dJ aj (Instr.index 141) arW (num 2)=some (str (Q8 2)):=kr;have e3:dJ aj (Instr.index 141) arW (num 3)=some (str (Q8 3)):=kr;have e4:dJ aj (Instr.index 141) arW (num 4)=some (str (Q8 4)):=kr;rcases this with h|h|h|h|h <;> rw [h] <;> assumption
section
attribute [local go_sem] au bM
theorem Fm (m n:ByteArray) (hn:0<n.size) (l:List Ty) (hl:l.length≤1048576) (hT:∀ t∈l,WT t) (v:Nat) (O:List UInt8) (hO:O.length+(LU m n (l.map Ty.pr)).length≤34359738368):∃ r_ m_,(WR O (LU m n (l.map Ty.pr)) []) r_ m_∧bI aj 97 [.ptr 0 0,str m,str n,.slice (l.map br)] (bM 129 v O []) r_ m_:=by
 refine uP tt_ok [30000] 32 [] (2) (aB _) (fn:=Tryz.f97) Tryz.func97 rfl Tryz.call97 ⟨rfl,rfl,by simp⟩ fun K hK=>?_;simp only [bM];obtain⟨q1,qA⟩:∃ q,(if m=⟨#[]⟩ then [] else bt m++[58,58])=q:=⟨_,rfl⟩;obtain⟨q2,mi⟩:∃ q,(if l.map Ty.pr=[] then [] else [91]++jn [44,32] (l.map Ty.pr)++[93])=q:=⟨_,rfl⟩;have hQ:LU m n (l.map Ty.pr)=q1++bt n++q2:=by unfold LU;rw [qA,mi]
 have gC:=hO;rw [hQ] at gC;simp only [ae,ag,ah,aN,ab,af,ai] at gC;simp only [go_sem];refine sG (n:=32) tt_ok [30000] (fun a:Nat×List UInt8=>[(2,str n),(4,.ptr 2 0),(7,.ptr 3 0)]) (fun a:Nat×List UInt8=>bM 129 a.1 a.2 [.box [.ptr 0 0],.box [.slice (l.map br)]]) 4 (fun a=>a.2=O++(q1)) (fun Z1 dW=>?_) ?_;·simp only [go_sem];refine ca (fun iI=>?_) (fun iI=>?_);(·have hm1:0<m.size:=zP rfl iI;(have Pp:¬ m=⟨#[]⟩:=by rintro rfl;exact absurd hm1 (by decide));rw [if_neg Pp] at qA;have C1:=congrArg List.length qA;simp only [ae,ag,ah,aN,ab,af,ai] at C1;simp only [go_sem];refine cW (lU (cL [m,⟨#[58,58]⟩] (by simp) (jh hm1 (jh (by decide) lX)) _ _ (by simp only [ae,ag,ah,aN,ab,af,ai];omega)) _ 2 rfl rfl (fun _=>rfl) rfl) ?_;rintro _ _ ⟨rfl,Oy,vy,jE,rfl⟩;have BH:=congrArg List.length jE;simp only [ae,ag,ah,aN,ab,af,ai] at BH;simp only [go_sem];refine dW _ ⟨(vy,Oy),?_,eK (by omega) (by simp only [go_sem])⟩;dsimp only;rw [jE,← qA];simp only [cZ,if_true,bF,if_false,ae,ag,ah,aN,aA]);have hm0:=ZZ (wq rfl iI);rw [if_pos hm0] at qA;obtain⟨Oy,jE⟩:∃ y,y=O:=⟨_,rfl⟩;obtain⟨vy,NJ⟩:∃ y,y=v:=⟨_,rfl⟩;rw [← jE,← NJ];simp only [go_sem];refine dW _ ⟨(vy,Oy),?_,eK (by omega) (by simp only [go_sem])⟩;dsimp only;rw [jE,← qA];simp only [cZ,if_true,bF,if_false,ae,ag,ah,aN,aA]
 rintro⟨vb,Ob⟩ oS;dsimp only at oS;have xe:=congrArg List.length oS;simp only [ae,ag,ah,aN,ab,af,ai] at xe;dsimp only [bM];simp only [go_sem];refine cW (lU (cL [n] (by simp) (jh hn lX) _ _ (by simp only [ae,ag,ah,aN,ab,af,ai];omega)) _ 2 rfl rfl (fun _=>rfl) rfl) ?_;rintro _ _ ⟨rfl,O2,v2,sU,rfl⟩;have Cl:=congrArg List.length sU;simp only [ae,ag,ah,aN,ab,af,ai] at Cl;simp only [go_sem];refine ca (fun Fp=>?_) (fun Fp=>?_);·(have n6:0<l.length:=by have h0:(0:Int)<(l.length:Int):=(of_decide_eq_true Fp);omega);(have hln:¬ l.map Ty.pr=[]:=fun e=>by have e2:=congrArg List.length e;simp at e2;rw [e2] at n6;simp at n6);rw [if_neg hln] at mi;have hqm:=congrArg List.length mi;simp only [ae,ag,ah,aN,ab,af,ai] at hqm;simp only [go_sem];refine cW (lU (cL [⟨#[91]⟩] (by simp) (jh (by decide) lX) _ _ (by simp only [ae,ag,ah,aN,ab,af,ai];omega)) _ 3 rfl rfl (fun _=>rfl) rfl) ?_;rintro _ _ ⟨rfl,O3,v3,tE,rfl⟩;have CM:=congrArg List.length tE;simp only [ae,ag,ah,aN,ab,af,ai] at CM;simp only [go_sem];refine cW (wf2 (tD 183 [.ptr 2 0,.ptr 3 0] (l.map Ty.pr) _ (by simp) hl ⟨#[44,32]⟩ (by decide) [.ptr 0 0] [.slice (l.map br)] rfl rfl rfl (aeA hl hT) _ _ (by rw [aN];omega)) rfl rfl rfl _) ?_;rintro _ _ ⟨rfl,O4,v4,CN,rfl⟩;have H5:=congrArg List.length CN;simp only [ae,ag,ah,aN,ab,af,ai] at H5;simp only [go_sem];refine cW (lU (cL [⟨#[93]⟩] (by simp) (jh (by decide) lX) _ _ (by simp only [ae,ag,ah,aN,ab,af,ai];omega)) _ 4 rfl rfl (fun _=>rfl) rfl) ?_;rintro _ _ ⟨rfl,O5,v5,Q9,rfl⟩;have Vf:=congrArg List.length Q9;simp only [ae,ag,ah,aN,ab,af,ai] at Vf;simp only [go_sem];exact hK _ _ ⟨rfl,_,_,by first|(rw [hQ,Q9,CN,tE,sU,oS,← mi];simp only [cZ,ae,ag,ah,aN,aA])|(rw [hQ,sU,oS,← mi];simp only [cZ,ae,ag,ah,aN,aA]),rfl⟩
 have n6:¬ 0<l.length:=fun h0=>(of_decide_eq_false Fp) (by omega:(0:Int)<(l.length:Int));have hln:l.map Ty.pr=[]:=by rw [j8 (by omega:l.length=0)];rfl
 rw [if_pos hln] at mi;simp only [go_sem];exact hK _ _ ⟨rfl,_,_,by first|(rw [hQ,Q9,CN,tE,sU,oS,← mi];simp only [cZ,ae,ag,ah,aN,aA])|(rw [hQ,sU,oS,← mi];simp only [cZ,ae,ag,ah,aN,aA]),rfl⟩
end
section
attribute [local go_sem] au bM aV bG
theorem NK (t:Ty) (ht:TyK t) (hA:∀ u∈t.args,WT u) (hF:∀ x∈t.bD,WT x.ty) (v:Nat) (O:List UInt8) (hO:O.length+(t.pr).length≤34359738368):∃ r_ m_,(WR O (t.pr) []) r_ m_∧bI aj 38 [.ptr 0 0,br t] (bM 129 v O []) r_ m_:=by
 refine uP tt_ok [] 73 [] (2) (aB _) (fn:=Tryz.f38) Tryz.func38 rfl Tryz.call38 ⟨rfl,rfl,by simp⟩ fun K hK=>?_;simp only [bM];have vk:=t.ju;simp only [aM,ax];simp only [go_sem];refine ca (fun xX=>?_) (fun xX=>?_);·(have h5:t.kind=5:=by simpa using xX);rw [if_pos h5] at vk;obtain⟨a,r,ha⟩:=ht.hd (.inl h5);rw [ha] at vk;dsimp only [lT] at vk;have hWa:WT a:=hA a (by rw [ha];exact cA ..);have gC:=hO;rw [vk] at gC;simp only [ae,ag,ah,aN,ab,af,ai] at gC;simp only [ha,bT,aJ,cf,bJ,aM,ax,go_sem];refine cW (tB (pn ⟨#[108,105,115,116]⟩ (by decide) a hWa _ _ (by simp only [ae,ag,ah,aN,ab,af,ai];omega)) (by simp [aG,aQ]) _) ?_;rintro _ _ ⟨rfl,O1,v1,kM,rfl⟩;have om:=congrArg List.length kM;simp only [ae,ag,ah,aN,ab,af,ai] at om;simp only [ha,bT,aJ,cf,bJ,aM,ax,go_sem];exact hK _ _ ⟨rfl,_,_,by rw [vk];simp only [*,ae,ag,ah,aN,aA,ay,aC],rfl⟩
 have h5:¬ t.kind=5:=by simpa using xX
 rw [if_neg h5] at vk;simp only [go_sem];refine ca (fun QF=>?_) (fun QF=>?_);·(have h6:t.kind=6:=by simpa using QF);rw [if_pos h6] at vk;have gC:=hO;rw [vk] at gC;simp only [ae,ag,ah,aN,ab,af,ai] at gC;simp only [go_sem];refine cW (lU (cL [⟨#[123]⟩] (by simp) (jh (by decide) lX) _ _ (by simp only [ae,ag,ah,aN,ab,af,ai];omega)) _ 1 rfl rfl (fun _=>rfl) rfl) ?_;rintro _ _ ⟨rfl,O2,v2,sU,rfl⟩;have Cl:=congrArg List.length sU;simp only [ae,ag,ah,aN,ab,af,ai] at Cl;simp only [go_sem];refine cW (tB (u0 t.bD ht.lf ht.fn hF ⟨#[44,32]⟩ (by decide) _ _ (by rw [aN];omega)) (by simp [aG,aQ]) _) ?_;rintro _ _ ⟨rfl,O3,v3,tE,rfl⟩;have CM:=congrArg List.length tE;simp only [ae,ag,ah,aN,ab,af,ai] at CM;simp only [go_sem];refine cW (lU (cL [⟨#[125]⟩] (by simp) (jh (by decide) lX) _ _ (by simp only [ae,ag,ah,aN,ab,af,ai];omega)) _ 2 rfl rfl (fun _=>rfl) rfl) ?_;rintro _ _ ⟨rfl,O4,v4,CN,rfl⟩;have H5:=congrArg List.length CN;simp only [ae,ag,ah,aN,ab,af,ai] at H5;simp only [go_sem];exact hK _ _ ⟨rfl,_,_,by rw [vk];simp only [*,ae,ag,ah,aN,aA,ay,aC],rfl⟩
 have h6:¬ t.kind=6:=by simpa using QF
 rw [if_neg h6] at vk;simp only [go_sem];refine ca (fun u1=>?_) (fun u1=>?_);·(have h7:t.kind=7:=by simpa using u1);rw [if_pos h7] at vk;have gC:=hO;rw [vk] at gC;simp only [ae,ag,ah,aN,ab,af,ai] at gC;simp only [go_sem];refine cW (lU (cL [⟨#[60]⟩] (by simp) (jh (by decide) lX) _ _ (by simp only [ae,ag,ah,aN,ab,af,ai];omega)) _ 1 rfl rfl (fun _=>rfl) rfl) ?_;rintro _ _ ⟨rfl,O5,v5,Q9,rfl⟩;have Vf:=congrArg List.length Q9;simp only [ae,ag,ah,aN,ab,af,ai] at Vf;simp only [go_sem];refine cW (tB (u0 t.bD ht.lf ht.fn hF ⟨#[32,124,32]⟩ (by decide) _ _ (by rw [aN];omega)) (by simp [aG,aQ]) _) ?_;rintro _ _ ⟨rfl,O6,v6,Xf,rfl⟩;have hl6:=congrArg List.length Xf;simp only [ae,ag,ah,aN,ab,af,ai] at hl6;simp only [go_sem];refine cW (lU (cL [⟨#[62]⟩] (by simp) (jh (by decide) lX) _ _ (by simp only [ae,ag,ah,aN,ab,af,ai];omega)) _ 2 rfl rfl (fun _=>rfl) rfl) ?_;rintro _ _ ⟨rfl,O7,v7,hO7,rfl⟩;have hl7:=congrArg List.length hO7;simp only [ae,ag,ah,aN,ab,af,ai] at hl7;simp only [go_sem];exact hK _ _ ⟨rfl,_,_,by rw [vk];simp only [*,ae,ag,ah,aN,aA,ay,aC],rfl⟩
 have h7:¬ t.kind=7:=by simpa using u1
 rw [if_neg h7] at vk;simp only [go_sem];refine ca (fun xY=>?_) (fun xY=>?_);·(have h8:t.kind=8:=by simpa using xY);rw [if_pos h8] at vk;obtain⟨a,r,ha⟩:=ht.hd (.inr h8);rw [ha] at vk;dsimp only [lT] at vk;have hWa:WT a:=hA a (by rw [ha];exact cA ..);have gC:=hO;rw [vk] at gC;simp only [ae,ag,ah,aN,ab,af,ai] at gC;simp only [ha,bT,aJ,cf,bJ,aM,ax,go_sem];refine cW (lU (cL [⟨#[102,110,40]⟩] (by simp) (jh (by decide) lX) _ _ (by simp only [ae,ag,ah,aN,ab,af,ai];omega)) _ 1 rfl rfl (fun _=>rfl) rfl) ?_;rintro _ _ ⟨rfl,O8,v8,hO8,rfl⟩;have hl8:=congrArg List.length hO8;simp only [ae,ag,ah,aN,ab,af,ai] at hl8;simp only [ha,bT,aJ,cf,bJ,aM,ax,go_sem];refine cW (tB (u0 t.bD ht.lf ht.fn hF ⟨#[44,32]⟩ (by decide) _ _ (by rw [aN];omega)) (by simp [aG,aQ]) _) ?_;rintro _ _ ⟨rfl,O9,v9,hO9,rfl⟩;have hl9:=congrArg List.length hO9;simp only [ae,ag,ah,aN,ab,af,ai] at hl9;simp only [ha,bT,aJ,cf,bJ,aM,ax,go_sem];refine cW (lU (cL [⟨#[41,32]⟩] (by simp) (jh (by decide) lX) _ _ (by simp only [ae,ag,ah,aN,ab,af,ai];omega)) _ 2 rfl rfl (fun _=>rfl) rfl) ?_;rintro _ _ ⟨rfl,O10,v10,aad,rfl⟩;have aae:=congrArg List.length aad;simp only [ae,ag,ah,aN,ab,af,ai] at aae;simp only [ha,bT,aJ,cf,bJ,aM,ax,go_sem];refine cW (H4 (hWa) (by omega) _) ?_;rintro _ _ ⟨rfl,O11,v11,NL,rfl⟩;have Ra:=congrArg List.length NL;simp only [ae,ag,ah,aN,ab,af,ai] at Ra;simp only [ha,bT,aJ,cf,bJ,aM,ax,go_sem];exact hK _ _ ⟨rfl,_,_,by rw [vk];simp only [*,ae,ag,ah,aN,aA,ay,aC],rfl⟩
 have h8:¬ t.kind=8:=by simpa using xY
 rw [if_neg h8] at vk;simp only [go_sem];refine ca (fun Fq=>?_) (fun Fq=>?_);·(have C9:t.kind=10:=by simpa using Fq);rw [if_pos C9] at vk;have gC:=hO;rw [vk] at gC;simp only [go_sem];refine cW (tB (Fm t.mod t.name (ht.nm C9) t.args ht.la hA _ _ (by omega)) (by simp [aG,aQ]) _) ?_;rintro _ _ ⟨rfl,O12,v12,Vg,rfl⟩;simp only [go_sem];exact hK _ _ ⟨rfl,_,_,by rw [vk];simp only [*,ae,ag,ah,aN,aA,ay,aC],rfl⟩
 have C9:¬ t.kind=10:=by simpa using Fq
 rw [if_neg C9] at vk;have gC:=hO;rw [vk] at gC;have jt:=iW t.kind ht.k0 (by have h1:=ht.k1;omega);have hbw:=Z0 t.kind;rw [← hbw] at vk gC;simp only [bW,jt,go_sem];refine cW (lU (cL [(Q8 t.kind)] (by simp) (jh (Ve _) lX) _ _ (by simp only [ae,ag,ah,aN,ab,af,ai];omega)) _ 1 rfl rfl (fun _=>rfl) rfl) ?_;rintro _ _ ⟨rfl,O13,v13,aaf,rfl⟩;have aag:=congrArg List.length aaf;simp only [ae,ag,ah,aN,ab,af,ai] at aag;simp only [bW,jt,go_sem];exact hK _ _ ⟨rfl,_,_,by rw [vk];simp only [*,ae,ag,ah,aN,aA,ay,aC],rfl⟩
end
theorem LY (P:Ty→Prop) (hP:∀ t,P t→TyK t∧∀ u∈t.parts,P u):∀ (N:Nat) (t:Ty),t.size≤N→P t→WT t
 | 0,t,h,_=>absurd t.size_pos (by omega)
 | N+1,t,h,ht=>by
  obtain⟨h1,h2⟩:=hP t ht
  have hs:=t.dB
  have hp:∀ u∈t.parts,WT u:=fun u hu=>by
   obtain⟨i,hi⟩:=cb.1 hu
   have:=b9 Ty.size hi
   exact LY P hP N u (by omega) (h2 u hu)
  exact NK t h1 (fun u hu=>hp u (jq _ hu)) fun x hx=>hp x.ty (kS _ (arR hx))
end
section
theorem ajY (c:UInt8):((c.toNat:Int)).fdiv (2 ^ min (4:Int).toNat IntKind.u8.bits)=((c / 16).toNat:Int):=by
 have h:∀ n:Fin 256,((n.val:Int)).fdiv (2 ^ min (4:Int).toNat IntKind.u8.bits)=((n.val / 16:Nat):Int):=by decide +kernel
 rw [h ⟨c.toNat,c.toNat_lt⟩,ar8];rfl
theorem aeF (c:UInt8):UB .u8 (c.toNat:Int) 15=((c % 16).toNat:Int):=by
 have h:∀ n:Fin 256,UB .u8 (n.val:Int) 15=((n.val % 16:Nat):Int):=by decide +kernel
 rw [h ⟨c.toNat,c.toNat_lt⟩,ar9];rfl
def aah:ByteArray:=⟨#[48,49,50,51,52,53,54,55,56,57,97,98,99,100,101,102]⟩
theorem aai (d:UInt8) (h:d.toNat<16):aah[d.toNat]?=some (Ny d):=by
 have h1:∀ n:Fin 16,aah[n.val]?=some (Ny (UInt8.ofNat n.val)):=by decide +kernel
 have h2:=h1 ⟨d.toNat,h⟩;simpa using h2
theorem jt (d:UInt8) (h:d.toNat<16):dJ aj (Instr.index 9) (str ⟨#[48,49,50,51,52,53,54,55,56,57,97,98,99,100,101,102]⟩) (.sc (.int .u8 (d.toNat:Int)))=some (.sc (.int .u8 ((Ny d).toNat:Int))) :=
 eR (P:=aj) aah Tryz.underlying9 .u8 d.toNat (by omega) (c:=Ny d) (by rw [nK];exact aai d h)
theorem Xg {c:UInt8} (h:(c.toNat:Int)=34∨(c.toNat:Int)=92):IV c=[92,c]:=by
 have:c=34∨c=92:=by rcases h with h|h;exact .inl (arH (by show c.toNat=34;omega));exact .inr (arH (by show c.toNat=92;omega))
 unfold IV;rw [if_pos this]
theorem Rb {c:UInt8} (h1:¬ (c.toNat:Int)=34) (h2:¬ (c.toNat:Int)=92):¬ (c=34∨c=92):=by
 rintro (rfl|rfl);·exact h1 rfl
 exact h2 rfl
theorem aeG {c:UInt8} (h:(c.toNat:Int)=10):IV c=[92,110]:=by have:c=10:=arH (by show c.toNat=10;omega);subst this;rfl
theorem aeH {c:UInt8} (h1:¬ (c.toNat:Int)=34) (h2:¬ (c.toNat:Int)=92) (h3:32≤(c.toNat:Int)) (h4:(c.toNat:Int)≤126):IV c=[c]:=by unfold IV;rw [if_neg (Rb h1 h2),if_neg (by rintro rfl;exact absurd h3 (by decide)),if_pos ⟨arv.2 (by show 32≤c.toNat;omega),arv.2 (by show c.toNat≤126;omega)⟩]
theorem Xh {c:UInt8} (h1:¬ (c.toNat:Int)=34) (h2:¬ (c.toNat:Int)=92) (h3:¬ (c.toNat:Int)=10) (h4:¬ (32≤(c.toNat:Int)∧(c.toNat:Int)≤126)):IV c=[92,120,Ny (c / 16),Ny (c % 16)]:=by unfold IV;rw [if_neg (Rb h1 h2),if_neg (by rintro rfl;exact h3 rfl),if_neg];rintro⟨h5,h6⟩;have h5:=arv.1 h5;have h6:=arv.1 h6;have e1:(32:UInt8).toNat=32:=rfl;have e2:(126:UInt8).toNat=126:=rfl;rw [e1] at h5;rw [e2] at h6;exact h4 ⟨by omega,by omega⟩
theorem Vh (c:UInt8):(IV c).length≤4:=by unfold IV;(repeat' split) <;> simp
theorem Vi (l:List UInt8):(l.flatMap IV).length≤4*l.length:=by induction l with|nil=>simp|cons c r ih=>rw [ae,ab,af];have:=Vh c;omega
theorem aeI {s:ByteArray} {i:Nat} {c:UInt8} (h:s[i]?=some c):(bt s)[i]?=some c:=by obtain⟨⟨l⟩⟩:=s;have h2:∀ (a:Array UInt8) (i:Nat),(ByteArray.mk a)[i]?=a[i]?:=fun a i=>rfl;rw [h2] at h;simpa [bt] using h
theorem aeJ (d:UInt8) (h:d.toNat<16):dJ aj (Instr.index 9) (str ⟨#[48,49,50,51,52,53,54,55,56,57,97,98,99,100,101,102]⟩) (.sc (.int .u8 (d.toNat:Int)))=some (.sc (.int .u8 ((Ny d).toNat:Int))):=jt d h
theorem aaj {T:TypeId} (v:Nat) (O:List UInt8) (h0:O≠[]):∃ r m,(r=str (bs O)∧m=[.n5 T 1 v O.length,.rP v 1 (lS O)])∧bI aj 85 [.ptr 0 0] [.n5 T 1 v O.length,.oW 5 v O] r m:=⟨_,_,⟨rfl,rfl⟩,DN v O h0⟩
section
attribute [local go_sem] bM ai
theorem H6 (s:ByteArray) (hs:s.size≤1048576):Cn 112 [str s] (str (bs (Nz s))):=by
 refine gy tt_ok [1] 50 [.tmp 2] (fn:=Tryz.f112) Tryz.func112 rfl Tryz.call112 ⟨rfl,rfl,by simp⟩ fun K hK=>?_;have lD:aj.underlying 9=some .string:=Tryz.underlying9;have sl:∀ (a:ByteArray) (ty:TypeId),iq aj (Builtin.len_ #[9] ty) [.sc (.string a)]=some (num a.size):=fun a ty=>gi (P:=aj) (tt:=tt) (T:=9) a lD ty;have bl_:=dY s;simp only [go_sem];refine adZ tt_ok 5 [1] rfl rfl rfl WK rfl ?_;simp only [go_sem];refine cW (H2 (kn wN 34 0 [] (by simp)) rfl rfl []) ?_;rintro _ _ ⟨rfl,O1,v1,kM,rfl⟩;have om:=congrArg List.length kM;simp only [ae,ag,ah,aN,ab,af,ai] at om;simp only [go_sem];refine mv tt_ok [1] (fun a:Nat×Nat×List UInt8=>[(0,str s),(3,.ptr 0 0),(8,num s.size),(9,num a.1)]) (fun a:Nat×Nat×List UInt8=>bM 127 a.2.1 a.2.2 []) (fun a=>s.size-a.1) (fun a=>a.1≤s.size∧a.2.2=34 :: ((bt s).take a.1).flatMap IV) ((0,v1,O1)) 2 (eK (by omega) (by simp only [sl,dC,go_sem] <;> rfl)) (⟨bj _,by rw [kM];simp⟩) ?_;clear kM om;rintro⟨i,va,Oa⟩ ⟨hi,mW⟩;try dsimp only at hi mW
 have uB:=congrArg List.length mW;have hqf:=Vi ((bt s).take i);rw [cQ] at hqf;rw [af] at uB;try dsimp only [bM]
 intro Z1 dW;simp only [go_sem];refine ca (fun jZ=>?_) (fun jZ=>?_);·(have bL:i<s.size:=by simpa using jZ);have hw:=bm i (by omega);obtain⟨c,hc⟩:=eC (s:=s) (i:=i) bL;have jt:=eR (P:=aj) s lD .i64 (i:Int) (by omega) (c:=c) (by rw [nK];exact hc);have rE:=qt IV (aeI hc);have pQ:=fun x y k=>YZ aj 5 x y .u8 k c.toNat 4 (by omega);have xg:=fun x y=>Y0 aj 5 x y .u8 c.toNat 15;simp only [ajY] at pQ;simp only [aeF] at xg;have ry:=aeJ (c / 16) (by rw [ar8];have:=c.toNat_lt;show c.toNat / 16<16;omega);have td:=aeJ (c % 16) (by rw [ar9];show c.toNat % 16<16;omega);simp only [hw,jt,pQ,xg,ry,td,go_sem];refine ca (fun xZ=>?_) (fun xZ=>?_);(·have hq:=Xg (c:=c) (by first|exact .inl (of_decide_eq_true xZ)|exact .inr (of_decide_eq_true wR));have C1:=congrArg List.length hq;simp only [ae,ag,ah,aN,ab,af,ai] at C1;simp only [hw,jt,pQ,xg,ry,td,go_sem];refine cW (H2 (kn wN 92 _ _ (by omega)) rfl rfl []) ?_;rintro _ _ ⟨rfl,O2,v2,sU,rfl⟩;have Cl:=congrArg List.length sU;simp only [ae,ag,ah,aN,ab,af,ai] at Cl;simp only [hw,jt,pQ,xg,ry,td,go_sem];refine cW (H2 (kn wN c _ _ (by omega)) rfl rfl []) ?_;rintro _ _ ⟨rfl,Oy,vy,jE,rfl⟩;have BH:=congrArg List.length jE;simp only [ae,ag,ah,aN,ab,af,ai] at BH;simp only [hw,jt,pQ,xg,ry,td,go_sem];refine dW _ ⟨(i+1,vy,Oy),?_,?_,eK (by omega) (by simp only [hw,go_sem])⟩;(·exact⟨bL,by rw [rE,hq];simp only [*,aA,ay,aC]⟩);dsimp only;omega);simp only [hw,jt,pQ,xg,ry,td,go_sem];refine ca (fun wR=>?_) (fun wR=>?_);(·have hq:=Xg (c:=c) (by first|exact .inl (of_decide_eq_true xZ)|exact .inr (of_decide_eq_true wR));have C1:=congrArg List.length hq;simp only [ae,ag,ah,aN,ab,af,ai] at C1;simp only [hw,jt,pQ,xg,ry,td,go_sem];refine cW (H2 (kn wN 92 _ _ (by omega)) rfl rfl []) ?_;rintro _ _ ⟨rfl,O4,v4,CN,rfl⟩;have H5:=congrArg List.length CN;simp only [ae,ag,ah,aN,ab,af,ai] at H5;simp only [hw,jt,pQ,xg,ry,td,go_sem];refine cW (H2 (kn wN c _ _ (by omega)) rfl rfl []) ?_;rintro _ _ ⟨rfl,Oy,vy,jE,rfl⟩;have BH:=congrArg List.length jE;simp only [ae,ag,ah,aN,ab,af,ai] at BH;simp only [hw,jt,pQ,xg,ry,td,go_sem];refine dW _ ⟨(i+1,vy,Oy),?_,?_,eK (by omega) (by simp only [hw,go_sem])⟩;(·exact⟨bL,by rw [rE,hq];simp only [*,aA,ay,aC]⟩);dsimp only;omega);simp only [hw,jt,pQ,xg,ry,td,go_sem];refine ca (fun tQ=>?_) (fun tQ=>?_);(·have hq:=aeG (c:=c) (of_decide_eq_true tQ);have C1:=congrArg List.length hq;simp only [ae,ag,ah,aN,ab,af,ai] at C1;simp only [hw,jt,pQ,xg,ry,td,go_sem];refine cW (H2 (wP wN ⟨#[92,110]⟩ (by decide) _ _ (by have e_:(⟨#[92,110]⟩:ByteArray).size=2:=rfl;omega)) rfl rfl []) ?_;rintro _ _ ⟨rfl,Oy,vy,jE,rfl⟩;rw [aN] at jE;have BH:=congrArg List.length jE;simp only [ae,ag,ah,aN,ab,af,ai] at BH;simp only [hw,jt,pQ,xg,ry,td,go_sem];refine dW _ ⟨(i+1,vy,Oy),?_,?_,eK (by omega) (by simp only [hw,go_sem])⟩;(·exact⟨bL,by rw [rE,hq];simp only [*,aA,ay,aC]⟩);dsimp only;omega);simp only [hw,jt,pQ,xg,ry,td,go_sem];refine ca (fun Fs=>?_) (fun Fs=>?_);(·simp only [hw,jt,pQ,xg,ry,td,go_sem];refine ca (fun tP=>?_) (fun tP=>?_);(·have hq:=aeH (c:=c) (of_decide_eq_false xZ) (of_decide_eq_false wR) (of_decide_eq_true Fs) (of_decide_eq_true tP);have C1:=congrArg List.length hq;simp only [ae,ag,ah,aN,ab,af,ai] at C1;simp only [hw,jt,pQ,xg,ry,td,go_sem];refine cW (H2 (kn wN c _ _ (by omega)) rfl rfl []) ?_;rintro _ _ ⟨rfl,Oy,vy,jE,rfl⟩;have BH:=congrArg List.length jE;simp only [ae,ag,ah,aN,ab,af,ai] at BH;simp only [hw,jt,pQ,xg,ry,td,go_sem];refine dW _ ⟨(i+1,vy,Oy),?_,?_,eK (by omega) (by simp only [hw,go_sem])⟩;(·exact⟨bL,by rw [rE,hq];simp only [*,aA,ay,aC]⟩);dsimp only;omega);have hq:=Xh (c:=c) (of_decide_eq_false xZ) (of_decide_eq_false wR) (of_decide_eq_false tQ) (by first|exact fun h_=>(of_decide_eq_false Fs) h_.1|exact fun h_=>(of_decide_eq_false tP) h_.2);have C1:=congrArg List.length hq;simp only [ae,ag,ah,aN,ab,af,ai] at C1;simp only [hw,jt,pQ,xg,ry,td,go_sem];refine cW (H2 (wP wN ⟨#[92,120]⟩ (by decide) _ _ (by have e_:(⟨#[92,120]⟩:ByteArray).size=2:=rfl;omega)) rfl rfl []) ?_;rintro _ _ ⟨rfl,O8,v8,hO8,rfl⟩;rw [aN] at hO8;have hl8:=congrArg List.length hO8;simp only [ae,ag,ah,aN,ab,af,ai] at hl8;simp only [hw,jt,pQ,xg,ry,td,go_sem];refine cW (H2 (kn wN (Ny (c / 16)) _ _ (by omega)) rfl rfl []) ?_;rintro _ _ ⟨rfl,O9,v9,hO9,rfl⟩;have hl9:=congrArg List.length hO9;simp only [ae,ag,ah,aN,ab,af,ai] at hl9;simp only [hw,jt,pQ,xg,ry,td,go_sem];refine cW (H2 (kn wN (Ny (c % 16)) _ _ (by omega)) rfl rfl []) ?_;rintro _ _ ⟨rfl,Oy,vy,jE,rfl⟩;have BH:=congrArg List.length jE;simp only [ae,ag,ah,aN,ab,af,ai] at BH;simp only [hw,jt,pQ,xg,ry,td,go_sem];refine dW _ ⟨(i+1,vy,Oy),?_,?_,eK (by omega) (by simp only [hw,go_sem])⟩;(·exact⟨bL,by rw [rE,hq];simp only [*,aA,ay,aC]⟩);dsimp only;omega);have hq:=Xh (c:=c) (of_decide_eq_false xZ) (of_decide_eq_false wR) (of_decide_eq_false tQ) (by first|exact fun h_=>(of_decide_eq_false Fs) h_.1|exact fun h_=>(of_decide_eq_false tP) h_.2);have C1:=congrArg List.length hq;simp only [ae,ag,ah,aN,ab,af,ai] at C1;simp only [hw,jt,pQ,xg,ry,td,go_sem];refine cW (H2 (wP wN ⟨#[92,120]⟩ (by decide) _ _ (by have e_:(⟨#[92,120]⟩:ByteArray).size=2:=rfl;omega)) rfl rfl []) ?_;rintro _ _ ⟨rfl,O11,v11,NL,rfl⟩;rw [aN] at NL;have Ra:=congrArg List.length NL;simp only [ae,ag,ah,aN,ab,af,ai] at Ra;simp only [hw,jt,pQ,xg,ry,td,go_sem];refine cW (H2 (kn wN (Ny (c / 16)) _ _ (by omega)) rfl rfl []) ?_;rintro _ _ ⟨rfl,O12,v12,Vg,rfl⟩;have aak:=congrArg List.length Vg;simp only [ae,ag,ah,aN,ab,af,ai] at aak;simp only [hw,jt,pQ,xg,ry,td,go_sem];refine cW (H2 (kn wN (Ny (c % 16)) _ _ (by omega)) rfl rfl []) ?_;rintro _ _ ⟨rfl,Oy,vy,jE,rfl⟩;have BH:=congrArg List.length jE;simp only [ae,ag,ah,aN,ab,af,ai] at BH;simp only [hw,jt,pQ,xg,ry,td,go_sem];refine dW _ ⟨(i+1,vy,Oy),?_,?_,eK (by omega) (by simp only [hw,go_sem])⟩;(·exact⟨bL,by rw [rE,hq];simp only [*,aA,ay,aC]⟩);dsimp only;omega
 have gq:¬ i<s.size:=by simpa using jZ
 have lh:i=s.size:=by omega
 rw [lh,← bl_,al] at mW;simp only [go_sem];refine cW (H2 (kn wN 34 _ _ (by omega)) rfl rfl []) ?_;rintro _ _ ⟨rfl,Oy,vy,jE,rfl⟩;have BH:=congrArg List.length jE;simp only [ae,ag,ah,aN,ab,af,ai] at BH;simp only [go_sem];refine cW (aaj _ _ (by rw [jE];simp)) ?_;rintro _ _ ⟨rfl,rfl⟩;simp only [go_sem];exact hK _ (by rw [jE,mW];rfl)
end
end
section
def iY (s:ByteArray):V:=.eg [num (xU s).1,.agg [num (xU s).2.1,num (xU s).2.2]]
theorem bO (a b:Int):xq aj 210 [(0,.int .i64 a),(1,.int .i64 b)]=some (.agg [num a,num b]):=kr
theorem bO1 (a:Int):xq aj 210 [(0,.int .i64 a)]=some (.agg [num a,num 0]):=kr
section
attribute [local go_sem] dh bO bO1
theorem yO (s:ByteArray):Cn 200 [str s] (iY s):=by
 refine gy tt_ok [] 28 [.tmp 2,.cell 3 210] (fn:=Tryz.f200) Tryz.func200 rfl Tryz.call200 ⟨rfl,rfl,by simp⟩ fun K hK=>?_;simp only [go_sem];refine ca (fun Ot=>?_) (fun Ot=>?_) <;> simp only [go_sem];·exact hK _ (by simp_all [iY,xU])
 refine ca (fun LZ=>?_) (fun LZ=>?_) <;> simp only [go_sem];·exact hK _ (by simp_all [iY,xU])
 refine ca (fun j0=>?_) (fun j0=>?_) <;> simp only [go_sem];·exact hK _ (by simp_all [iY,xU])
 refine ca (fun lE=>?_) (fun lE=>?_) <;> simp only [go_sem];·exact hK _ (by simp_all [iY,xU])
 refine ca (fun lE=>?_) (fun lE=>?_) <;> simp only [go_sem];·exact hK _ (by simp_all [iY,xU])
 refine ca (fun lE=>?_) (fun lE=>?_) <;> simp only [go_sem];·exact hK _ (by simp_all [iY,xU])
 refine ca (fun nF=>?_) (fun nF=>?_) <;> simp only [go_sem];·exact hK _ (by simp_all [iY,xU])
 refine ca (fun nF=>?_) (fun nF=>?_) <;> simp only [go_sem];·exact hK _ (by simp_all [iY,xU])
 refine ca (fun nF=>?_) (fun nF=>?_) <;> simp only [go_sem];·exact hK _ (by simp_all [iY,xU])
 refine ca (fun wR=>?_) (fun wR=>?_) <;> simp only [go_sem];·exact hK _ (by simp_all [iY,xU])
 exact hK _ (by simp_all [iY,xU])
end
theorem Rc (x:Ex):Cn 198 [bH x] (num x.lvl):=by
 refine gy tt_ok [] 30 [.tmp 2] (fn:=Tryz.f198) Tryz.func198 rfl Tryz.call198 ⟨rfl,rfl,by simp⟩ fun K hK=>?_;simp only [bk,aX];simp only [iY,go_sem];refine ca (fun yK=>?_) (fun yK=>?_) <;> simp only [iY,go_sem];·exact hK _ (by simp_all [Ex.lvl])
 refine ca (fun yK=>?_) (fun yK=>?_) <;> simp only [iY,go_sem];·exact hK _ (by simp_all [Ex.lvl])
 refine ca (fun yK=>?_) (fun yK=>?_) <;> simp only [iY,go_sem];·exact hK _ (by simp_all [Ex.lvl])
 refine ca (fun yK=>?_) (fun yK=>?_) <;> simp only [iY,go_sem];·exact hK _ (by simp_all [Ex.lvl])
 refine ca (fun yK=>?_) (fun yK=>?_) <;> simp only [iY,go_sem];·exact hK _ (by simp_all [Ex.lvl])
 refine ca (fun xX=>?_) (fun xX=>?_) <;> simp only [iY,go_sem];·refine dK (yO x.name) ?_;simp only [iY,go_sem];exact hK _ (by simp_all [Ex.lvl])
 refine ca (fun re=>?_) (fun re=>?_) <;> simp only [iY,go_sem];·exact hK _ (by simp_all [Ex.lvl])
 refine ca (fun re=>?_) (fun re=>?_) <;> simp only [iY,go_sem];·exact hK _ (by simp_all [Ex.lvl])
 refine ca (fun sW=>?_) (fun sW=>?_) <;> simp only [iY,go_sem];·refine ca (fun Re=>?_) (fun Re=>?_) <;> simp only [iY,go_sem];(·exact hK _ (by simp_all [Ex.lvl]));exact hK _ (by simp_all [Ex.lvl])
 exact hK _ (by simp_all [Ex.lvl])
end
theorem Ty.induct {p:Ty→Prop} (h:∀ t:Ty,(∀ u∈t.parts,p u)→p t):∀ t,p t:=by
 have key:∀ (N:Nat) (t:Ty),t.size≤N→p t:=by intro N;induction N with|zero=>intro t ht;have:=t.size_pos;omega|succ N ih =>intro t ht;refine h t fun u hu=>ih u ?_;obtain⟨i,hi⟩:=cb.1 hu;have e1:=b9 Ty.size hi;have e2:=t.dB;omega
 exact fun t=>key t.size t (aB _)
def Ty.vars (t:Ty):List ByteArray:=(t.nodes.filter fun u=>decide (u.kind=9)).map Ty.name
section
attribute [local irreducible] runM gx qb dn lL wa Dp
abbrev Us:=ByteArray×ByteArray
def fU (u:Us):V:=.agg [str u.1,str u.2]
theorem yP {P:Program} {T:TypeId} (hT:P.underlying T=some .string) (d:Nat) (a b:ByteArray):dc P (Op.equalIn (d+1) T (.string a) (.string b))=some (a==b):=by rw [Op.equalIn,fH,l6 hT];rfl
theorem ajZ (a b c d:ByteArray):dc aj (Op.equal 118 (.agg #[.string a,.string b]) (.agg #[.string c,.string d]))=some (a==c&&b==d):=by
 show dc aj (Op.equalIn (9999+1) 118 _ _)=_;have h1:=yP Tryz.underlying9 9998 a c;have h2:=yP Tryz.underlying9 9998 b d;have hs:aj.stoodInHeld 118=false:=kr;have IQ:∀ x y,dc aj (part 9 #[x,y] 0)=some x:=fun x y=>kr;have Az:∀ x y,dc aj (part 9 #[x,y] 1)=some y:=fun x y=>kr;rw [Op.equalIn,fH,l6 Tryz.underlying118];dsimp only [lW];rw [fH];show ((some aj).bind _)=_;rw [lW,if_neg (by rw [hs];simp)];rw [← Array.forIn_toList];have n1:("Module" ≠ "_"):=by decide
 have n2:("Name" ≠ "_"):=by decide
 have q1:dc aj (Op.equalIn 9999 9 (Value.string a) (Value.string c))=some (a==c):=h1;have q2:dc aj (Op.equalIn 9999 9 (Value.string b) (Value.string d))=some (b==d):=h2;have pr:∀ {α:Type} (x:α),dc aj (pure x:Sem α)=some x:=fun x=>rfl;simp only [List.forIn_cons,List.forIn_nil,fH,if_pos n1,if_pos n2,IQ,Az,lW,q1,pr];cases hac:(a==c);·simp [pr,lW]
 simp only [aY,bF,if_false,pr,lW,fH,if_pos n2,Az,q2,aP];cases uo:(b==d) <;> simp [pr,fH]
theorem aal (u v:Us):(u.1==v.1&&u.2==v.2)=decide (u=v):=by rw [gu,aL,tq,tq,decide_eq_true_eq,Prod.ext_iff]
theorem lj (x y:Operand) (u v:Us):dJ aj (qw .eql 118 x y) (.agg [str u.1,str u.2]) (.agg [str v.1,str v.2])=some (bl (decide (u=v))):=by
 have:dc aj (do eqGuard .eql 118 x y (.agg #[.string u.1,.string u.2]) (.agg #[.string v.1,.string v.2]);binOp .eql 118 (.agg #[.string u.1,.string u.2]) (.agg #[.string v.1,.string v.2]))=some (.bool (decide (u=v))):=by have hg:dc aj (eqGuard .eql 118 x y (.agg #[.string u.1,.string u.2]) (.agg #[.string v.1,.string v.2]))=some ():=kr;rw [fH,hg,lW];have hb:∀ u v:Array Value,binOp .eql 118 (.agg u) (.agg v)=(Op.equal 118 (.agg u) (.agg v) >>= fun r=>Pure.pure (Value.bool r)):=fun u v=>rfl;rw [hb,fH,ajZ,aal];rfl
 simp only [dJ,fe,Ac,qw];rw [this];rfl
def oe (a b:ByteArray):Bool:=Op.bytesLess a.toList b.toList
def pS (u v:Us):Bool:=oe u.1 v.1||decide (u.1=v.1)&&oe u.2 v.2
theorem Vj (a b:Us):Cn 228 [fU a,fU b] (bl (pS a b)):=by
 refine Dq tt_ok (fn:=Tryz.f228) Tryz.func228 rfl Tryz.call228 ?_;simp only [cZ,cO,Tryz.ntmps228,af,ai,zA,zF,aH,aI];simp only [fU];refine bK tt_ok 24 [0,0,2,2,2] [] rfl rfl fun K hK=>?_;simp only [go_sem,al];refine hK _ _ rfl ?_;simp only [ji,zA,zE];refine bK tt_ok 24 (0::0::0::0::2::(rp 19 1 [])) [(5,10),(11,16)] rfl rfl fun K hK=>?_;try simp only [cZ]
 refine fA 6 fun K1 ff=>?_;simp only [go_sem,al];refine ff _ ?_;refine tp 10 (by rfl) fun b L0=>?_;cases b;·refine fA 6 fun K1 ff=>?_;simp only [go_sem,al];refine ff _ ?_;refine tp 16 (by rfl) fun b Rf=>?_;cases b;(·simp only [cZ,go_sem,al];refine hK _ _ rfl ?_;simp only [ji,zA,zE];exact lB ⟨.inl rfl,_,congrArg bl (by simp_all [pS,oe,dh]),rfl⟩);simp only [cZ,go_sem,al];refine hK _ _ rfl ?_;simp only [ji,zA,zE];exact lB ⟨.inl rfl,_,congrArg bl (by simp_all [pS,oe,dh]),rfl⟩
 refine fA 8 fun K1 ff=>?_;simp only [go_sem,al];refine ff _ ?_;simp only [go_sem,al];refine hK _ _ rfl ?_;simp only [ji,zA,zE];exact lB ⟨.inl rfl,_,congrArg bl (by simp_all [pS,oe,dh]),rfl⟩
end
end Go.Proofs.YtfbbfmcggbapoaaGreatDoor
end
