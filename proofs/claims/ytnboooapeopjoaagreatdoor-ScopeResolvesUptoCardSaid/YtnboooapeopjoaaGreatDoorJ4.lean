import Derived.Test.YtnboooapeopjoaaGreatDoorJ3
open Array renaming toList_inj→ajq
open Bool renaming and_eq_true→aD,and_true→aF,eq_false_iff→ad3,eq_iff_iff→ju,or_false→aP,or_true→aU
open ByteArray renaming ext→as4
open Classical renaming byContradiction→r6
open Go.Proofs.Tryz renaming prog→ab
open Int renaming cast_ofNat_Int→bB
open List renaming all_append→mP,all_cons→ct,all_eq_true→aX,all_nil→dO,any_cons→ati,append_assoc→sf,append_nil→ij,cons_append→ai,drop_eq_getElem_cons→cr,ext_getElem?→dq,flatMap_append→asT,flatMap_cons→jx,foldl_append→Dj,foldl_cons→fq,getElem?_append_left→bx,getElem?_append_right→a6,getElem?_cons_zero→ee,getElem?_drop→CM,getElem?_eq_getElem→af,getElem?_eq_some_iff→aq,getElem?_map→ae,getElem?_set→bK,headD_cons→bg,length_append→bc,length_cons→aj,length_map→aw,length_nil→aA,length_set→mO,length_singleton→asS,length_take→cn,map_append→dh,map_congr_left→iq,map_cons→cz,map_id→as3,map_map→ar6,map_nil→bW,map_set→gg,mem_append→ft,mem_append_left→fH,mem_append_right→gD,mem_cons→dj,mem_cons_of_mem→bE,mem_cons_self→bZ,mem_flatMap→gK,mem_iff_getElem?→bS,mem_map→dr,mem_of_getElem?→ay,mem_or_eq_of_mem_set→atl,mem_singleton→dX,nil_append→ak,nodup_nil→atq,replicate_succ→aH,replicate_zero→aI,set_append_right→dt,set_cons_succ→je,set_cons_zero→eD,take_add_one→bn,take_append_drop→ld,take_left→rM,take_length→au,take_of_length_le→bu,take_zero→dV
open Nat renaming add_sub_cancel_left→ef,le_refl→ax,lt_or_ge→br,lt_succ_self→l5,min_eq_left→asU,not_lt_zero→cf,sub_self→cI,sub_zero→UW,zero_add→aZ,zero_le→aW
open Option renaming getD_none→atw,getD_some→ajp,isNone_none→ads,isSome_none→atC,isSome_some→atD,map_none→asK,map_some→aC,toList_some→kH
open Option.some renaming inj→vH,injEq→aB
open Prod.mk renaming inj→asV
set_option linter.all false
section
namespace Go.Proofs.YtnboooapeopjoaaGreatDoor
open Go.Eng
variable [bk]
open Nat renaming reduceAdd → zA, reduceLT → zB, reduceLeDiff → zC, reduceMul → zD, reduceEqDiff → zE, reduceSub → zF
set_option maxHeartbeats 4000000
set_option maxRecDepth 100000
section
section
variable {α:Type} [DecidableEq α]
def nM (kv:α→Value):Nat→List (α×V)→List (Value×Nat×V)
 | _,[]=>[]
 | n,(k,v) :: r=>(kv k,n,v) :: nM kv (n+1) r
theorem BK (kv:α→Value):∀ (g:List (α×V)) (n:Nat),(nM kv n g).length=g.length
 | [],_=>rfl
 | _ :: r,n=>by simp [nM,BK kv r (n+1)]
theorem MX (kv:α→Value):∀ (g:List (α×V)) (n i:Nat),(nM kv n g)[i]?=g[i]?.map fun e=>(kv e.1,n+i,e.2)
 | [],_,_=>rfl
 | e :: r,n,0=>rfl
 | e :: r,n,i+1=>by
  show (nM kv (n+1) r)[i]?=_
  rw [MX kv r (n+1) i,show n+1+i=n+(i+1) by omega];rfl
theorem Ij (kv:α→Value) (k:α) (v:V):∀ (g:List (α×V)) (n:Nat),nM kv n (g++[(k,v)])=nM kv n g++[(kv k,n+g.length,v)]
 | [],_=>rfl
 | e :: r,n=>by
  show (kv e.1,n,e.2) :: nM kv (n+1) (r++[(k,v)])=(kv e.1,n,e.2) :: (nM kv (n+1) r++_)
  rw [Ij kv k v r (n+1),aj,show n+1+r.length=n+(r.length+1) by omega]
theorem MY (kv:α→Value) (k:α) (v:V):∀ (g:List (α×V)) (n i:Nat),i<g.length→nM kv n (g.set i (k,v))=(nM kv n g).set i (kv k,n+i,v)
 | [],_,_,h=>by simp at h
 | e :: r,n,0,_=>rfl
 | e :: r,n,i+1,h=>by
  show (kv e.1,n,e.2) :: nM kv (n+1) (r.set i (k,v))=(kv e.1,n,e.2) :: (nM kv (n+1) r).set i _
  rw [MY kv k v r (n+1) i (by simpa using h),show n+1+i=n+(i+1) by omega]
theorem FP (kv:α→Value) (p:V→Bool):∀ (g:List (α×V)) (n:Nat),((nM kv n g).all fun e=>p e.2.2)=g.all fun e=>p e.2
 | [],_=>rfl
 | _ :: r,n=>by simp [nM,FP kv p r (n+1)]
def lx (a:α):List (α×V)→Nat→Option (Nat×V)
 | [],_=>none
 | e :: r,i=>if e.1=a then some (i,e.2) else lx a r (i+1)
def getM (a:α):List (α×V)→Option V
 | []=>none
 | e :: r=>if e.1=a then some e.2 else getM a r
theorem DY (a:α):∀ (g:List (α×V)) (i:Nat),(lx a g i).map (·.2)=getM a g
 | [],_=>rfl
 | e :: r,i=>by
  unfold lx getM
  split
  ·rfl
  exact DY a r (i+1)
theorem wL {a:α}:∀ {g:List (α×V)} {n i:Nat} {v:V},lx a g n=some (i,v)→n≤i∧g[i-n]?=some (a,v)
 | [],_,_,_,h=>by simp [lx] at h
 | e :: r,n,i,v,h=>by
  unfold lx at h
  split at h
  ·rename_i he;cases h;subst he;simp
  obtain⟨h1,h2⟩:=wL h
  refine⟨by omega,?_⟩
  rw [show i-n=(i-(n+1))+1 by omega];simpa using h2
structure KT (P:Program) (T kt et:TypeId) (kv:α→Value) (ky:α→V):Prop where
 map:ji P T=some (kt,et)
 val:∀ a,fI (ky a)=some (kv a)
 ok:∀ a,uz P kt (kv a)=true
 bits:∀ a,Instr.sameBits 10000 (kv a) (kv a)=true
 find:∀ (a:α) (g:List (α×V)),qg P kt (kv a) (nM kv 0 g)=some (lx a g 0)
theorem KT.now {P:Program} {kt:TypeId} {kv:α→Value} {d:TypeDesc} (hd:P.underlying kt=some d) (h:∀ a b,Instr.sameNow d (kv a) (kv b)=some (decide (b=a))) (a:α) (g:List (α×V)):qg P kt (kv a) (nM kv 0 g)=some (lx a g 0):=by
 have key:∀ (g:List (α×V)) (n i:Nat),ib d (kv a) (nM kv n g) i=some (lx a g i):=by intro g;induction g with|nil=>intro n i;rfl|cons e r ih =>intro n i;obtain⟨k,v⟩:=e;simp only [nM,ib,lx,h];by_cases hk:k=a;(·simp [hk]);rw [decide_eq_false hk,if_neg hk];exact ih _ _
 unfold qg;rw [hd];dsimp only;rw [key]
section
variable {P:Program} {T kt et:TypeId} {kv:α→Value} {ky:α→V}
def Ik (a:α) (v:V) (g:List (α×V)):List (α×V):=match lx a g 0 with
 | none=>g++[(a,v)]
 | some (i,_)=>g.set i (a,v)
theorem KT.put (h:KT P T kt et kv ky) (a:α) (v:V) (g:List (α×V)) {mem:List bm} {b:Nat} (hm:mem[b]?=some (.map (nM kv 0 g) g.length)) :
  dP P mem T (.mp b) (ky a) v=some (mem.set b (.map (nM kv 0 (Ik a v g)) (Ik a v g).length)):=by unfold dP;rw [h.map];dsimp only;rw [h.val];dsimp only;rw [if_pos (h.ok a),hm];dsimp only;unfold insertAt;rw [h.find];unfold Ik;cases hf:lx a g 0 with|none =>dsimp only;rw [Ij,aZ,bc,asS]|some p =>obtain⟨i,w⟩:=p;obtain⟨-,h2⟩:=wL hf;rw [UW] at h2;dsimp only;rw [MX,h2];dsimp only [aC];rw [if_pos (h.bits a)];dsimp only;rw [MY _ _ _ _ _ _ (aq.1 h2).1,mO]
theorem KT.get (h:KT P T kt et kv ky) (a:α) (g:List (α×V)) {mem:List bm} {b:Nat} (hm:mem[b]?=some (.map (nM kv 0 g) g.length)) {z:V} (hz:zeroV P et=some z) (ok:Bool) :
  kK P mem T (.mp b) (ky a) ok=some (UY ok (getM a g).isSome ((getM a g).getD z)):=by unfold kK;rw [h.map];dsimp only;rw [h.val];dsimp only;rw [if_pos (h.ok a)];unfold qh;dsimp only;rw [hm];dsimp only;rw [h.find,← DY a g 0];cases hf:lx a g 0 with|none=>dsimp only;rw [hz];rfl|some p=>rfl
end
end
end
def strVal (s:ByteArray):Value:=.string s
theorem Y3 {T et:TypeId} (h:ji ab T=some (9,et)):KT ab T 9 et strVal str :=
 ⟨h,fun _=>rfl,fun a=>by unfold uz;rw [Tryz.underlying9],fun a=>(xW a a).2 rfl,
  KT.now Tryz.underlying9 fun a b=>by
   show some (a==b)=some (decide (b=a))
   congr 1
   rw [ju,xW,decide_eq_true_eq]
   exact⟨fun h=>h.symm,fun h=>h.symm⟩⟩
theorem abP:ji ab 164=some (9,4):=kr
theorem af1:KT ab 164 9 4 strVal str:=Y3 abP
abbrev GN:=List (ByteArray×V)
def wM (g:GN) (x:ByteArray):GN:=Ik x (bl true) g
def eM (g:GN) (l:List ByteArray):GN:=l.foldl wM g
theorem WM (g:GN) (x:ByteArray) {mem:List bm} {b:Nat} (hm:mem[b]?=some (.map (nM strVal 0 g) g.length)):dP ab mem 164 (.mp b) (str x) (bl true)=some (mem.set b (.map (nM strVal 0 (wM g x)) (wM g x).length)):=af1.put x (bl true) g hm
structure NG (g:GN):Prop where
 abQ:∀ e∈g,e.2=bl true
 nodup:(g.map fun e=>e.1).Nodup
theorem vd {a:ByteArray}:∀ {g:GN} {n:Nat},lx a g n=none→∀ e∈g,e.1≠a
 | [],_,_,e,he=>by cases he
 | c :: r,n,h,e,he=>by
  unfold lx at h
  split at h
  ·cases h
  rename_i cK
  rcases dj.1 he with rfl|he
  ·exact cK
  exact vd h e he
theorem NG.nil:NG []:=⟨fun e he=>(by cases he),atq⟩
theorem Il {g:GN} {i:Nat} {x:ByteArray} {v w:V} (h:g[i]?=some (x,v)):(g.set i (x,w)).map (fun e=>e.1)=g.map fun e=>e.1:=by
 rw [gg];apply dq;intro j;rw [bK];split;·rename_i JM;subst JM;have bR:=(aq.1 h).1;rw [if_pos (by simpa using bR),ae,h];rfl
 rfl
theorem NG.add {g:GN} (h:NG g) (x:ByteArray):NG (wM g x)∧(∀ k,k∈(wM g x).map (fun e=>e.1)↔k=x∨k∈g.map fun e=>e.1)∧(wM g x).length≤g.length+1:=by unfold wM Ik;cases hf:lx x g 0 with|none =>(dsimp only;refine⟨⟨fun e he=>?_,?_⟩,fun k=>?_,by simp⟩;(·(rcases ft.1 he with he|he);(·exact h.abQ e he);rw [dX] at he;subst he;rfl);(·rw [dh,List.nodup_append];refine⟨h.nodup,by simp,fun a ha b hb=>?_⟩;obtain⟨e,he,rfl⟩:=dr.1 ha;simp only [cz,bW,dX] at hb;subst hb;exact vd hf e he);rw [dh,ft];simp only [cz,bW,dX];exact Or.comm)|some p =>obtain⟨i,v⟩:=p;obtain⟨-,h2⟩:=wL hf;rw [UW] at h2;dsimp only;refine⟨⟨fun e he=>?_,?_⟩,fun k=>?_,by simp⟩;(·(rcases atl he with he|rfl);(·exact h.abQ e he);rfl);(·rw [Il h2];exact h.nodup);rw [Il h2];constructor;(·exact .inr);rintro (rfl|h);(·exact dr.2 ⟨_,ay h2,rfl⟩);exact h
theorem NG.eM:∀ {l:List ByteArray} {g:GN},NG g→NG (eM g l)∧(∀ k,k∈(eM g l).map (fun e=>e.1)↔k∈l∨k∈g.map fun e=>e.1)∧(eM g l).length≤g.length+l.length
 | [],g,h=>⟨h,fun k=>⟨.inr,fun h=>h.resolve_left (by simp)⟩,by simp [Go.Proofs.YtnboooapeopjoaaGreatDoor.eM]⟩
 | x :: l,g,h=>by
  obtain⟨h1,h2,h3⟩:=h.add x
  obtain⟨h4,h5,h6⟩:=NG.eM (l:=l) h1
  refine⟨h4,fun k=>?_,by have:Go.Proofs.YtnboooapeopjoaaGreatDoor.eM g (x :: l)=Go.Proofs.YtnboooapeopjoaaGreatDoor.eM (wM g x) l:=rfl;rw [this,aj];omega⟩
  have:Go.Proofs.YtnboooapeopjoaaGreatDoor.eM g (x :: l)=Go.Proofs.YtnboooapeopjoaaGreatDoor.eM (wM g x) l:=rfl
  rw [this,h5 k,h2 k,dj]
  constructor
  ·rintro (h|h|h)
   ·exact .inl (.inr h)
   ·exact .inl (.inl h)
   exact .inr h
  rintro ((h|h)|h)
  ·exact .inr (.inl h)
  ·exact .inl h
  exact .inr (.inr h)
theorem Io {α:Type} (f:α→ByteArray) (g:GN) {l:List α} {i:Nat} {x:α} (h:l[i]?=some x):eM g ((l.take (i+1)).map f)=wM (eM g ((l.take i).map f)) (f x):=by unfold eM;rw [bn,h,dh,Dj];rfl
theorem NG.below {g:GN} (h:NG g) (n:Nat):((nM strVal 0 g).all fun e=>aG n e.2.2)=true:=by rw [FP strVal (aG n),aX];intro e he;rw [h.abQ e he];rfl
def qD:List ByteArray→Bool
 | []=>false
 | a :: r=>jC a r||qD r
theorem pJ (x:ByteArray) (l m:List ByteArray):jC x (l++m)=(jC x l||jC x m):=by unfold jC;rw [List.any_append]
theorem yd (x:ByteArray):∀ l:List ByteArray,qD (l++[x])=(qD l||jC x l)
 | []=>rfl
 | a :: r=>by
  have e1:jC a [x]=jC x [a]:=by
   unfold jC
   simp only [ati,List.any_nil,aP]
   by_cases h:a=x
   ·rw [decide_eq_true h,decide_eq_true h.symm]
   rw [decide_eq_false h,decide_eq_false fun e=>h e.symm]
  have e2:jC x (a :: r)=(jC x [a]||jC x r):=pJ x [a] r
  simp only [ai,qD,yd x r,pJ,e1,e2]
  cases jC a r <;> cases jC x [a] <;> cases qD r <;> cases jC x r <;> rfl
theorem RW (g:GN) (x:ByteArray):(x∈g.map (fun e=>e.1)→(wM g x).length=g.length)∧(x ∉ g.map (fun e=>e.1)→(wM g x).length=g.length+1):=by unfold wM Ik;cases hf:lx x g 0 with|none =>dsimp only;refine⟨fun h=>?_,fun _=>by simp⟩;obtain⟨e,he,hx⟩:=dr.1 h;exact absurd hx (vd hf e he)|some p =>obtain⟨i,v⟩:=p;obtain⟨-,h2⟩:=wL hf;rw [UW] at h2;dsimp only;exact⟨fun _=>by rw [mO],fun h=>absurd (dr.2 ⟨_,ay h2,rfl⟩) h⟩
theorem Ip (l:List ByteArray):∀ m:List ByteArray,(eM [] l).length≤l.length→decide ((eM [] l).length<l.length)=qD l→(eM [] (l++m)).length≤(l++m).length∧decide ((eM [] (l++m)).length<(l++m).length)=qD (l++m):=by intro m;induction m generalizing l with|nil=>intro h1 h2;rw [ij];exact⟨h1,h2⟩|cons x m ih =>intro h1 h2;(have e0:l++x :: m=(l++[x])++m:=by simp);(have e:eM [] (l++[x])=wM (eM [] l) x:=by unfold eM;rw [Dj];rfl);(have hm:x∈(eM [] l).map (fun e=>e.1)↔x∈l:=by have:=(NG.eM (l:=l) NG.nil).2.1 x;simpa using this);have hl:=RW (eM [] l) x;rw [e0];refine ih (l++[x]) ?_ ?_;(·rw [e,bc,asS];by_cases hx:x∈l;(·rw [hl.1 (hm.2 hx)];omega);rw [hl.2 fun h=>hx (hm.1 h)];omega);rw [e,yd,← h2,bc,asS];by_cases hx:x∈l;(·rw [hl.1 (hm.2 hx),tR.2 hx,aU];exact decide_eq_true (by omega));have hb:jC x l=false:=ad3.2 fun h=>hx (tR.1 h);rw [hl.2 fun h=>hx (hm.1 h),hb,aP];congr 1;rw [eq_iff_iff];omega
theorem La (l:List ByteArray):(eM [] l).length≤l.length∧decide ((eM [] l).length<l.length)=qD l:=Ip [] l (ax _) rfl
theorem WN {mem:List bm} {b:Nat} (g:GN) (c:Nat) (hm:mem[b]?=some (.map (nM strVal 0 g) c)):xz mem #[164] ab [.mp b]=some (num g.length):=by unfold xz;have h:ji ab 164=some (9,4):=kr;simp [h,hm,BK]
theorem alY:ji ab 128=some (9,9):=kr
theorem ktS:KT ab 128 9 9 strVal str:=Y3 alY
section
def Ex.own (e:Ex):List Ty:=e.types++if e.kind=8 then e.labels.map Lb.ty else []
mutual
def Ex.size:Ex→Nat
 | .mk k _ _ _ _ ts ls ks=>1+bh Ty.size (ts++if k=8 then ls.map Lb.ty else [])+Ai ks
def Ai:List Ex→Nat
 | []=>0
 | e :: r=>e.size+Ai r
end
mutual
def Ex.nodes:Ex→List Ex
 | .mk k m n t i ts ls ks=>.mk k m n t i ts ls ks :: wN ks
def wN:List Ex→List Ex
 | []=>[]
 | e :: r=>e.nodes++wN r
end
theorem Iq (ts:List Ex):wN ts=ts.flatMap Ex.nodes:=by induction ts with|nil=>rfl|cons t r ih=>simp [wN,ih]
theorem Lc (ts:List Ex):Ai ts=bh Ex.size ts:=by induction ts with|nil=>rfl|cons t r ih=>simp [Ai,bh,ih]
theorem Ex.dy (t:Ex):t.nodes=t :: t.kids.flatMap Ex.nodes:=by obtain⟨k,m,n,x,i,ts,ls,ks⟩:=t;simp only [Ex.nodes,Ex.kids,Iq]
theorem Ex.size_eq (t:Ex):t.size=1+bh Ty.size t.own+bh Ex.size t.kids:=by obtain⟨k,m,n,x,i,ts,ls,ks⟩:=t;rw [Ex.size,Lc];rfl
theorem Ex.size_pos (t:Ex):0<t.size:=by rw [Ex.size_eq];omega
theorem Ex.OB (t:Ex):1+bh Ex.size t.kids≤t.size:=by rw [Ex.size_eq];omega
theorem Ex.BL:∀ (N:Nat) (t:Ex),t.size≤N→bh (fun e=>1+bh Ty.size e.own) t.nodes=t.size:=by intro N;induction N with|zero=>intro t h;have:=t.size_pos;omega|succ N ih =>intro t hN;have h1:=t.size_eq;(have gen:∀ (l:List Ex),bh Ex.size l≤N→bh (fun e=>1+bh Ty.size e.own) (l.flatMap Ex.nodes)=bh Ex.size l:=by intro l;induction l with|nil=>intro _;rfl|cons a r WI =>intro hl;simp only [bh] at hl ⊢;rw [jx,kP,ih a (by omega),WI (by omega)]);rw [Ex.dy];simp only [bh];rw [gen _ (by omega)];omega
def Lb.cC (l:Lb):Nat:=1+l.ty.size
mutual
def Ex.cC:Ex→Nat
 | .mk _ _ _ _ _ ts ls ks=>1+bh Ty.size ts+bh Lb.cC ls+Aj ks
def Aj:List Ex→Nat
 | []=>0
 | e :: r=>e.cC+Aj r
end
theorem Ld (ts:List Ex):Aj ts=bh Ex.cC ts:=by induction ts with|nil=>rfl|cons t r ih=>simp [Aj,bh,ih]
theorem Ex.oc (t:Ex):t.cC=1+bh Ty.size t.types+bh Lb.cC t.labels+bh Ex.cC t.kids:=by obtain⟨k,m,n,x,i,ts,ls,ks⟩:=t;rw [Ex.cC,Ld];rfl
theorem Ex.gx (t:Ex):0<t.cC:=by rw [Ex.oc];omega
theorem Ex.ou (t:Ex):1+bh Ex.cC t.kids≤t.cC:=by rw [Ex.oc];omega
theorem Ex.kB (t:Ex):t.kids.length<t.cC:=by have:=bP Ex.cC Ex.gx t.kids;rw [Ex.oc];omega
theorem Lb.gx (l:Lb):0<l.cC:=by unfold Lb.cC;omega
theorem Ex.ye (t:Ex):bh Ty.size t.own+1+bh Ex.cC t.kids≤t.cC:=by
 rw [Ex.oc,Ex.own,kP];have:bh Ty.size (if t.kind=8 then t.labels.map Lb.ty else [])≤bh Lb.cC t.labels:=by split;(·rw [oq];generalize t.labels=l;induction l with|nil=>simp [bh]|cons a r ih=>simp only [bh,Lb.cC] at ih ⊢;omega);simp [bh]
 omega
theorem Ex.rD (t:Ex):t.types.length+t.labels.length<t.cC:=by have h1:=bP Ty.size Ty.size_pos t.types;have h2:=bP Lb.cC Lb.gx t.labels;rw [Ex.oc];omega
theorem Ex.mu:∀ (N:Nat) (t:Ex),t.cC≤N→t.size≤t.cC:=by intro N;induction N with|zero=>intro t h;have:=t.gx;omega|succ N ih =>intro t hN;have h1:=t.ye;rw [Ex.size_eq];(have gen:∀ (l:List Ex),bh Ex.cC l≤N→bh Ex.size l≤bh Ex.cC l:=by intro l;induction l with|nil=>intro _;simp [bh]|cons a r WI =>intro hl;simp only [bh] at hl ⊢;have:=ih a (by omega);have:=WI (by omega);omega);have:=gen t.kids (by omega);omega
section
variable {σ:Type} {M:σ→List bm} {n k k1 k2:Nat}
theorem RX (hn:∀ s,(M s).length=n) (hk:k<n) (iA:k1<n) (lr:k2<n) (h1:∀ s,(M s)[k1]?=some (.box [.km k])) (h2:∀ s,(M s)[k2]?=some (.box [.dU (.func 243) [] [.ptr k1 0,.ptr k2 0]])) (hb:∀ s,(M s).all (aS n)=true)
  (step:σ→Ex→σ×Bool) (G:σ→Prop) (hG:∀ s u,G s→(step s u).2=true→G (step s u).1) {B:Nat} (hB:B≤1048576) (Pd:Ex→Prop) (hy:∀ s u,G s→u.cC≤B→Pd u→JN ab k [cu u] (M s) (step s u).2 (M (step s u).1)) :
  ∀ (N:Nat) (t:Ex) (s:σ),G s→(∀ v∈t.nodes,Pd v)→t.cC≤N→N≤B→bw ab 243 [cu t,.ptr k1 0,.ptr k2 0] (M s) (bl (dA step s t.nodes).2) (M (dA step s t.nodes).1):=by
 have g0:∀ s (l:List bm),(M s++l)[n]?=l[0]?:=fun s l=>by rw [a6 (by rw [hn];exact ax _),hn,cI]
 have g1:∀ s (l:List bm),(M s++l)[n+1]?=l[1]?:=fun s l=>by rw [a6 (by rw [hn];omega),hn,ef]
 have YX:∀ s (l:List bm),(M s++l)[k1]?=some (.box [.km k]):=fun s l=>by rw [bx (by rw [hn];exact iA)];exact h1 s
 have gk2:∀ s (l:List bm),(M s++l)[k2]?=some (.box [.dU (.func 243) [] [.ptr k1 0,.ptr k2 0]]):=fun s l=>by rw [bx (by rw [hn];exact lr)];exact h2 s
 have gs:∀ s (l:List bm) X,(M s++l).set n X=M s++l.set 0 X:=fun s l X=>by rw [dt _ _ (by rw [hn];exact ax _),hn,cI]
 have gt:∀ s (l:List bm),(M s++l).take n=M s:=fun s l=>by rw [← hn s,rM]
 have YY:∀ s,(M s).take n=M s:=fun s=>by rw [bu (by rw [hn];exact ax _)]
 have fy:∀ s u (l:List bm),G s→u.cC≤B→Pd u→JN ab k [cu u] (M s++l) (step s u).2 (M (step s u).1++l):=fun s u l hg hu hp=>by refine (hy s u hg hu hp).frame (by rw [hn];exact hk) ?_ (by rw [hn];exact hb s) (by rw [hn,hn]) (by rw [hn];exact hb _) l;rw [aT];simp [aG,a8,aJ]
 intro N;induction N with|zero=>intro t s hg hP h;have:=t.gx;omega|succ N ih =>intro t s hg hP hN hNB;have zQ:=t.kB;have qd:=t.ou;have RM:=bP Ex.cC Ex.gx t.kids;have cK:=t.dy;have RQ:=fun l=>fy s t l hg (by omega) (hP t (by rw [t.dy];simp));(have YZ:∀ u s (l:List bm),G s→(∀ v∈u.nodes,Pd v)→u.cC≤N→bw ab 243 [cu u,.ptr k1 0,.ptr k2 0] (M s++l) (bl (dA step s u.nodes).2) (M (dA step s u.nodes).1++l):=fun u s l hg hq hu=>by refine (ih u s hg hq hu (by omega)).frame ?_ (by rw [hn];exact hb s) rfl (by rw [hn,hn]) (by rw [hn];exact hb _) l;rw [aT,hn];simp [aG,a8,aJ,iA,lr]);simp only [aT,aJ] at YZ;refine kY tt_ok (fn:=Tryz.f243) n (by rw [hn];exact ax _) Tryz.func243 rfl Tryz.call243 ?_;simp only [dG,cB,Tryz.ntmps243,aj,aA,zA,zF,aH,aI];rw [aT] at RQ ⊢;simp only [aJ] at RQ ⊢;refine ag tt_ok fun K hK=>?_;simp only [hn,go_sem];refine hK _ ?_;refine bz ?_;refine ag tt_ok fun K hK=>?_;simp only [YX,g0,hn,go_sem];refine .inl ⟨_,_,RQ _,?_⟩;(try simp only [go_sem]);refine hK _ ?_;cases RR:(step s t).2 with|false =>refine ba rfl ?_;refine ag tt_ok fun K hK=>?_;simp only [go_sem];refine hK _ ?_;refine bX ⟨.inl rfl,?_⟩;(have oC:dA step s t.nodes=((step s t).1,false):=by rw [cK];simp [dA,RR]);rw [oC];exact⟨rfl,rfl,by dsimp only;rw [gt];exact hb _,(gt _ _).symm⟩|true =>refine ba rfl (ch ?_);show eg _ _ _ _ _ _;refine bz ?_;refine ag tt_ok fun K hK=>?_;simp only [YX,g0,hn,bF,go_sem];refine hK _ ?_;obtain⟨ps,BF⟩:∃ ps,ps=t.kids:=⟨_,rfl⟩;rw [← BF] at qd RM cK ⊢;have hPp:∀ u∈ps,∀ v∈u.nodes,Pd v:=fun u hu v hv=>hP v (by rw [cK];exact bE _ (gK.2 ⟨u,hu,hv⟩));refine bY (dd (fun N st=>∃ (i:Nat) (s':σ),G s'∧N=ps.length-i∧i≤ps.length∧dA step s (t :: (ps.take i).flatMap Ex.nodes)=(s',true) ∧ st = { fr:=[.undef,.ptr k1 0,.ptr k2 0,.undef,.undef,.undef,.undef,.undef,.undef,.undef,.undef,.undef,.slice (eC ps),num ps.length,num i]++List.replicate 8 .undef,mem:=M s' }) ps.length ?_ ?_);(·refine⟨n,(false::true::true::(rp 9 false [true,true,true])),by rw [hn];exact ax _,by simp only [bG,aG,a8,aS,zB,iA,lr,jj],by dsimp only;rw [gt];exact hb _,0,(step s t).1,hG s t hg RR,by omega,by omega,by simp [dA,RR],?_⟩;dsimp only;rw [gt];rfl);rintro N' st ⟨i,s',Ha,rfl,hi,RS,rfl⟩;simp only [dG,aH,aI];by_cases bR:i<ps.length;(·have hd:=iU bR;refine ag tt_ok fun K hK=>?_;simp only [bF,hd,go_sem];refine hK _ ?_;refine bz (ba rfl (ch ?_));refine bz (bY ?_);obtain⟨u,hu⟩:∃ u,ps[i]?=some u:=⟨_,af bR⟩;have Ou:=cb Ex.cC hu;have fG:=fun l=>YZ u s' l Ha (hPp u (ay hu)) (by omega);(have rP:(ps.take (i+1)).flatMap Ex.nodes=(ps.take i).flatMap Ex.nodes++u.nodes:=by rw [bn,hu];simp);(have DW:dA step s (t :: (ps.take (i+1)).flatMap Ex.nodes)=dA step s' u.nodes:=by rw [rP,← ai,jM,RS];simp);refine ag tt_ok fun K hK=>?_;simp only [cq,hu,aT,aJ,hn,g0,gs,go_sem];refine hK _ ?_;refine ag tt_ok fun K hK=>?_;simp only [gk2,g0,hn,go_sem];(refine .inr <| .inl ⟨_,_,fG _,?_⟩);(try simp only [go_sem]);refine hK _ ?_;cases RT:(dA step s' u.nodes).2 with|false =>refine ba rfl ?_;refine ag tt_ok fun K hK=>?_;simp only [go_sem];refine hK _ ?_;refine bX ⟨.inl rfl,?_⟩;(have oC:dA step s t.nodes=((dA step s' u.nodes).1,false):=by (have BH:ps.flatMap Ex.nodes=(ps.take (i+1)).flatMap Ex.nodes++(ps.drop (i+1)).flatMap Ex.nodes:=by rw [← asT,ld]);rw [cK,BH,← ai,jM,DW,RT];simp);rw [oC];exact⟨rfl,rfl,by dsimp only;rw [gt];exact hb _,(gt _ _).symm⟩|true =>refine ba rfl (ch ?_);show eg _ _ _ _ _ _;refine bd tt_ok fun K hK=>?_;simp only [go_sem];refine hK _ ?_;have im:=a7 i (by omega);rw [im];refine⟨ps.length-(i+1),by omega,n,(false::true::true::(rp 9 false [true,true,true])),by rw [hn];exact ax _,by simp only [bG,aG,a8,aS,zB,iA,lr,jj],by dsimp only;rw [gt];exact hb _,i+1,(dA step s' u.nodes).1,rC step hG _ _ Ha RT,rfl,bR,by rw [DW,← RT],?_⟩;dsimp only;rw [gt];rfl);have hd:=iV bR;refine ag tt_ok fun K hK=>?_;simp only [bF,hd,go_sem];refine hK _ ?_;refine bz (ba rfl (eH ?_));(have iC:i=ps.length:=by omega);subst iC;show eg _ _ _ _ _ _;refine ag tt_ok fun K hK=>?_;simp only [go_sem];refine hK _ ?_;refine bX ⟨.inl rfl,?_⟩;rw [au] at RS;rw [cK,RS];exact⟨rfl,rfl,by dsimp only;rw [YY];exact hb _,(YY _).symm⟩
end
theorem Ir (t:Ex) (m:List bm) (hb:m.all (aS (m.length+1))=true):bw ab 193 [cu t] m (.dU (.func 242) [] [.ptr m.length 0]) (m++[.box (aJ t)]):=by
 refine kY tt_ok (fn:=Tryz.f193) (m.length+1) (by omega) Tryz.func193 rfl Tryz.call193 ?_;simp only [dG,cB,Tryz.ntmps193,aj,aA,zA,zF,aH,aI];rw [aT];simp only [aJ];refine ag tt_ok fun K hK=>?_;simp only [go_sem];refine hK _ ?_;refine ag tt_ok fun K hK=>?_;simp only [go_sem];refine hK _ ?_;have ht:∀ B:bm,(m++[B]).take (m.length+1)=m++[B]:=fun B=>bu (by simp);refine bX ⟨.inl rfl,rfl,by simp [aG,a8],?_,?_⟩;·dsimp only;rw [ht];simp [hb,aS,aG,a8]
 dsimp only;rw [ht]
section
variable {σ:Type} {M:σ→List bm} {n k kt:Nat}
theorem RY (hn:∀ s,(M s).length=n) (hk:k<n) (Oy:kt<n) {t:Ex} (h1:∀ s,(M s)[kt]?=some (.box (aJ t))) (hb:∀ s,(M s).all (aS n)=true)
  (step:σ→Ex→σ×Bool) (G:σ→Prop) (hG:∀ s u,G s→(step s u).2=true→G (step s u).1) {B:Nat} (hB:B≤1048576) (Pd:Ex→Prop) (hy:∀ s u,G s→u.cC≤B→Pd u→JN ab k [cu u] (M s) (step s u).2 (M (step s u).1)) (ht:t.cC≤B) (hP:∀ v∈t.nodes,Pd v) (s:σ) (hs:G s) :
  bw ab 242 [.km k,.ptr kt 0] (M s) (.ec []) (M (dA step s t.nodes).1):=by
 have g0:∀ s (l:List bm),(M s++l)[n]?=l[0]?:=fun s l=>by rw [a6 (by rw [hn];exact ax _),hn,cI]
 have g1:∀ s (l:List bm),(M s++l)[n+1]?=l[1]?:=fun s l=>by rw [a6 (by rw [hn];omega),hn,ef]
 have Y0:∀ s (l:List bm),(M s++l)[kt]?=some (.box (aJ t)):=fun s l=>by rw [bx (by rw [hn];exact Oy)];exact h1 s
 have gs:∀ s (l:List bm) X,(M s++l).set (n+1) X=M s++l.set 1 X:=fun s l X=>by rw [dt _ _ (by rw [hn];omega),hn,ef]
 have gt:∀ s (l:List bm),(M s++l).take n=M s:=fun s l=>by rw [← hn s,rM]
 have hw:∀ s,G s→bw ab 243 [cu t,.ptr n 0,.ptr (n+1) 0] (M s++[.box [.km k],.box [.dU (.func 243) [] [.ptr n 0,.ptr (n+1) 0]]]) (bl (dA step s t.nodes).2) (M (dA step s t.nodes).1++[.box [.km k],.box [.dU (.func 243) [] [.ptr n 0,.ptr (n+1) 0]]]):=fun s hs=>by refine RX (M:=fun s=>M s++[.box [.km k],.box [.dU (.func 243) [] [.ptr n 0,.ptr (n+1) 0]]]) (n:=n+2) (k:=k) (k1:=n) (k2:=n+1) (fun s=>by simp [hn]) (by omega) (by omega) (by omega) (fun s=>g0 _ _) (fun s=>g1 _ _) (fun s=>?_) step G hG hB Pd (fun s u hg hu hq=>?_) t.cC t s hs hP (ax _) ht;(·rw [mP,aD];refine⟨rj (by omega) (hb s),?_⟩;simp [aS,aG,a8];omega);refine (hy s u hg hu hq).frame (by rw [hn];exact hk) ?_ (by rw [hn];exact hb s) (by rw [hn,hn]) (by rw [hn];exact hb _) _;rw [aT];simp [aG,a8,aJ]
 refine kY tt_ok (fn:=Tryz.f242) n (by rw [hn];exact ax _) Tryz.func242 rfl Tryz.call242 ?_;simp only [dG,cB,Tryz.ntmps242,aj,aA,zA,zF,aH,aI];have BA:=hw s hs;rw [aT] at BA;simp only [aJ] at BA Y0;refine ag tt_ok fun K hK=>?_;simp only [hn,go_sem];refine hK _ ?_;refine ag tt_ok fun K hK=>?_;simp only [hn,bc,sf,go_sem];refine hK _ ?_;refine ag tt_ok fun K hK=>?_;simp only [hn,g1,gs,go_sem];refine hK _ ?_;refine bd tt_ok fun K hK=>?_;simp only [hn,g1,Y0,go_sem];refine .inr <| .inl ⟨_,_,BA,?_⟩
 try simp only [go_sem]
 refine hK _ ?_;refine⟨.inr rfl,rfl,rfl,?_,?_⟩;·dsimp only;rw [gt];exact hb _
 dsimp only;rw [gt]
theorem BM {n0:Nat} {st:St} {Q:Exit→St→Prop} {f:Operand} {params:Array Tmp} {assign body:Code} {t:Ex} (pre:σ→List bm) (s0:σ) (n kt:Nat) (oK:st.mem=pre s0) (hn:∀ s,(pre s).length=n) (Oy:kt<n)
  (ht:∀ s,(pre s)[kt]?=some (.box (aJ t))) (hb:∀ s,(pre s).all (aS (n+1))=true) (zY:st.fr.all (aG (n+1))=true) (hf:st.eval f = .dU (.func 242) [] [.ptr kt 0]) (hp:params.size=1) (step:σ→Ex→σ×Option Code) {B:Nat} (hB:B≤1048576) (nh:t.cC≤B) (Pd:Ex→Prop) (hPt:∀ v∈t.nodes,Pd v)
  (BI:∀ s u,u.cC≤B→Pd u→∀ (l:Nat) (LR LB:bm),aS (n+1) LR=true→aS (n+1) LB=true→eg ab (some l) (n+1) assign { fr:=pB params.toList [cu u] st.fr,mem:=pre s++[LR] } fun ex uh=>ex = .normal∧uh.mem[n]?=some LR ∧
   eg ab (some l) (n+1) body { uh with mem:=uh.mem.set n LB } fun ex z7=>sE ex=some (step s u).2∧z7.mem[n]?=some LB∧z7.mem.take n=pre (step s u).1)
  (hq:match (jo step s0 t.nodes).2 with
   | none=>Q .normal { st with mem:=pre (jo step s0 t.nodes).1++[.dead] }
   | some c=>eg ab none n0 c { st with mem:=pre (jo step s0 t.nodes).1++[.dead] } Q):eg ab none n0 (.rangeFunc f params assign body) st Q:=by
 have hlen:st.mem.length=n:=by rw [oK,hn]
 have gn:∀ s X,(pre s++[X])[n]?=some X:=fun s X=>by rw [a6 (by rw [hn];exact ax _),hn,cI];rfl
 have gk:∀ s X,(pre s++[X])[kt]?=some (.box (aJ t)):=fun s X=>by rw [bx (by rw [hn];exact Oy)];exact ht s
 have Ii:∀ s (X Y:bm),(pre s++[X]).set n Y=pre s++[Y]:=fun s X Y=>by rw [dt _ _ (by rw [hn];exact ax _),hn,cI];rfl
 have zd:∀ (s:σ) (a:LoopState) (b:Option Code),(pre s++[bm.loop a b st.fr params assign body]).all (aS (n+1))=true:=fun s a b=>by rw [mP,aD];exact⟨hb s,by simp only [ct,dO,aF,aS];exact zY⟩
 have it:=RY (M:=fun s:σ×Option Code=>pre s.1++[.loop (if s.2.isNone then .ready else .done) s.2 st.fr params assign body]) (n:=n+1) (k:=n) (kt:=kt) (t:=t) (fun s=>by simp [hn]) (by omega) (by omega) (fun s=>gk _ _) (fun s=>zd _ _ _)
  (wK step) (fun s=>s.2=none) (fun s u hs h=>by simpa [wK] using h) hB Pd (fun s u hs hu hq=>by
   obtain⟨s,j⟩:=s
   simp only at hs;subst hs
   refine sF (fr:=st.fr) (params:=params) (assign:=assign) (body:=body) (gn _ _) (by simp [hp]) fun l=>?_
   have hl:(pre s++[bm.loop .ready none st.fr params assign body]).length=n+1:=by simp [hn]
   simp only [ads,if_true,hl]
   refine eg.mono (BI s u hu hq l (.loop .ready none st.fr params assign body) (.loop .busy none st.fr params assign body) zY zY) ?_
   rintro ex uh ⟨h1,h2,h3⟩
   refine⟨h1,h2,eg.mono h3 ?_⟩
   rintro ex z7 ⟨h4,h5,h6⟩
   refine⟨_,h4,rfl,h5,?_,?_⟩
   ·rw [take_set (hn _) h5 h6];exact zd _ _ _
   rw [take_set (hn _) h5 h6];rfl) nh hPt (s0,none) rfl
 rw [Ah] at it;refine pU (g:=242) (vs:=[.km n,.ptr kt 0]) (by rw [hf,hlen];rfl) (by rw [oK];exact it) ?_;rw [hlen];refine⟨_,_,_,_,_,_,gn _ _,?_,?_⟩;·cases (jo step s0 t.nodes).2 <;> simp
 generalize hj:(jo step s0 t.nodes).2=j at hq;cases j with|none=>dsimp only at hq ⊢;rw [Ii];exact hq|some c=>dsimp only at hq ⊢;rw [Ii];exact hq
theorem OC {n0:Nat} {st:St} {Q:Exit→St→Prop} {f:Operand} {params:Array Tmp} {assign body:Code} {t:Ex} (pre:σ→List bm) (s0:σ) (n kt:Nat) (oK:st.mem=pre s0) (hn:∀ s,(pre s).length=n) (Oy:kt<n)
  (ht:∀ s,(pre s)[kt]?=some (.box (aJ t))) (hb:∀ s,(pre s).all (aS (n+1))=true) (zY:st.fr.all (aG (n+1))=true) (hf:st.eval f = .dU (.func 242) [] [.ptr kt 0]) (hp:params.size=1) (step:σ→Ex→σ×Option Code) {B:Nat} (hB:B≤1048576) (nh:t.cC≤B)
  (BI:∀ s u,u.cC≤B→∀ (l:Nat) (LR LB:bm),aS (n+1) LR=true→aS (n+1) LB=true→eg ab (some l) (n+1) assign { fr:=pB params.toList [cu u] st.fr,mem:=pre s++[LR] } fun ex uh=>ex = .normal∧uh.mem[n]?=some LR ∧
   eg ab (some l) (n+1) body { uh with mem:=uh.mem.set n LB } fun ex z7=>sE ex=some (step s u).2∧z7.mem[n]?=some LB∧z7.mem.take n=pre (step s u).1)
  (hq:match (jo step s0 t.nodes).2 with
   | none=>Q .normal { st with mem:=pre (jo step s0 t.nodes).1++[.dead] }
   | some c=>eg ab none n0 c { st with mem:=pre (jo step s0 t.nodes).1++[.dead] } Q):eg ab none n0 (.rangeFunc f params assign body) st Q :=
 BM pre s0 n kt oK hn Oy ht hb zY hf hp step hB nh (fun _=>True) (fun _ _=>trivial) (fun s u hu _=>BI s u hu) hq
end
end
mutual
def Ty.wt:Ty→Nat
 | .mk _ m n ts fs=>1+m.size+n.size+Is ts+It fs
def Is:List Ty→Nat
 | []=>0
 | t :: r=>t.wt+Is r
def Fd.wt:Fd→Nat
 | .mk n (.mk _ m n' ts fs) _=>1+n.size+m.size+n'.size+Is ts+It fs
def It:List Fd→Nat
 | []=>0
 | f :: r=>f.wt+It r
end
theorem Fd.iv (f:Fd):f.wt=f.name.size+f.ty.wt:=by obtain⟨n',⟨k,m,n,ts,fs⟩,o⟩:=f;simp only [Fd.wt,Ty.wt,Fd.name,Fd.ty];omega
theorem OD (ts:List Ty):Is ts=bh Ty.wt ts:=by induction ts with|nil=>rfl|cons t r ih=>simp [Is,bh,ih]
theorem OE (ts:List Fd):It ts=bh Fd.wt ts:=by induction ts with|nil=>rfl|cons t r ih=>simp [It,bh,ih]
theorem Ty.iv (t:Ty):t.wt=1+t.mod.size+t.name.size+bh Ty.wt t.args+bh Fd.wt t.bp:=by obtain⟨k,m,n,ts,fs⟩:=t;simp only [Ty.wt,OD,OE,Ty.mod,Ty.name,Ty.args,Ty.bp]
theorem wO {α:Type} {g h:α→Nat} (hle:∀ a,g a≤h a) (l:List α):bh g l≤bh h l:=by induction l with|nil=>exact ax _|cons a r ih=>simp only [bh];have:=hle a;omega
theorem Ty.wP (t:Ty):1+t.mod.size+t.name.size+bh Ty.wt t.parts≤t.wt:=by rw [t.iv,Ty.parts,kP,oq];have:=wO (g:=fun f:Fd=>f.ty.wt) (h:=Fd.wt) (fun f=>by rw [f.iv];omega) t.bp;omega
theorem Ty.Iu:∀ (N:Nat) (t:Ty),t.size≤N→t.size≤t.wt:=by intro N;induction N with|zero=>intro t h;have:=t.size_pos;omega|succ N ih =>intro t hN;have h1:=t.dQ;have h2:=t.wP;(have gen:∀ (l:List Ty),bh Ty.size l≤N→bh Ty.size l≤bh Ty.wt l:=by intro l;induction l with|nil=>intro _;exact ax _|cons a r WI =>intro hl;simp only [bh] at hl ⊢;have:=ih a (by omega);have:=WI (by omega);omega);have:=gen t.parts (by omega);omega
theorem Ty.cT (t:Ty):t.size≤t.wt:=Ty.Iu _ t (ax _)
theorem Ty.yf:∀ (N:Nat) (t:Ty),t.size≤N→∀ v∈t.nodes,v.wt≤t.wt:=by intro N;induction N with|zero=>intro t h;have:=t.size_pos;omega|succ N ih =>intro t hN v hv;have h1:=t.dQ;have h2:=t.wP;rw [t.dy] at hv;(rcases dj.1 hv with rfl|hv);(·exact ax _);obtain⟨p,hp,hv⟩:=gK.1 hv;obtain⟨i,hi⟩:=bS.1 hp;have e1:=cb Ty.size hi;have e2:=cb Ty.wt hi;have:=ih p (by omega) v hv;omega
theorem Ty.BN {t v:Ty} (hv:v∈t.nodes):v.wt≤t.wt:=Ty.yf _ t (ax _) v hv
theorem Ty.mod_lt (t:Ty):t.mod.size<t.wt:=by rw [t.iv];omega
theorem Ty.af2 {t:Ty} {n:Nat} (h:t.wt≤n+1):∀ v∈t.nodes,v.mod.size≤n:=fun v hv=>by have:=Ty.BN hv;have:=v.mod_lt;omega
def Lb.wt (l:Lb):Nat:=1+l.name.size+l.var.size+l.ty.wt
mutual
def Ex.wt:Ex→Nat
 | .mk _ m n t _ ts ls ks=>1+m.size+n.size+t.size+bh Ty.wt ts+bh Lb.wt ls+MZ ks
def MZ:List Ex→Nat
 | []=>0
 | e :: r=>e.wt+MZ r
end
theorem RZ (ts:List Ex):MZ ts=bh Ex.wt ts:=by induction ts with|nil=>rfl|cons t r ih=>simp [MZ,bh,ih]
theorem Ex.iv (t:Ex):t.wt=1+t.mod.size+t.name.size+t.text.size+bh Ty.wt t.types+bh Lb.wt t.labels+bh Ex.wt t.kids:=by obtain⟨k,m,n,x,i,ts,ls,ks⟩:=t;rw [Ex.wt,RZ];rfl
theorem Ex.Iv:∀ (N:Nat) (t:Ex),t.cC≤N→t.cC≤t.wt:=by intro N;induction N with|zero=>intro t h;have:=t.gx;omega|succ N ih =>intro t hN;have h1:=t.oc;have h2:=t.iv;(have gen:∀ (l:List Ex),bh Ex.cC l≤N→bh Ex.cC l≤bh Ex.wt l:=by intro l;induction l with|nil=>intro _;exact ax _|cons a r WI =>intro hl;simp only [bh] at hl ⊢;have:=ih a (by omega);have:=WI (by omega);omega);have h3:=gen t.kids (by omega);have h4:=wO (g:=Ty.size) (h:=Ty.wt) Ty.cT t.types;have h5:=wO (g:=Lb.cC) (h:=Lb.wt) (fun l=>by unfold Lb.cC Lb.wt;have:=l.ty.cT;omega) t.labels;omega
theorem Ex.eT (t:Ex):t.cC≤t.wt:=Ex.Iv _ t (ax _)
theorem Ex.yf:∀ (N:Nat) (t:Ex),t.cC≤N→∀ v∈t.nodes,v.wt≤t.wt:=by intro N;induction N with|zero=>intro t h;have:=t.gx;omega|succ N ih =>intro t hN v hv;have h1:=t.ou;have h2:=t.iv;rw [t.dy] at hv;(rcases dj.1 hv with rfl|hv);(·exact ax _);obtain⟨p,hp,hv⟩:=gK.1 hv;obtain⟨i,hi⟩:=bS.1 hp;have e1:=cb Ex.cC hi;have e2:=cb Ex.wt hi;have:=ih p (by omega) v hv;omega
theorem Ex.BN {t v:Ex} (hv:v∈t.nodes):v.wt≤t.wt:=Ex.yf _ t (ax _) v hv
theorem Ex.Le {e:Ex} {p:Ty} (hp:p∈e.own):p.wt<e.wt:=by
 have h:=e.iv;unfold Ex.own at hp;rcases ft.1 hp with hp|hp
 ·obtain⟨i,hi⟩:=bS.1 hp;have:=cb Ty.wt hi;omega
 split at hp;·obtain⟨l,hl,rfl⟩:=dr.1 hp;obtain⟨i,hi⟩:=bS.1 hl;have h1:=cb Lb.wt hi;have h2:l.wt=1+l.name.size+l.var.size+l.ty.wt:=rfl;omega
 cases hp
theorem Ex.mod_lt (t:Ex):t.mod.size<t.wt:=by rw [t.iv];omega
theorem Ex.yg (t:Ex):t.labels.length<t.wt:=by have h1:=bP Lb.wt (fun l=>by unfold Lb.wt;omega) t.labels;rw [t.iv];omega
theorem Lb.Iw {t:Ex} {l:Lb} (hl:l∈t.labels):l.wt<t.wt:=by obtain⟨i,hi⟩:=bS.1 hl;have h1:=cb Lb.wt hi;rw [t.iv];omega
def fi (d:Dc):List V:=[num d.kind,str d.name,bl d.exported,bl d.deprecated,str d.note,.slice (d.params.map cj)]++ah d.lower++ah d.upper++ah d.type++aJ d.expr++[str d.mod,str d.target]
theorem wQ (d:Dc):bI d = .agg (fi d):=rfl
def Dc.cC (d:Dc):Nat:=1+d.params.length+bh (fun p=>p.bound.size) d.params+d.lower.size+d.upper.size+d.type.size+d.expr.cC
theorem Dc.gx (d:Dc):0<d.cC:=by unfold Dc.cC;omega
def Md.cC (m:Md):Nat:=1+m.imports.length+bh Dc.cC m.decls
def mv (m:Md):List V:=[str m.path,.slice (m.imports.map cA),.slice (m.decls.map bI)]
theorem ly (m:Md):iM m = .agg (mv m):=rfl
def Pm.wt (p:Pm):Nat:=1+p.name.size+p.bound.wt
def Im.wt (i:Im):Nat:=1+i.path.size+i.alias.size
def Dc.wt (d:Dc):Nat:=1+d.name.size+d.note.size+bh Pm.wt d.params+d.lower.wt+d.upper.wt+d.type.wt+d.expr.wt+d.mod.size+d.target.size
def Md.wt (m:Md):Nat:=1+m.path.size+bh Im.wt m.imports+bh Dc.wt m.decls
theorem R0 (l:List Pm):l.length+bh (fun p=>p.bound.size) l≤bh Pm.wt l:=by induction l with|nil=>exact ax _|cons a r ih=>have:=a.bound.cT;simp only [bh,aj,Pm.wt];omega
theorem Dc.eT (d:Dc):d.cC≤d.wt:=by have h1:=R0 d.params;have h2:=d.lower.cT;have h3:=d.upper.cT;have h4:=d.type.cT;have h5:=d.expr.eT;unfold Dc.cC Dc.wt;omega
theorem Md.eT (m:Md):m.cC≤m.wt:=by have h1:=wO (g:=Dc.cC) (h:=Dc.wt) Dc.eT m.decls;have h2:=bP Im.wt (fun l=>by unfold Im.wt;omega) m.imports;unfold Md.cC Md.wt;omega
section
attribute [local irreducible] runM fC oa cR lV wq DK
mutual
def Ex.depth:Ex→Nat
 | .mk _ _ _ _ _ _ _ ks=>1+wR ks
def wR:List Ex→Nat
 | []=>0
 | e :: r=>max e.depth (wR r)
end
theorem FQ (ts:List Ex):wR ts=fM Ex.depth ts:=by induction ts with|nil=>rfl|cons t r ih=>simp [wR,fM,ih]
theorem Ex.wS (t:Ex):t.depth=1+fM Ex.depth t.kids:=by obtain⟨k,m,n,x,i,ts,ls,ks⟩:=t;rw [Ex.depth,FQ];rfl
theorem Ex.uI:∀ (N:Nat) (t:Ex),t.cC≤N→t.depth≤t.cC:=by intro N;induction N with|zero=>intro t h;have:=t.gx;omega|succ N ih =>intro t hN;rw [Ex.wS];have h1:=t.ou;(have:=BG Ex.depth (l:=t.kids) (B:=bh Ex.cC t.kids) fun i a ha=>by have:=cb Ex.cC ha;have:=ih a (by omega);omega);omega
theorem Ix (x:Ex) (hl:x.kids.length≤1048576) (hd:x.depth≤1048576) (fG:∀ (i:Nat) (k:Ex),x.kids[i]?=some k→cx ab 191 [cu k] (num k.depth)):Cn 191 [cu x] (num x.depth):=by
 refine aff tt_ok (fn:=Tryz.f191) Tryz.func191 rfl Tryz.call191 ?_;simp only [dG,cB,Tryz.ntmps191,aj,aA,zA,zF,aH,aI];have hde:=x.wS;simp only [aT,aJ];refine lW tt_ok 20 [0,2,2] [] rfl rfl fun K hK=>?_;simp only [bF,go_sem,au];refine hK _ _ rfl ?_;simp only [Vf,zA,zE];refine lW tt_ok 20 [0,0,0,2] [] rfl rfl fun K hK=>?_;simp only [bF,go_sem,au];refine hK _ _ rfl ?_;simp only [Vf,zA,zE];refine Bh ?_;refine lW tt_ok 20 [0,0,0,0,0,0,1,2,2,2] [] rfl rfl fun K hK=>?_;simp only [bF,go_sem,au];refine hK _ _ rfl ?_;simp only [Vf,zA,zE];refine Bi ?_;refine Q0 [9,3] [num 0,num 0] 1 [false,false,true,true,false,false,false,true,true,true] (fun vs=>((x.kids.length:Int)-intOf (vs.headD .undef)).toNat) (fun vs=>∃ (i:Nat),vs=[num i,num (fM Ex.depth (x.kids.take i):Nat)]∧i≤x.kids.length) (by omega) (by simp only [bG,aG,a8,aS,zB,jj]) (by simp only [bG,aG,a8,aS,zB,jj]) (by rfl) (⟨0,rfl,by omega⟩) fun vs hI=>?_;obtain⟨i,rfl,hi⟩:=hI;simp only [bG,aG,a8,aS,zB,u3,eD,je,jj];refine lW tt_ok 20 (rp 10 0 [2]) [] rfl rfl fun K hK=>?_;simp only [bF,go_sem,au];refine hK _ _ rfl ?_;simp only [Vf,zA,zE];refine Bh ?_;refine afd rfl (fun ix=>?_) (fun ix=>?_);·(have bR:i<x.kids.length:=by simpa using ix);obtain⟨k,hx⟩:∃ k,x.kids[i]?=some k:=⟨_,af bR⟩;have hk:=fG i k hx;rw [aT] at hk;simp only [aJ] at hk;have hw:=a7 i (by omega);refine Fv ?_;show Go.Eng.Ex _ _ _ _ _ _;refine Bh ?_;refine Bi ?_;refine lW tt_ok 20 [0,0,0,0,0,2,0,0,0,0,0,1,1] [] rfl rfl fun K hK=>?_;simp only [hw,cq,hx,aT,aJ,bF,go_sem,au];refine hK _ _ rfl ?_;simp only [Vf,zA,zE];refine qy tt_ok 20 [0,0,0,2,0,0,0,0,0,0,0,0,0,2,2,2,2] [] kr rfl rfl fun K hK=>?_;(try simp only [dG]);refine QX 3 fun K1 lZ=>?_;simp only [hw,cq,hx,aT,aJ,bF,go_sem,au];refine QY (⟨_,rfl,hk⟩) ?_;rintro _ rfl;(try simp only [hw,cq,hx,aT,aJ,bF,go_sem,au]);refine lZ _ ?_;simp only [hw,cq,hx,aT,aJ,bF,go_sem,au];refine hK _ _ rfl ?_;simp only [Vf,zA,zE];show Go.Eng.Ex _ _ _ _ _ _;refine qy tt_ok 20 (rp 9 0 [2,0,0,0,0,0,0,0,2]) [] kr rfl rfl fun K hK=>?_;simp only [hw,cq,hx,aT,aJ,bF,go_sem,au];refine hK _ _ rfl ?_;simp only [Vf,zA,zE];refine⟨[_,_],?_,?_,1,[false,false,true,true,false,false,false,true,true,true],by omega,by simp only [bG,aG,a8,aS,zB,jj],by simp only [bG,aG,a8,aS,zB,jj],by simp only [bG,aG,a8,aS,zB,u3,eD,je,jj];rfl⟩;(·refine⟨i+1,?_,bR⟩;rw [jW Ex.depth hx,← Ag]);simp only [intOf,bg];omega
 have zR:¬ i<x.kids.length:=by simpa using ix
 have hZ:i=x.kids.length:=by omega
 subst hZ;try rw [au]
 have hw:=a7 (fM Ex.depth x.kids) (by omega);have hz:((fM Ex.depth x.kids+1:Nat):Int)=(x.depth:Int):=by omega
 refine ME ?_;show Go.Eng.Ex _ _ _ _ _ _;refine lW tt_ok 20 (0::0::2::(rp 15 0 [1,1])) [] rfl rfl fun K hK=>?_;simp only [hw,hz,bF,go_sem,au];refine hK _ _ rfl ?_;simp only [Vf,zA,zE];exact QV ⟨.inl rfl,_,rfl,rfl⟩
theorem Lf:∀ (N:Nat) (x:Ex),x.cC≤N→N≤1048576→cx ab 191 [cu x] (num x.depth):=by intro N;induction N with|zero=>intro x h;have:=x.gx;omega|succ N ih =>intro x hN hb;have h2:=x.kB;have h4:=Ex.uI _ x (ax _);obtain⟨_,rfl,h⟩:=Ix x (by omega) (by omega) fun i k hk=>ih k (by have h1:=cb Ex.cC hk;have h3:=x.ou;omega) (by omega);exact h
end
theorem M0 (e:Ex) (hl:e.types.length+e.labels.length≤34359738368):cx ab 230 [cu e] (.slice (bN e.own)):=by
 have Ka:e.types.length≤34359738368:=by omega
 obtain⟨k,m,n,x,z,ts,ls,ks⟩:=e;simp only [Ex.types,Ex.labels] at hl Ka;refine jU tt_ok (fn:=Tryz.f230) Tryz.func230 rfl Tryz.call230 ?_;simp only [dG,cB,Tryz.ntmps230,aj,aA,zA,zF,aH,aI];refine ag tt_ok fun K hK=>?_;simp only [cu,go_sem];refine hK _ ?_;refine ag tt_ok fun K hK=>?_;simp only [cu,go_sem];refine .inr <| .inl ⟨_,_,bw.live (by simp only [cu,aK,go_sem,au]) (m6 (bN ts) (nH ts 0) (by rw [aK];exact Ka)) rfl _,?_⟩
 try simp only [cu,aK,go_sem]
 refine hK _ ?_;refine bz ?_;refine ag tt_ok fun K hK=>?_;simp only [go_sem];refine hK _ ?_;by_cases hk:k=8;·(have hd:decide (k=8)=true:=by simpa using hk);rw [hd];refine ba rfl ?_;refine ag tt_ok fun K hK=>?_;simp only [aw,go_sem];refine hK _ ?_;refine bY (dd (fun N st=>∃ (i dF:Nat) (acc:List Ty),N=ls.length-i∧i≤ls.length∧acc=ts++(ls.take i).map Lb.ty ∧ st = { fr:=[.undef,.ptr 0 0,.undef,.ms 1 dF 0 acc.length,.undef,.undef,.undef,.undef,.undef,.undef,.undef,.undef,.undef,.slice (ls.map b8),num ls.length,num i]++List.replicate 10 .undef,mem:=[.box (cu (.mk k m n x z ts ls ks)).cells,.rows dF 5 (bN acc)] }) ls.length ?_ ?_);(·exact⟨2,(false::true::false::true::(rp 9 false [true,true,true])),by omega,by simp only [bG,aG,a8,aS,zB,jj],by simp only [bG,aG,a8,aS,zB,jj],0,1,ts,by omega,by omega,by simp,rfl⟩);rintro N st ⟨i,dF,acc,rfl,hi,lL,rfl⟩;(have PH:acc.length≤34359738367∨i=ls.length:=by rw [lL];simp;omega);simp only [dG,aH,aI,cu,V.cells];by_cases bR:i<ls.length;(·have hd:=iU bR;(have K6:acc.length≤34359738367:=by omega);refine ag tt_ok fun K hK=>?_;simp only [hd,go_sem];refine hK _ ?_;refine bz (ba rfl (ch ?_));refine bz (bY ?_);obtain⟨f,hf⟩:∃ f,ls[i]?=some f:=⟨_,af bR⟩;(have r9:(ls.take (i+1)).map Lb.ty=(ls.take i).map Lb.ty++[f.ty]:=by rw [bn,hf];simp);refine ag tt_ok fun K hK=>?_;simp only [ae,hf,b8,ah,go_sem];refine hK _ ?_;refine bd tt_ok fun K hK=>?_;simp only [aK,K6,go_sem];refine hK _ ?_;refine bd tt_ok fun K hK=>?_;simp only [go_sem];refine hK _ ?_;have hw:=a7 i (by omega);rw [hw];refine⟨ls.length-(i+1),by omega,2,(false::true::false::true::(rp 9 false [true,true,true])),by omega,by simp only [bG,aG,a8,aS,zB,jj],by simp only [bG,aG,a8,aS,zB,jj],i+1,dF+1,acc++[f.ty],rfl,bR,by rw [lL,r9];simp,?_⟩;simp [rp,bG,cP,az,ah]);have hd:=iV bR;refine ag tt_ok fun K hK=>?_;simp only [hd,go_sem];refine hK _ ?_;refine bz (ba rfl (eH ?_));(have iC:i=ls.length:=by omega);subst iC;show eg _ _ _ _ _ _;refine ag tt_ok fun K hK=>?_;simp only [go_sem];refine hK _ ?_;refine bX ⟨.inl rfl,?_⟩;rw [au] at lL;(have hr:bN (Ex.mk k m n x z ts ls ks).own=bN acc:=by rw [lL];simp [Ex.own,Ex.types,Ex.kind,Ex.labels,hk]);rw [hr];simp [rT,oF,ql,Tryz.f230,G8,gH,dk,aK];rw [← aK];simp
 have hd:decide (k=8)=false:=by simpa using hk
 rw [hd];refine ba rfl (ch ?_);show eg _ _ _ _ _ _;refine ag tt_ok fun K hK=>?_;simp only [go_sem];refine hK _ ?_;refine bX ⟨.inl rfl,?_⟩;have hr:bN (Ex.mk k m n x z ts ls ks).own=bN ts:=by simp [Ex.own,Ex.types,Ex.kind,Ex.labels,hk]
 rw [hr];simp [rT,oF,ql,Tryz.f230,G8,gH,dk,aK];rw [← aK];simp
theorem Lg (e:Ex) (hl:e.types.length+e.labels.length≤34359738368):cx ab 46 [cu e] (.slice (bN e.own)):=by
 have Ka:e.types.length≤34359738368:=by omega
 obtain⟨k,m,n,x,z,ts,ls,ks⟩:=e;simp only [Ex.types,Ex.labels] at hl Ka;refine jU tt_ok (fn:=Tryz.f46) Tryz.func46 rfl Tryz.call46 ?_;simp only [dG,cB,Tryz.ntmps46,aj,aA,zA,zF,aH,aI];refine ag tt_ok fun K hK=>?_;simp only [cu,go_sem];refine hK _ ?_;refine ag tt_ok fun K hK=>?_;simp only [cu,nH,aK,Ka,go_sem];refine hK _ ?_;refine bz ?_;refine ag tt_ok fun K hK=>?_;simp only [go_sem];refine hK _ ?_;by_cases hk:k=8;·(have hd:decide (k=8)=true:=by simpa using hk);rw [hd];refine ba rfl ?_;refine ag tt_ok fun K hK=>?_;simp only [go_sem];refine hK _ ?_;refine bY (dd (fun N st=>∃ (i dF:Nat) (acc:List Ty),N=ls.length-i∧i≤ls.length∧acc=ts++(ls.take i).map Lb.ty ∧ st = { fr:=[.undef,.ptr 0 0,.undef,.ms 1 dF 0 acc.length,num i]++List.replicate 24 .undef,mem:=[.box (cu (.mk k m n x z ts ls ks)).cells,.rows dF 5 (bN acc)] }) ls.length ?_ ?_);(·exact⟨2,[false,true,false,true,true],by omega,by simp only [bG,aG,a8,aS,zB,jj],by simp only [bG,aG,a8,aS,zB,jj],0,1,ts,by omega,by omega,by simp,rfl⟩);rintro N st ⟨i,dF,acc,rfl,hi,lL,rfl⟩;(have PH:acc.length≤34359738367∨i=ls.length:=by rw [lL];simp;omega);simp only [dG,aH,aI,cu,V.cells];refine bz ?_;by_cases bR:i<ls.length;(·have hd:=iU bR;(have K6:acc.length≤34359738367:=by omega);refine ag tt_ok fun K hK=>?_;simp only [aw,hd,go_sem];refine hK _ ?_;refine ba rfl (ch ?_);refine bz (bY ?_);obtain⟨f,hf⟩:∃ f,ls[i]?=some f:=⟨_,af bR⟩;(have r9:(ls.take (i+1)).map Lb.ty=(ls.take i).map Lb.ty++[f.ty]:=by rw [bn,hf];simp);refine bd tt_ok fun K hK=>?_;simp only [ae,hf,b8,ah,aK,K6,go_sem];refine hK _ ?_;refine bd tt_ok fun K hK=>?_;simp only [go_sem];refine hK _ ?_;have hw:=a7 i (by omega);rw [hw];refine⟨ls.length-(i+1),by omega,2,[false,true,false,true,true],by omega,by simp only [bG,aG,a8,aS,zB,jj],by simp only [bG,aG,a8,aS,zB,jj],i+1,dF+1,acc++[f.ty],rfl,bR,by rw [lL,r9];simp,?_⟩;simp [rp,bG,cP,az,ah]);have hd:=iV bR;refine ag tt_ok fun K hK=>?_;simp only [aw,hd,go_sem];refine hK _ ?_;refine ba rfl (eH ?_);(have iC:i=ls.length:=by omega);subst iC;show eg _ _ _ _ _ _;refine ag tt_ok fun K hK=>?_;simp only [go_sem];refine hK _ ?_;refine bX ⟨.inl rfl,?_⟩;rw [au] at lL;(have hr:bN (Ex.mk k m n x z ts ls ks).own=bN acc:=by rw [lL];simp [Ex.own,Ex.types,Ex.kind,Ex.labels,hk]);rw [hr];simp [rT,oF,ql,Tryz.f46,G8,gH,dk,aK];rw [← aK];simp
 have hd:decide (k=8)=false:=by simpa using hk
 rw [hd];refine ba rfl (ch ?_);show eg _ _ _ _ _ _;refine ag tt_ok fun K hK=>?_;simp only [go_sem];refine hK _ ?_;refine bX ⟨.inl rfl,?_⟩;have hr:bN (Ex.mk k m n x z ts ls ks).own=bN ts:=by simp [Ex.own,Ex.types,Ex.kind,Ex.labels,hk]
 rw [hr];simp [rT,oF,ql,Tryz.f46,G8,gH,dk,aK];rw [← aK];simp
def Lh (s:Int) (u:Ty):Int:=IntKind.i64.wrap (s+(u.size:Int))
def M1 (s:Int) (e:Ex):Int:=e.own.foldl Lh (IntKind.i64.wrap (s+1))
theorem DZ:∀ (l:List Ty) (a:Nat),a+bh Ty.size l≤1152921504606846976→l.foldl Lh (a:Int)=((a+bh Ty.size l:Nat):Int)
 | [],a,_=>rfl
 | u :: r,a,h=>by
  simp only [bh] at h ⊢
  rw [fq,Lh,pH a u.size (by omega),DZ r _ (by omega)]
  congr 1;omega
theorem BO:∀ (l:List Ex) (a:Nat),a+bh (fun e=>1+bh Ty.size e.own) l≤1152921504606846976→l.foldl M1 (a:Int)=((a+bh (fun e=>1+bh Ty.size e.own) l:Nat):Int)
 | [],a,_=>rfl
 | e :: r,a,h=>by
  simp only [bh] at h ⊢
  rw [fq,M1,a7 a (by omega),DZ _ _ (by omega),BO r _ (by omega)]
  congr 1;omega
theorem D0 (e:Ex) (he:e.cC≤1048576):cx ab 177 [cu e] (num e.size):=by
 have nh:=Ex.mu _ e (ax _);refine jU tt_ok (fn:=Tryz.f177) Tryz.func177 rfl Tryz.call177 ?_;simp only [dG,cB,Tryz.ntmps177,aj,aA,zA,zF,aH,aI];have h53:=fun B0 B1 h=>Ir e [B0,B1] h;rw [aT] at h53 ⊢;simp only [aJ] at h53 ⊢;refine ag tt_ok fun K hK=>?_;simp only [go_sem];refine hK _ ?_;refine ag tt_ok fun K hK=>?_;simp only [go_sem];refine hK _ ?_;refine bz ?_;refine ag tt_ok fun K hK=>?_;simp only [go_sem];refine .inr <| .inl ⟨_,_,h53 _ _ rfl,?_⟩
 try simp only [go_sem]
 refine hK _ ?_;refine bY (OC (t:=e) (B:=1048576) (fun s:Int=>[.box (aJ e),.box [num s],.box (aJ e)]) 0 3 2 rfl (fun _=>rfl) (by omega) (fun _=>rfl) (fun _=>rfl) rfl rfl rfl (fun s u=>(M1 s u,none)) (by omega) he ?_ ?_);·intro s u hu l LR LB hLR hLB;rw [aT];simp only [dG,pB,aJ,je,eD];have PB:=u.ye;have al1:=u.rD;have lH:=M0 u (by omega);have zR:=bP Ty.size Ty.size_pos u.own;rw [aT] at lH;simp only [aJ] at lH;refine bd tt_ok fun K hK=>?_;simp only [go_sem];refine hK _ ?_;refine⟨rfl,rfl,bY ?_⟩;refine bz ?_;refine bd tt_ok fun K hK=>?_;simp only [go_sem];refine hK _ ?_;refine bz ?_;refine bd tt_ok fun K hK=>?_;simp only [go_sem];refine .inl ⟨_,_,by simp only [aK,go_sem,au],lH,?_⟩;(try simp only [aK,go_sem]);refine hK _ ?_;obtain⟨ps,qd⟩:∃ ps,ps=u.own:=⟨_,rfl⟩;(have hnw:M1 s u=ps.foldl Lh (IntKind.i64.wrap (s+1)):=by rw [qd];rfl);rw [hnw,← qd];rw [← qd] at PB zR;refine bY (dd (fun N st=>∃ (i:Nat),N=ps.length-i∧i≤ps.length ∧ st = { fr:=[.undef,.undef,.undef,.ptr 1 0,.undef,.undef,.undef,.undef,.undef,.undef,.undef,.undef,.undef,.slice (bN ps),num ps.length,num i]++List.replicate 9 .undef,mem:=[.box (aJ e),.box [num ((ps.take i).foldl Lh (IntKind.i64.wrap (s+1)))],.box (aJ e),LB] }) ps.length ?_ ?_);(·exact⟨4,(false::false::false::true::(rp 9 false [true,true,true])),by omega,by simp only [bG,aG,a8,aS,zB,jj],by have h4:aS 4 LB=true:=hLB;simp only [dG,ct,dO,h4];rfl,0,by omega,by omega,rfl⟩);rintro N st ⟨i,rfl,hi,rfl⟩;simp only [dG,aH,aI];by_cases bR:i<ps.length;(·have hd:=iU bR;refine ag tt_ok fun K hK=>?_;simp only [hd,go_sem];refine hK _ ?_;refine bz (ba rfl (ch ?_));refine bz (bY ?_);obtain⟨v,hv⟩:∃ v,ps[i]?=some v:=⟨_,af bR⟩;have hvs:=cb Ty.size hv;(have PX:(ps.take (i+1)).foldl Lh (IntKind.i64.wrap (s+1))=IntKind.i64.wrap ((ps.take i).foldl Lh (IntKind.i64.wrap (s+1))+(v.size:Int)):=by rw [bn,hv,Dj];rfl);have Ds:=ot v (by omega);rw [az] at Ds;simp only [ah] at Ds;refine ag tt_ok fun K hK=>?_;simp only [bo,hv,az,ah,go_sem];refine hK _ ?_;refine mq tt_ok bU [pR,pR,pN,pN,⟨.w,0,[],[],[]⟩] 1 kr fun K hK=>?_;simp only [go_sem,List.replicate];refine⟨_,_,by simp only [go_sem,au],.inl (Ds),?_⟩;(try simp only [go_sem,List.replicate]);refine hK _ ?_;rw [← PX];refine bd tt_ok fun K hK=>?_;simp only [go_sem];refine hK _ ?_;have im:=a7 i (by omega);rw [im];exact⟨ps.length-(i+1),by omega,4,(false::false::false::true::(rp 9 false [true,true,true])),by omega,by simp only [bG,aG,a8,aS,zB,jj],by have h4:aS 4 LB=true:=hLB;simp only [dG,ct,dO,h4];rfl,i+1,rfl,bR,rfl⟩);have hd:=iV bR;refine ag tt_ok fun K hK=>?_;simp only [hd,go_sem];refine hK _ ?_;refine bz (ba rfl (eH ?_));(have iC:i=ps.length:=by omega);subst iC;(try rw [au]);exact⟨rfl,rfl,rfl⟩
 rw [vb,show (0:Int)=((0:Nat):Int) from rfl,BO _ _ (by rw [Ex.BL _ e (ax _)];omega),Ex.BL _ e (ax _),aZ];show eg _ _ _ _ _ _;refine ag tt_ok fun K hK=>?_;simp only [go_sem];refine hK _ ?_;exact bX ⟨.inl rfl,rfl⟩
theorem Iy:∀ (N:Nat) (e:Ex),e.cC≤N→N≤1048576→cx ab 29 [cu e] (num e.size):=by intro N;induction N with|zero=>intro t h;have:=t.gx;omega|succ N ih =>intro e hN hb;have PB:=e.ye;have al1:=e.rD;have nh:=e.size_eq;have hsb:=Ex.mu _ e (ax _);have lH:=Lg e (by omega);have zR:=bP Ty.size Ty.size_pos e.own;have Mr:=e.kB;refine jU tt_ok (fn:=Tryz.f29) Tryz.func29 rfl Tryz.call29 ?_;simp only [dG,cB,Tryz.ntmps29,aj,aA,zA,zF,aH,aI];rw [aT] at lH ⊢;simp only [aJ] at lH ⊢;refine ag tt_ok fun K hK=>?_;simp only [go_sem];refine hK _ ?_;refine ag tt_ok fun K hK=>?_;simp only [go_sem];refine hK _ ?_;refine ag tt_ok fun K hK=>?_;simp only [go_sem];refine .inl ⟨_,_,by simp only [go_sem,au],lH,?_⟩;(try simp only [go_sem]);refine hK _ ?_;refine bz ?_;refine ag tt_ok fun K hK=>?_;simp only [go_sem];refine hK _ ?_;obtain⟨ps,qd⟩:∃ ps,ps=e.own:=⟨_,rfl⟩;rw [← qd] at PB zR nh ⊢;refine bY (dd (fun N st=>∃ (i:Nat),N=ps.length-i∧i≤ps.length ∧ st = { fr:=[.undef,.ptr 0 0,.undef,num ((1+bh Ty.size (ps.take i):Nat)),.slice (bN ps),num i]++List.replicate 32 .undef,mem:=[.box (aJ e)] }) ps.length ?_ ?_);(·exact⟨1,[false,true,false,true,true,true],by omega,by simp only [bG,aG,a8,aS,zB,jj],rfl,0,by omega,by omega,rfl⟩);rintro N' st ⟨i,rfl,hi,rfl⟩;simp only [dG,aH,aI];refine bz ?_;by_cases bR:i<ps.length;(·have hd:=iU bR;refine ag tt_ok fun K hK=>?_;simp only [aK,hd,go_sem];refine hK _ ?_;refine ba rfl (ch ?_);refine bz (bY ?_);obtain⟨u,hu⟩:∃ u,ps[i]?=some u:=⟨_,af bR⟩;have Ou:=cb Ty.size hu;have Ds:=fL Ty.size hu;have Hw:=gX Ty.size ps (i+1);have fG:=qC u.size u (ax _) (by omega);rw [az] at fG;simp only [ah] at fG;refine bd tt_ok fun K hK=>?_;simp only [bo,hu,az,ah,go_sem];refine .inl ⟨_,_,by simp only [go_sem,au],fG,?_⟩;(try simp only [go_sem]);refine hK _ ?_;(have hw:IntKind.i64.wrap (((1+bh Ty.size (ps.take i):Nat):Int)+(u.size:Int))=((1+bh Ty.size (ps.take (i+1)):Nat):Int):=by rw [pH _ _ (by omega)];congr 1;omega);rw [hw];refine bd tt_ok fun K hK=>?_;simp only [go_sem];refine hK _ ?_;have im:=a7 i (by omega);rw [im];exact⟨ps.length-(i+1),by omega,1,[false,true,false,true,true,true],by omega,by simp only [bG,aG,a8,aS,zB,jj],rfl,i+1,rfl,bR,by simp [rp,bG]⟩);have hd:=iV bR;refine ag tt_ok fun K hK=>?_;simp only [aK,hd,go_sem];refine hK _ ?_;refine ba rfl (eH ?_);(have iC:i=ps.length:=by omega);subst iC;(try rw [au]);show eg _ _ _ _ _ _;refine bz ?_;refine ag tt_ok fun K hK=>?_;simp only [go_sem];refine hK _ ?_;obtain⟨ks,V2⟩:∃ ks,ks=e.kids:=⟨_,rfl⟩;obtain⟨S,hS⟩:∃ S,S=1+bh Ty.size ps:=⟨_,rfl⟩;rw [← hS];rw [← V2] at PB nh Mr;refine bY (dd (fun N st=>∃ (i:Nat),N=ks.length-i∧i≤ks.length ∧ st = { fr:=[.undef,.ptr 0 0,.undef,num ((S+bh Ex.size (ks.take i):Nat)),.undef,.undef,num i]++List.replicate 31 .undef,mem:=[.box (aJ e)] }) ks.length ?_ ?_);(·exact⟨1,[false,true,false,true,false,false,true],by omega,by simp only [bG,aG,a8,aS,zB,jj],rfl,0,by omega,by omega,rfl⟩);rintro N' st ⟨i,rfl,hi,rfl⟩;simp only [aH,aI,ai,ak,aJ,← V2];refine bz ?_;by_cases bR:i<ks.length;(·have hd:=iU bR;refine ag tt_ok fun K hK=>?_;simp only [bF,hd,go_sem];refine hK _ ?_;refine ba rfl (ch ?_);refine bz (bY ?_);obtain⟨u,hu⟩:∃ u,ks[i]?=some u:=⟨_,af bR⟩;have Ou:=cb Ex.cC hu;have Ds:=fL Ex.size hu;have Hw:=gX Ex.size ks (i+1);have fG:=ih u (by omega) (by omega);rw [aT] at fG;simp only [aJ] at fG;refine bd tt_ok fun K hK=>?_;simp only [cq,hu,aT,aJ,go_sem];refine .inl ⟨_,_,by simp only [go_sem,au],fG,?_⟩;(try simp only [go_sem]);refine hK _ ?_;(have hw:IntKind.i64.wrap (((S+bh Ex.size (ks.take i):Nat):Int)+(u.size:Int))=((S+bh Ex.size (ks.take (i+1)):Nat):Int):=by rw [pH _ _ (by omega)];congr 1;omega);rw [hw];refine bd tt_ok fun K hK=>?_;simp only [go_sem];refine hK _ ?_;have im:=a7 i (by omega);rw [im];exact⟨ks.length-(i+1),by omega,1,[false,true,false,true,false,false,true],by omega,by simp only [bG,aG,a8,aS,zB,jj],rfl,i+1,rfl,bR,by simp [rp,bG,aJ,← V2]⟩);have hd:=iV bR;refine ag tt_ok fun K hK=>?_;simp only [bF,hd,go_sem];refine hK _ ?_;refine ba rfl (eH ?_);(have iC:i=ks.length:=by omega);subst iC;(try rw [au]);show eg _ _ _ _ _ _;refine ag tt_ok fun K hK=>?_;simp only [go_sem];refine hK _ ?_;refine bX ⟨.inl rfl,?_⟩;(have mF:S+bh Ex.size ks=e.size:=by omega);rw [mF];simp [rT,oF,ql,Tryz.f29,G8,gH,dk,jS]
noncomputable def uJ {α:Type} (a b:α):Bool:=@decide (a=b) (Classical.propDecidable _)
theorem dZ {α:Type} {a b:α} (h:a=b):uJ a b=true:=by unfold uJ;exact @decide_eq_true _ (Classical.propDecidable _) h
theorem cE {α:Type} {a b:α} (h:¬ a=b):uJ a b=false:=by unfold uJ;exact @decide_eq_false _ (Classical.propDecidable _) h
theorem Ak {α:Type} {a b:α}:uJ a b=true↔a=b:=by refine⟨fun h=>r6 fun hn=>?_,dZ⟩;rw [cE hn] at h;cases h
theorem nI (a b:ByteArray):(a.toList==b.toList)=uJ a b:=by
 have inj:a.toList=b.toList→a=b:=fun h=>by rw [ByteArray.toList_eq,ByteArray.toList_eq] at h;exact as4 (ajq.1 h)
 by_cases h:a=b;·rw [dZ h,h];simp
 rw [cE h];simpa using fun e=>h (inj e)
theorem Iz (g:FuncId) (ts us:List Ty) (hl:ts.length≤1048576) (hg:∀ (i:Nat) (t u:Ty),ts[i]?=some t→us[i]?=some u→cx ab g [cd t,cd u] (bl (uJ t u))) :
  cx ab 224 [.slice (bN ts),.slice (bN us),.sc (.func (.func g) #[] #[])] (bl (uJ ts us)):=by
 refine jU tt_ok (fn:=Tryz.f224) Tryz.func224 rfl Tryz.call224 ?_;simp only [dG,cB,Tryz.ntmps224,aj,aA,zA,zF,aH,aI];refine ag tt_ok fun K hK=>?_;simp only [go_sem];refine hK _ ?_;refine bz ?_;by_cases hlen:ts.length=us.length;·(have hd:(!decide ((ts.length:Int)=(us.length:Int)))=false:=by simp [hlen]);refine ag tt_ok fun K hK=>?_;simp only [aK,hd,go_sem];refine hK _ ?_;refine ba rfl (ch ?_);show eg _ _ _ _ _ _;refine bz ?_;refine ag tt_ok fun K hK=>?_;simp only [aK,go_sem];refine hK _ ?_;refine bY (dd (fun N st=>∃ (i:Nat),N=ts.length-i∧i≤ts.length∧ts.take i=us.take i ∧ st = { fr:=[.undef,.slice (bN us),.sc (.func (.func g) #[] #[]),.undef,.undef,.undef,.undef,.undef,.undef,.undef,.undef,.undef,.undef,.undef,.undef,.slice (bN ts),num ts.length,num i]++List.replicate 14 .undef,mem:=[] }) ts.length ?_ ?_);(·exact⟨0,(false::true::true::(rp 12 false [true,true,true])),by omega,by simp only [bG,aG,a8,aS,zB,jj],rfl,0,by omega,by omega,by simp,rfl⟩);rintro N' st ⟨i,rfl,hi,rP,rfl⟩;simp only [dG,aH,aI];by_cases bR:i<ts.length;(·have hd:=iU bR;refine ag tt_ok fun K hK=>?_;simp only [hd,go_sem];refine hK _ ?_;refine bz (ba rfl (ch ?_));refine bz (bY ?_);obtain⟨t,ht⟩:∃ t,ts[i]?=some t:=⟨_,af bR⟩;obtain⟨u,hu⟩:∃ u,us[i]?=some u:=⟨_,af (by omega)⟩;have R1:=hg i t u ht hu;rw [az,az] at R1;simp only [ah] at R1;refine ag tt_ok fun K hK=>?_;simp only [bo,ht,az,ah,go_sem];refine hK _ ?_;refine ag tt_ok fun K hK=>?_;simp only [bo,hu,az,ah,go_sem];refine hK _ ?_;refine ag tt_ok fun K hK=>?_;simp only [go_sem];refine .inl ⟨_,_,by simp only [go_sem,au],R1,?_⟩;(try simp only [go_sem]);refine hK _ ?_;(have R2:∀ h:t=u,ts.take (i+1)=us.take (i+1):=fun h=>by rw [bn,bn,rP,ht,hu,h]);by_cases M3:t=u;(·rw [dZ M3];refine ba rfl (ch ?_);show eg _ _ _ _ _ _;refine bd tt_ok fun K hK=>?_;simp only [go_sem];refine hK _ ?_;have im:=a7 i (by omega);rw [im];exact⟨ts.length-(i+1),by omega,0,(false::true::true::(rp 12 false [true,true,true])),by omega,by simp only [bG,aG,a8,aS,zB,jj],rfl,i+1,rfl,bR,R2 M3,rfl⟩);rw [cE M3];refine ba rfl ?_;refine ag tt_ok fun K hK=>?_;simp only [go_sem];refine hK _ ?_;refine bX ⟨.inl rfl,?_⟩;rw [cE (fun e=>M3 (by rw [e,hu] at ht;exact (vH ht).symm))];rfl);have hd:=iV bR;refine ag tt_ok fun K hK=>?_;simp only [hd,go_sem];refine hK _ ?_;refine bz (ba rfl (eH ?_));(have iC:i=ts.length:=by omega);show eg _ _ _ _ _ _;refine ag tt_ok fun K hK=>?_;simp only [go_sem];refine hK _ ?_;refine bX ⟨.inl rfl,?_⟩;rw [iC,au,hlen,au] at rP;rw [dZ rP];rfl
 have hd:(!decide ((ts.length:Int)=(us.length:Int)))=true:=by simpa using fun e=>hlen (by omega)
 refine ag tt_ok fun K hK=>?_;simp only [aK,hd,go_sem];refine hK _ ?_;refine ba rfl ?_;refine ag tt_ok fun K hK=>?_;simp only [go_sem];refine hK _ ?_;refine bX ⟨.inl rfl,?_⟩;rw [cE (fun e=>hlen (by rw [e]))];rfl
theorem IA (g:FuncId) (ts us:List Fd) (hl:ts.length≤1048576) (hg:∀ (i:Nat) (t u:Fd),ts[i]?=some t→us[i]?=some u→cx ab g [mI t,mI u] (bl (uJ t u))) :
  cx ab 225 [.slice (ew ts),.slice (ew us),.sc (.func (.func g) #[] #[])] (bl (uJ ts us)):=by
 refine jU tt_ok (fn:=Tryz.f225) Tryz.func225 rfl Tryz.call225 ?_;simp only [dG,cB,Tryz.ntmps225,aj,aA,zA,zF,aH,aI];refine ag tt_ok fun K hK=>?_;simp only [go_sem];refine hK _ ?_;refine bz ?_;by_cases hlen:ts.length=us.length;·(have hd:(!decide ((ts.length:Int)=(us.length:Int)))=false:=by simp [hlen]);refine ag tt_ok fun K hK=>?_;simp only [cp,hd,go_sem];refine hK _ ?_;refine ba rfl (ch ?_);show eg _ _ _ _ _ _;refine bz ?_;refine ag tt_ok fun K hK=>?_;simp only [cp,go_sem];refine hK _ ?_;refine bY (dd (fun N st=>∃ (i:Nat),N=ts.length-i∧i≤ts.length∧ts.take i=us.take i ∧ st = { fr:=[.undef,.slice (ew us),.sc (.func (.func g) #[] #[]),.undef,.undef,.undef,.undef,.undef,.undef,.undef,.undef,.undef,.undef,.undef,.undef,.slice (ew ts),num ts.length,num i]++List.replicate 14 .undef,mem:=[] }) ts.length ?_ ?_);(·exact⟨0,(false::true::true::(rp 12 false [true,true,true])),by omega,by simp only [bG,aG,a8,aS,zB,jj],rfl,0,by omega,by omega,by simp,rfl⟩);rintro N' st ⟨i,rfl,hi,rP,rfl⟩;simp only [dG,aH,aI];by_cases bR:i<ts.length;(·have hd:=iU bR;refine ag tt_ok fun K hK=>?_;simp only [hd,go_sem];refine hK _ ?_;refine bz (ba rfl (ch ?_));refine bz (bY ?_);obtain⟨t,ht⟩:∃ t,ts[i]?=some t:=⟨_,af bR⟩;obtain⟨u,hu⟩:∃ u,us[i]?=some u:=⟨_,af (by omega)⟩;have R1:=hg i t u ht hu;rw [bO,bO] at R1;simp only [dG,ah] at R1;refine ag tt_ok fun K hK=>?_;simp only [bA,ht,bO,ah,go_sem];refine hK _ ?_;refine ag tt_ok fun K hK=>?_;simp only [bA,hu,bO,ah,go_sem];refine hK _ ?_;refine ag tt_ok fun K hK=>?_;simp only [go_sem];refine .inl ⟨_,_,by simp only [go_sem,au],R1,?_⟩;(try simp only [go_sem]);refine hK _ ?_;(have R2:∀ h:t=u,ts.take (i+1)=us.take (i+1):=fun h=>by rw [bn,bn,rP,ht,hu,h]);by_cases M3:t=u;(·rw [dZ M3];refine ba rfl (ch ?_);show eg _ _ _ _ _ _;refine bd tt_ok fun K hK=>?_;simp only [go_sem];refine hK _ ?_;have im:=a7 i (by omega);rw [im];exact⟨ts.length-(i+1),by omega,0,(false::true::true::(rp 12 false [true,true,true])),by omega,by simp only [bG,aG,a8,aS,zB,jj],rfl,i+1,rfl,bR,R2 M3,rfl⟩);rw [cE M3];refine ba rfl ?_;refine ag tt_ok fun K hK=>?_;simp only [go_sem];refine hK _ ?_;refine bX ⟨.inl rfl,?_⟩;rw [cE (fun e=>M3 (by rw [e,hu] at ht;exact (vH ht).symm))];rfl);have hd:=iV bR;refine ag tt_ok fun K hK=>?_;simp only [hd,go_sem];refine hK _ ?_;refine bz (ba rfl (eH ?_));(have iC:i=ts.length:=by omega);show eg _ _ _ _ _ _;refine ag tt_ok fun K hK=>?_;simp only [go_sem];refine hK _ ?_;refine bX ⟨.inl rfl,?_⟩;rw [iC,au,hlen,au] at rP;rw [dZ rP];rfl
 have hd:(!decide ((ts.length:Int)=(us.length:Int)))=true:=by simpa using fun e=>hlen (by omega)
 refine ag tt_ok fun K hK=>?_;simp only [cp,hd,go_sem];refine hK _ ?_;refine ba rfl ?_;refine ag tt_ok fun K hK=>?_;simp only [go_sem];refine hK _ ?_;refine bX ⟨.inl rfl,?_⟩;rw [cE (fun e=>hlen (by rw [e]))];rfl
theorem Ty.ext_iff (t u:Ty):t=u↔t.kind=u.kind∧t.mod=u.mod∧t.name=u.name∧t.args=u.args∧t.bp=u.bp:=by obtain⟨k,m,n,ts,fs⟩:=t;obtain⟨k',m',n',ts',fs'⟩:=u;simp [Ty.kind,Ty.mod,Ty.name,Ty.args,Ty.bp]
theorem Fd.ext_iff (t u:Fd):t=u↔t.name=u.name∧t.opt=u.opt∧t.ty=u.ty:=by obtain⟨n,t,o⟩:=t;obtain⟨n',t',o'⟩:=u;simp only [Fd.name,Fd.opt,Fd.ty,Fd.mk.injEq];exact⟨fun h=>⟨h.1,h.2.2,h.2.1⟩,fun h=>⟨h.1,h.2.2,h.2.1⟩⟩
theorem WO (t u:Fd) (h:cx ab 171 [cd t.ty,cd u.ty] (bl (uJ t.ty u.ty))):cx ab 226 [mI t,mI u] (bl (uJ t u)):=by
 refine jU tt_ok (fn:=Tryz.f226) Tryz.func226 rfl Tryz.call226 ?_;simp only [dG,cB,Tryz.ntmps226,aj,aA,zA,zF,aH,aI];rw [az,az] at h;rw [bO,bO];simp only [dG,ah] at h ⊢;have e1:=nI t.name u.name;have hT:ab.underlying 4=some .bool:=kr;have e2:=fun x y=>VM (P:=ab) (T:=4) x y hT;refine ag tt_ok fun K hK=>?_;simp only [go_sem];refine hK _ ?_;by_cases h1:t.name=u.name;·rw [dZ h1] at e1;by_cases h2:t.opt=u.opt;(·(have e3:(t.opt==u.opt)=true:=by simpa using h2);refine ag tt_ok fun K hK=>?_;simp only [e1,e2,e3,go_sem];refine .inl ⟨_,_,by simp only [go_sem,au],h,?_⟩;(try simp only [go_sem]);refine hK _ ?_;refine bX ⟨.inl rfl,?_⟩;(have hr:uJ t u=uJ t.ty u.ty:=by by_cases h3:t.ty=u.ty;(·rw [dZ h3,dZ ((Fd.ext_iff t u).2 ⟨h1,h2,h3⟩)]);rw [cE h3,cE fun e=>h3 ((Fd.ext_iff t u).1 e).2.2]);rw [hr];rfl);(have e3:(t.opt==u.opt)=false:=by simpa using h2);refine ag tt_ok fun K hK=>?_;simp only [e1,e2,e3,go_sem];refine hK _ ?_;refine bX ⟨.inl rfl,?_⟩;rw [cE fun e=>h2 ((Fd.ext_iff t u).1 e).2.1];rfl
 rw [cE h1] at e1;refine ag tt_ok fun K hK=>?_;simp only [e1,go_sem];refine hK _ ?_;refine bX ⟨.inl rfl,?_⟩;rw [cE fun e=>h1 ((Fd.ext_iff t u).1 e).1];rfl
theorem Ty.D1 {t a:Ty} {i:Nat} (h:t.args[i]?=some a):a.size<t.size:=by
 have h1:t.parts[i]?=some a:=by unfold Ty.parts;rw [bx (aq.1 h).1];exact h
 have:=cb Ty.size h1;have:=t.dQ;omega
theorem Ty.D2 {t:Ty} {f:Fd} {i:Nat} (h:t.bp[i]?=some f):f.ty.size<t.size:=by
 have h1:t.parts[t.args.length+i]?=some f.ty:=by unfold Ty.parts;rw [a6 (by omega),ef,ae,h];rfl
 have:=cb Ty.size h1;have:=t.dQ;omega
theorem IB:∀ (N:Nat) (t u:Ty),t.size≤N→N≤1048576→cx ab 171 [cd t,cd u] (bl (uJ t u)):=by intro N;induction N with|zero=>intro t u h;have:=t.size_pos;omega|succ N ih =>intro t u hN hb;have zQ:=t.fc;have hA:=Iz 171 t.args u.args (by omega) fun i a b ha _=>ih a b (by have:=Ty.D1 ha;omega) (by omega);have hF:=IA 226 t.bp u.bp (by omega) fun i a b ha _=>WO a b (ih a.ty b.ty (by have:=Ty.D2 ha;omega) (by omega));refine jU tt_ok (fn:=Tryz.f171) Tryz.func171 rfl Tryz.call171 ?_;simp only [dG,cB,Tryz.ntmps171,aj,aA,zA,zF,aH,aI];rw [az,az];simp only [ah];have e2:=nI t.mod u.mod;have e3:=nI t.name u.name;refine ag tt_ok fun K hK=>?_;simp only [go_sem];refine hK _ ?_;by_cases h1:t.kind=u.kind;(·have d1:decide (t.kind=u.kind)=true:=decide_eq_true h1;by_cases h2:t.mod=u.mod;(·rw [dZ h2] at e2;by_cases h3:t.name=u.name;(·rw [dZ h3] at e3;by_cases h4:t.args=u.args;(·rw [dZ h4] at hA;by_cases h5:t.bp=u.bp;(·rw [dZ h5] at hF;refine ag tt_ok fun K hK=>?_;simp only [d1,e2,e3,go_sem];refine .inl ⟨_,_,by simp only [go_sem,au],hA,?_⟩;(try simp only [go_sem]);refine .inl ⟨_,_,by simp only [go_sem,au],hF,?_⟩;(try simp only [go_sem]);refine hK _ ?_;refine bX ⟨.inl rfl,?_⟩;rw [dZ ((Ty.ext_iff t u).2 ⟨h1,h2,h3,h4,h5⟩)];rfl);rw [cE h5] at hF;refine ag tt_ok fun K hK=>?_;simp only [d1,e2,e3,go_sem];refine .inl ⟨_,_,by simp only [go_sem,au],hA,?_⟩;(try simp only [go_sem]);refine .inl ⟨_,_,by simp only [go_sem,au],hF,?_⟩;(try simp only [go_sem]);refine hK _ ?_;refine bX ⟨.inl rfl,?_⟩;rw [cE fun e=>h5 ((Ty.ext_iff t u).1 e).2.2.2.2];rfl);rw [cE h4] at hA;refine ag tt_ok fun K hK=>?_;simp only [d1,e2,e3,go_sem];refine .inl ⟨_,_,by simp only [go_sem,au],hA,?_⟩;(try simp only [go_sem]);refine hK _ ?_;refine bX ⟨.inl rfl,?_⟩;rw [cE fun e=>h4 ((Ty.ext_iff t u).1 e).2.2.2.1];rfl);rw [cE h3] at e3;refine ag tt_ok fun K hK=>?_;simp only [d1,e2,e3,go_sem];refine hK _ ?_;refine bX ⟨.inl rfl,?_⟩;rw [cE fun e=>h3 ((Ty.ext_iff t u).1 e).2.2.1];rfl);rw [cE h2] at e2;refine ag tt_ok fun K hK=>?_;simp only [d1,e2,go_sem];refine hK _ ?_;refine bX ⟨.inl rfl,?_⟩;rw [cE fun e=>h2 ((Ty.ext_iff t u).1 e).2.1];rfl);have d1:decide (t.kind=u.kind)=false:=decide_eq_false h1;refine ag tt_ok fun K hK=>?_;simp only [d1,go_sem];refine hK _ ?_;refine bX ⟨.inl rfl,?_⟩;rw [cE fun e=>h1 ((Ty.ext_iff t u).1 e).1];rfl
section
attribute [local irreducible] runM fC oa
theorem D3 (ts us:List Ty) (hl:ts.length≤1048576) (hg:∀ (i:Nat) (t u:Ty),ts[i]?=some t→us[i]?=some u→cx ab 76 [cd t,cd u] (bl (uJ t u))) :
  cx ab 128 [.slice (bN ts),.slice (bN us)] (bl (uJ ts us)):=by
 refine jU tt_ok (fn:=Tryz.f128) Tryz.func128 rfl Tryz.call128 ?_;simp only [dG,cB,Tryz.ntmps128,aj,aA,zA,zF,aH,aI];refine ag tt_ok fun K hK=>?_;simp only [go_sem];refine hK _ ?_;refine bz ?_;by_cases hlen:ts.length=us.length;·(have hd:(!decide ((ts.length:Int)=(us.length:Int)))=false:=by simp [hlen]);refine ag tt_ok fun K hK=>?_;simp only [aK,hd,go_sem];refine hK _ ?_;refine ba rfl (ch ?_);show eg _ _ _ _ _ _;refine bz ?_;refine ag tt_ok fun K hK=>?_;simp only [go_sem];refine hK _ ?_;refine bY (dd (fun N st=>∃ (i:Nat),N=ts.length-i∧i≤ts.length∧ts.take i=us.take i ∧ st = { fr:=[.slice (bN ts),.slice (bN us),.undef,.undef,.undef,num i]++List.replicate 21 .undef,mem:=[] }) ts.length ?_ ?_);(·exact⟨0,[true,true,false,false,false,true],by omega,by simp only [bG,aG,a8,aS,zB,jj],rfl,0,by omega,by omega,by simp,rfl⟩);rintro N' st ⟨i,rfl,hi,rP,rfl⟩;simp only [dG,aH,aI];refine bz ?_;by_cases bR:i<ts.length;(·have hd:=iU bR;refine ag tt_ok fun K hK=>?_;simp only [aK,hd,go_sem];refine hK _ ?_;refine ba rfl (ch ?_);refine bz (bY ?_);obtain⟨t,ht⟩:∃ t,ts[i]?=some t:=⟨_,af bR⟩;obtain⟨u,hu⟩:∃ u,us[i]?=some u:=⟨_,af (by omega)⟩;have R1:=hg i t u ht hu;rw [az,az] at R1;simp only [ah] at R1;refine pV tt_ok bU [pN,pN,pR,pR,pN,pN,pR,pR,pN,pN] 0 kr fun K hK=>?_;simp only [bo,ht,hu,az,ah,go_sem,List.replicate];refine⟨_,_,by simp only [go_sem,au],.inl (R1),?_⟩;(try simp only [go_sem,List.replicate]);refine hK _ ?_;(have R2:∀ h:t=u,ts.take (i+1)=us.take (i+1):=fun h=>by rw [bn,bn,rP,ht,hu,h]);by_cases M3:t=u;(·rw [dZ M3];refine ba rfl (ch ?_);show eg _ _ _ _ _ _;refine bd tt_ok fun K hK=>?_;simp only [go_sem];refine hK _ ?_;have im:=a7 i (by omega);rw [im];exact⟨ts.length-(i+1),by omega,0,[true,true,false,false,false,true],by omega,by simp only [bG,aG,a8,aS,zB,jj],rfl,i+1,rfl,bR,R2 M3,rfl⟩);rw [cE M3];refine ba rfl ?_;refine ag tt_ok fun K hK=>?_;simp only [go_sem];refine hK _ ?_;refine bX ⟨.inl rfl,?_⟩;rw [cE (fun e=>M3 (by rw [e,hu] at ht;exact (vH ht).symm))];rfl);have hd:=iV bR;refine ag tt_ok fun K hK=>?_;simp only [aK,hd,go_sem];refine hK _ ?_;refine ba rfl (eH ?_);(have iC:i=ts.length:=by omega);subst iC;show eg _ _ _ _ _ _;refine ag tt_ok fun K hK=>?_;simp only [go_sem];refine hK _ ?_;refine bX ⟨.inl rfl,?_⟩;(have he:ts=us:=by rw [au] at rP;rw [rP,hlen,au]);rw [dZ he];rfl
 have hd:(!decide ((ts.length:Int)=(us.length:Int)))=true:=by simp;omega
 refine ag tt_ok fun K hK=>?_;simp only [aK,hd,go_sem];refine hK _ ?_;refine ba rfl ?_;refine ag tt_ok fun K hK=>?_;simp only [go_sem];refine hK _ ?_;refine bX ⟨.inl rfl,?_⟩;rw [cE (fun e=>hlen (by rw [e]))];rfl
def nw (id:Nat):Code→Option (Array Oper)
 | .region j ops _=>if j=id then some ops else none
 | .seq a b=>match nw id a with|some x=>some x|none=>nw id b
 | .cond _ a b=>match nw id a with|some x=>some x|none=>nw id b
 | .block _ c=>nw id c
 | .loop c=>nw id c
 | _=>none
def Al (id:Nat) (fn:Func):Option (Array Oper):=match fn.body with|some b=>nw id b|none=>none
def FR (t u:Ty) (i:Nat) (b:Bool) (K:St→Prop):Prop:=∀ fr:List V,bG ([false,false,true,true,false,true]++List.replicate 78 false++[true]) fr=[.undef,.undef,.ptr 0 0,.ptr 1 0,.undef,num i]++List.replicate 78 .undef++[bl b]++List.replicate 5 .undef →
 K { fr:=fr,mem:=[.box (ah t),.box (ah u)] }
section
variable {t u:Ty} {i:Nat} {f g:Fd} (hf:t.bp[i]?=some f) (hg:u.bp[i]?=some g) {a0 a b c d:V} {K:St→Prop} {ops:Array Oper} (ho:Al 6 Tryz.f76=some ops)
include hf hg ho in
theorem Li (h5:¬ f.name=g.name) (hK:FR t u i true K) :
  runM ab tt ops 2 ops.toList [pN,pR,pN,pR,pN,pR,pN,pR,pN,pR,pN,pR,pN,pN,pN,pR,pN,pR,pN,pR,pN,pR,pN,pR,pN,pR,pN,pN,pN,pN,pR,pN,pR,pN,pR,pN,pR,pN,pR,pN,pR,pN,pN,pN] { fr:=[.undef,.undef,.ptr 0 0,.ptr 1 0,.undef,num i]++List.replicate 28 .undef++[a0,a,b,c,d]++List.replicate 51 .undef,mem:=[.box (ah t),.box (ah u)]++List.replicate 0 .hole } K:=by simp only [Al,Tryz.f76,nw,zE,if_false,if_true,reduceIte,aB] at ho;subst ho;have e5:=nI f.name g.name;have hT:ab.underlying 4=some .bool:=kr;have e6:=fun x y=>Fa (P:=ab) (T:=4) x y hT;rw [cE h5] at e5;simp only [dG,aH,aI,ah];refine ep 5 (by simp) (by simp) fun K1 lZ=>?_;simp only [bA,hf,hg,bO,ah,e5,go_sem,List.replicate];refine lZ _ ?_;refine ep 5 (by simp) (by simp) fun K1 lZ=>?_;simp only [bA,hf,hg,bO,ah,e5,go_sem,List.replicate];refine lZ _ ?_;refine ep 5 (by simp) (by simp) fun K1 lZ=>?_;simp only [bA,hf,hg,bO,ah,e5,go_sem,List.replicate];refine lZ _ ?_;refine ep 5 (by simp) (by simp) fun K1 lZ=>?_;simp only [bA,hf,hg,bO,ah,e5,go_sem,List.replicate];refine lZ _ ?_;refine ep 5 (by simp) (by simp) fun K1 lZ=>?_;simp only [bA,hf,hg,bO,ah,e5,go_sem,List.replicate];refine lZ _ ?_;refine ep 5 (by simp) (by simp) fun K1 lZ=>?_;simp only [bA,hf,hg,bO,ah,e5,go_sem,List.replicate];refine lZ _ ?_;refine ep 5 (by simp) (by simp) fun K1 lZ=>?_;simp only [bA,hf,hg,bO,ah,e5,go_sem,List.replicate];refine lZ _ ?_;refine ep 5 (by simp) (by simp) fun K1 lZ=>?_;simp only [bA,hf,hg,bO,ah,e5,go_sem,List.replicate];refine lZ _ ?_;simp only [go_sem,List.replicate];exact hK _ (by simp only [bG,aH,aI,ai,ak,jj])
include hf hg ho in
theorem OG (h5:f.name=g.name) (h6:¬ f.opt=g.opt) (hK:FR t u i true K) :
  runM ab tt ops 2 ops.toList [pN,pR,pN,pR,pN,pR,pN,pR,pN,pR,pN,pR,pN,pN,pN,pR,pN,pR,pN,pR,pN,pR,pN,pR,pN,pR,pN,pN,pN,pN,pR,pN,pR,pN,pR,pN,pR,pN,pR,pN,pR,pN,pN,pN] { fr:=[.undef,.undef,.ptr 0 0,.ptr 1 0,.undef,num i]++List.replicate 28 .undef++[a0,a,b,c,d]++List.replicate 51 .undef,mem:=[.box (ah t),.box (ah u)]++List.replicate 0 .hole } K:=by
 simp only [Al,Tryz.f76,nw,zE,if_false,if_true,reduceIte,aB] at ho;subst ho;have e5:=nI f.name g.name;have hT:ab.underlying 4=some .bool:=kr;have e6:=fun x y=>Fa (P:=ab) (T:=4) x y hT;rw [dZ h5] at e5;have e7:(f.opt==g.opt)=false:=by simpa using h6
 simp only [dG,aH,aI,ah];refine ep 5 (by simp) (by simp) fun K1 lZ=>?_;simp only [bA,hf,hg,bO,ah,e5,e6,e7,go_sem,List.replicate];refine lZ _ ?_;refine ep 5 (by simp) (by simp) fun K1 lZ=>?_;simp only [bA,hf,hg,bO,ah,e5,e6,e7,go_sem,List.replicate];refine lZ _ ?_;refine ep 5 (by simp) (by simp) fun K1 lZ=>?_;simp only [bA,hf,hg,bO,ah,e5,e6,e7,go_sem,List.replicate];refine lZ _ ?_;refine ep 5 (by simp) (by simp) fun K1 lZ=>?_;simp only [bA,hf,hg,bO,ah,e5,e6,e7,go_sem,List.replicate];refine lZ _ ?_;refine ep 5 (by simp) (by simp) fun K1 lZ=>?_;simp only [bA,hf,hg,bO,ah,e5,e6,e7,go_sem,List.replicate];refine lZ _ ?_;refine ep 5 (by simp) (by simp) fun K1 lZ=>?_;simp only [bA,hf,hg,bO,ah,e5,e6,e7,go_sem,List.replicate];refine lZ _ ?_;refine ep 5 (by simp) (by simp) fun K1 lZ=>?_;simp only [bA,hf,hg,bO,ah,e5,e6,e7,go_sem,List.replicate];refine lZ _ ?_;refine ep 5 (by simp) (by simp) fun K1 lZ=>?_;simp only [bA,hf,hg,bO,ah,e5,e6,e7,go_sem,List.replicate];refine lZ _ ?_;simp only [go_sem,List.replicate];exact hK _ (by simp only [bG,aH,aI,ai,ak,jj])
include hf hg ho in
theorem IC (h5:f.name=g.name) (h6:f.opt=g.opt) (r:Bool) (fG:cx ab 76 [.agg (ah f.ty),.agg (ah g.ty)] (bl r)) (hK:FR t u i (!r) K) :
  runM ab tt ops 2 ops.toList [pN,pR,pN,pR,pN,pR,pN,pR,pN,pR,pN,pR,pN,pN,pN,pR,pN,pR,pN,pR,pN,pR,pN,pR,pN,pR,pN,pN,pN,pN,pR,pN,pR,pN,pR,pN,pR,pN,pR,pN,pR,pN,pN,pN] { fr:=[.undef,.undef,.ptr 0 0,.ptr 1 0,.undef,num i]++List.replicate 28 .undef++[a0,a,b,c,d]++List.replicate 51 .undef,mem:=[.box (ah t),.box (ah u)]++List.replicate 0 .hole } K:=by
 simp only [Al,Tryz.f76,nw,zE,if_false,if_true,reduceIte,aB] at ho;subst ho;have e5:=nI f.name g.name;have hT:ab.underlying 4=some .bool:=kr;have e6:=fun x y=>Fa (P:=ab) (T:=4) x y hT;rw [dZ h5] at e5;have e7:(f.opt==g.opt)=true:=by simpa using h6
 simp only [ah] at fG;simp only [dG,aH,aI,ah];refine ep 5 (by simp) (by simp) fun K1 lZ=>?_;simp only [bA,hf,hg,bO,ah,e5,e6,e7,go_sem,List.replicate];refine lZ _ ?_;refine ep 5 (by simp) (by simp) fun K1 lZ=>?_;simp only [bA,hf,hg,bO,ah,e5,e6,e7,go_sem,List.replicate];refine lZ _ ?_;refine ep 5 (by simp) (by simp) fun K1 lZ=>?_;simp only [bA,hf,hg,bO,ah,e5,e6,e7,go_sem,List.replicate];refine lZ _ ?_;refine ep 5 (by simp) (by simp) fun K1 lZ=>?_;simp only [bA,hf,hg,bO,ah,e5,e6,e7,go_sem,List.replicate];refine lZ _ ?_;refine ep 5 (by simp) (by simp) fun K1 lZ=>?_;simp only [bA,hf,hg,bO,ah,e5,e6,e7,go_sem,List.replicate];refine lZ _ ?_;refine ep 5 (by simp) (by simp) fun K1 lZ=>?_;simp only [bA,hf,hg,bO,ah,e5,e6,e7,go_sem,List.replicate];refine lZ _ ?_;refine ep 5 (by simp) (by simp) fun K1 lZ=>?_;simp only [bA,hf,hg,bO,ah,e5,e6,e7,go_sem,List.replicate];refine lZ _ ?_;refine ep 5 (by simp) (by simp) fun K1 lZ=>?_;simp only [bA,hf,hg,bO,ah,e5,e6,e7,go_sem,List.replicate];refine lZ _ ?_;simp only [bA,hf,hg,bO,ah,go_sem,List.replicate];refine⟨_,_,by simp only [go_sem,au],.inl (fG),?_⟩;try simp only [go_sem,List.replicate]
 exact hK _ (by simp only [bG,aH,aI,ai,ak,jj])
end
theorem tl:∀ (N:Nat) (t u:Ty),t.size≤N→N≤1048576→cx ab 76 [cd t,cd u] (bl (uJ t u)):=by
 intro N
 induction N with
 | zero=>intro t u h;have:=t.size_pos;omega
 | succ N ih =>
  intro t u hN hb
  have zQ:=t.fc
  have hA:=D3 t.args u.args (by omega) fun i a b ha _=>ih a b (by have:=Ty.D1 ha;omega) (by omega)
  refine jU tt_ok (fn:=Tryz.f76) Tryz.func76 rfl Tryz.call76 ?_
  simp only [dG,cB,Tryz.ntmps76,aj,aA,zA,zF,aH,aI]
  rw [az,az]
  simp only [ah]
  have e2:=nI t.mod u.mod
  have e3:=nI t.name u.name
  refine ag tt_ok fun K hK=>?_
  simp only [go_sem]
  refine hK _ ?_
  refine bz ?_
  by_cases cD:t.kind=u.kind∧t.mod=u.mod∧t.name=u.name∧t.bp.length=u.bp.length
  ·obtain⟨h1,h2,h3,h4⟩:=cD
   have d1:decide (t.kind=u.kind)=true:=decide_eq_true h1
   rw [dZ h2] at e2
   rw [dZ h3] at e3
   have d4:decide ((t.bp.length:Int)=(u.bp.length:Int))=true:=by simp [h4]
   refine ag tt_ok fun K hK=>?_
   simp only [d1,e2,e3,d4,cp,go_sem]
   refine hK _ ?_
   refine ba rfl (ch ?_)
   show eg _ _ _ _ _ _
   refine bz ?_
   refine ag tt_ok fun K hK=>?_
   simp only [go_sem]
   refine hK _ ?_
   refine bY (dd (fun N st=>∃ (i:Nat),N=t.bp.length-i∧i≤t.bp.length∧t.bp.take i=u.bp.take i ∧
    st = { fr:=[.undef,.undef,.ptr 0 0,.ptr 1 0,.undef,num i]++List.replicate 84 .undef,mem:=[.box (ah t),.box (ah u)] }) t.bp.length ?_ ?_)
   ·exact⟨2,[false,false,true,true,false,true],by omega,by simp only [bG,aG,a8,aS,zB,jj],by simp only [bG,aG,a8,aS,zB,jj],0,by omega,by omega,by simp,rfl⟩
   rintro N' st ⟨i,rfl,hi,rP,rfl⟩
   simp only [dG,aH,aI,ah]
   refine bz ?_
   by_cases bR:i<t.bp.length
   ·have hd:=iU bR
    refine ag tt_ok fun K hK=>?_
    simp only [cp,hd,go_sem]
    refine hK _ ?_
    refine ba rfl (ch ?_)
    refine bz (bY ?_)
    obtain⟨f,hf⟩:∃ f,t.bp[i]?=some f:=⟨_,af bR⟩
    obtain⟨g,hg⟩:∃ g,u.bp[i]?=some g:=⟨_,af (by omega)⟩
    have fG:=ih f.ty g.ty (by have:=Ty.D2 hf;omega) (by omega)
    rw [az,az] at fG
    have no:¬ f=g→¬ t=u:=fun h e=>h (by rw [e,hg] at hf;exact (vH hf).symm)
    refine pV tt_ok bU [pN,pR,pN,pR,pN,pR,pN,pR,pN,pR,pN,pR,pN,pN,pN,pR,pN,pR,pN,pR,pN,pR,pN,pR,pN,pR,pN,pN,pN,pN,pR,pN,pR,pN,pR,pN,pR,pN,pR,pN,pR,pN,pN,pN] 0 kr fun K hK=>?_
    have R3:¬ t=u→FR t u i true K:=fun cK fr zY=>by
     refine hK _ ?_
     refine qm 2 ([false,false,true,true,false,true]++List.replicate 78 false++[true]) (by omega) (by rw [zY];simp only [aH,aI,ai,ak,bG,aG,a8,aS,zB,jj]) (by simp only [ah,bG,aG,a8,aS,zB,jj]) ?_
     rw [zY]
     simp only [dG,aH,aI]
     refine ba rfl ?_
     refine ag tt_ok fun K hK=>?_
     simp only [go_sem]
     refine hK _ ?_
     refine bX ⟨.inl rfl,?_⟩
     rw [cE cK];rfl
    by_cases h5:f.name=g.name
    ·by_cases h6:f.opt=g.opt
     ·by_cases h7:f.ty=g.ty
      ·rw [dZ h7] at fG
       refine IC hf hg rfl h5 h6 true fG fun fr zY=>?_
       refine hK _ ?_
       refine qm 2 ([false,false,true,true,false,true]++List.replicate 78 false++[true]) (by omega) (by rw [zY];simp only [aH,aI,ai,ak,bG,aG,a8,aS,zB,jj]) (by simp only [ah,bG,aG,a8,aS,zB,jj]) ?_
       rw [zY]
       simp only [dG,aH,aI]
       refine ba rfl (ch ?_)
       show eg _ _ _ _ _ _
       refine bd tt_ok fun K hK=>?_
       simp only [go_sem]
       refine hK _ ?_
       have im:=a7 i (by omega)
       rw [im]
       have hfg:f=g:=(Fd.ext_iff f g).2 ⟨h5,h6,h7⟩
       exact⟨t.bp.length-(i+1),by omega,2,[false,false,true,true,false,true],by omega,by simp only [bG,aG,a8,aS,zB,jj],by simp only [ah,bG,aG,a8,aS,zB,jj],i+1,rfl,bR,by rw [bn,bn,rP,hf,hg,hfg],rfl⟩
      rw [cE h7] at fG
      exact IC hf hg rfl h5 h6 false fG (R3 (no fun e=>h7 ((Fd.ext_iff f g).1 e).2.2))
     exact OG hf hg rfl h5 h6 (R3 (no fun e=>h6 ((Fd.ext_iff f g).1 e).2.1))
    exact Li hf hg rfl h5 (R3 (no fun e=>h5 ((Fd.ext_iff f g).1 e).1))
   have hd:=iV bR
   refine ag tt_ok fun K hK=>?_
   simp only [cp,hd,go_sem]
   refine hK _ ?_
   refine ba rfl (eH ?_)
   have iC:i=t.bp.length:=by omega
   subst iC
   show eg _ _ _ _ _ _
   refine ag tt_ok fun K hK=>?_
   simp only [go_sem]
   refine .inl ⟨_,_,by simp only [go_sem,au],hA,?_⟩
   try simp only [go_sem]
   refine hK _ ?_
   refine bX ⟨.inl rfl,?_⟩
   have E6:t.bp=u.bp:=by
    rw [au] at rP
    rw [rP,h4,au]
   by_cases h8:t.args=u.args
   ·rw [dZ h8,dZ ((Ty.ext_iff t u).2 ⟨h1,h2,h3,h8,E6⟩)];rfl
   rw [cE h8,cE fun e=>h8 ((Ty.ext_iff t u).1 e).2.2.2.1];rfl
  have fin:∀ x,x=false→uJ t u=x:=fun x hx=>by
   rw [hx]
   refine cE fun e=>cD ?_
   obtain⟨h1,h2,h3,-,h5⟩:=(Ty.ext_iff t u).1 e
   exact⟨h1,h2,h3,by rw [h5]⟩
  rw [fin false rfl]
  have no:decide (t.kind=u.kind)=true→uJ t.mod u.mod=true→uJ t.name u.name=true→decide ((t.bp.length:Int)=(u.bp.length:Int))=true→False:=fun a b c d =>
   cD ⟨of_decide_eq_true a,Ak.1 b,Ak.1 c,by have:=of_decide_eq_true d;omega⟩
  cases d1:decide (t.kind=u.kind) with
  | false =>
   refine ag tt_ok fun K hK=>?_
   simp only [d1,go_sem]
   refine hK _ ?_
   refine ba rfl ?_
   refine ag tt_ok fun K hK=>?_
   simp only [go_sem]
   refine hK _ ?_
   exact bX ⟨.inl rfl,rfl⟩
  | true =>
   cases d2:uJ t.mod u.mod with
   | false =>
    rw [d2] at e2
    refine ag tt_ok fun K hK=>?_
    simp only [d1,e2,go_sem]
    refine hK _ ?_
    refine ba rfl ?_
    refine ag tt_ok fun K hK=>?_
    simp only [go_sem]
    refine hK _ ?_
    exact bX ⟨.inl rfl,rfl⟩
   | true =>
    rw [d2] at e2
    cases d3:uJ t.name u.name with
    | false =>
     rw [d3] at e3
     refine ag tt_ok fun K hK=>?_
     simp only [d1,e2,e3,go_sem]
     refine hK _ ?_
     refine ba rfl ?_
     refine ag tt_ok fun K hK=>?_
     simp only [go_sem]
     refine hK _ ?_
     exact bX ⟨.inl rfl,rfl⟩
    | true =>
     rw [d3] at e3
     cases d4:decide ((t.bp.length:Int)=(u.bp.length:Int)) with
     | false =>
      refine ag tt_ok fun K hK=>?_
      simp only [d1,e2,e3,d4,cp,go_sem]
      refine hK _ ?_
      refine ba rfl ?_
      refine ag tt_ok fun K hK=>?_
      simp only [go_sem]
      refine hK _ ?_
      exact bX ⟨.inl rfl,rfl⟩
     | true=>exact (no d1 d2 d3 d4).elim
end
section
attribute [local irreducible] runM fC oa
noncomputable def Dc.clear (d:Dc):Bool:=uJ d.lower d.upper&&uJ d.upper d.type
theorem Dc.OH (d:Dc):(uJ d.lower d.type&&uJ d.upper d.type)=d.clear:=by rw [ju];simp only [Dc.clear,aD,Ak];exact⟨fun h=>⟨h.1.trans h.2.symm,h.2⟩,fun h=>⟨h.1.trans h.2,h.2⟩⟩
noncomputable def Dc.size (d:Dc):Nat :=
 1+d.params.length+(if d.kind=0 then d.type.size+(if d.clear=true then 0 else d.lower.size+d.upper.size)
  else if d.kind=1 then d.type.size+d.expr.size+bh (fun p=>p.bound.size) d.params else 0)
theorem Dc.size_le (d:Dc):d.size≤d.cC:=by
 have:=Ex.mu _ d.expr (ax _);unfold Dc.size Dc.cC;split;·split <;> omega
 split <;> omega
noncomputable def Md.size (m:Md):Nat:=1+m.imports.length+bh Dc.size m.decls
theorem OI (d:Dc) (hd:d.cC≤1048576):cx ab 176 [bI d] (bl d.clear):=by unfold Dc.cC at hd;have hA:=IB d.lower.size d.lower d.upper (ax _) (by omega);have hB:=IB d.upper.size d.upper d.type (ax _) (by omega);rw [az,az] at hA hB;simp only [ah] at hA hB;refine jU tt_ok (fn:=Tryz.f176) Tryz.func176 rfl Tryz.call176 ?_;simp only [dG,cB,Tryz.ntmps176,aj,aA,zA,zF,aH,aI];rw [wQ];simp only [dG,fi,ah,aJ];refine ag tt_ok fun K hK=>?_;simp only [go_sem];refine hK _ ?_;unfold Dc.clear;cases h1:uJ d.lower d.upper with|false =>rw [h1] at hA;refine ag tt_ok fun K hK=>?_;simp only [go_sem];refine .inl ⟨_,_,by simp only [go_sem,au],hA,?_⟩;(try simp only [go_sem]);refine hK _ ?_;exact bX ⟨.inl rfl,rfl⟩|true =>rw [h1] at hA;refine ag tt_ok fun K hK=>?_;simp only [go_sem];refine .inl ⟨_,_,by simp only [go_sem,au],hA,?_⟩;(try simp only [go_sem]);refine .inl ⟨_,_,by simp only [go_sem,au],hB,?_⟩;(try simp only [go_sem]);refine hK _ ?_;exact bX ⟨.inl rfl,rfl⟩
theorem OJ (d:Dc) (hd:d.cC≤1048576):cx ab 30 [bI d] (bl d.clear):=by unfold Dc.cC at hd;have hA:=tl d.lower.size d.lower d.type (ax _) (by omega);have hB:=tl d.upper.size d.upper d.type (ax _) (by omega);rw [az,az] at hA hB;simp only [ah] at hA hB;rw [← Dc.OH];refine jU tt_ok (fn:=Tryz.f30) Tryz.func30 rfl Tryz.call30 ?_;simp only [dG,cB,Tryz.ntmps30,aj,aA,zA,zF,aH,aI];rw [wQ];simp only [dG,fi,ah,aJ];refine ag tt_ok fun K hK=>?_;simp only [go_sem];refine hK _ ?_;cases h1:uJ d.lower d.type with|false =>rw [h1] at hA;refine ag tt_ok fun K hK=>?_;simp only [go_sem];refine .inl ⟨_,_,by simp only [go_sem,au],hA,?_⟩;(try simp only [go_sem]);refine hK _ ?_;exact bX ⟨.inl rfl,rfl⟩|true =>rw [h1] at hA;refine ag tt_ok fun K hK=>?_;simp only [go_sem];refine .inl ⟨_,_,by simp only [go_sem,au],hA,?_⟩;(try simp only [go_sem]);refine .inl ⟨_,_,by simp only [go_sem,au],hB,?_⟩;(try simp only [go_sem]);refine hK _ ?_;exact bX ⟨.inl rfl,rfl⟩
end
structure Fo where
  fl:ByteArray
  ty:Int
  lb:Bool
  kd:Int
def jq (k:Int):Option Fo :=
  if k=0 then some ⟨⟨#[98]⟩,0,false,0⟩ else if k=1 then some ⟨⟨#[120]⟩,0,false,0⟩ else if k=2 then some ⟨⟨#[98]⟩,0,false,0⟩ else if k=3 then some ⟨⟨#[110]⟩,0,false,0⟩
  else if k=4 then some ⟨⟨#[109,110]⟩,-1,false,0⟩ else if k=5 then some ⟨⟨#[]⟩,0,true,0⟩ else if k=6 then some ⟨⟨#[110]⟩,0,false,1⟩ else if k=7 then some ⟨⟨#[110]⟩,0,false,1⟩
  else if k=8 then some ⟨⟨#[116,111]⟩,0,true,1⟩ else if k=9 then some ⟨⟨#[]⟩,0,true,1⟩ else if k=10 then some ⟨⟨#[110]⟩,0,false,2⟩ else if k=11 then some ⟨⟨#[]⟩,1,false,1⟩
  else if k=12 then some ⟨⟨#[]⟩,1,false,3⟩ else if k=13 then some ⟨⟨#[118]⟩,1,true,1⟩ else if k=14 then some ⟨⟨#[]⟩,1,false,-1⟩ else if k=15 then some ⟨⟨#[110,120]⟩,1,false,3⟩
  else if k=16 then some ⟨⟨#[110]⟩,0,false,-1⟩ else none
def cy (fl s:ByteArray):Bool:=Lib.contains fl.data.toList s.data.toList
def C9:List ByteArray:=[⟨#[43]⟩,⟨#[45]⟩,⟨#[42]⟩,⟨#[60]⟩,⟨#[61,61]⟩,⟨#[61,61,61]⟩,⟨#[43,43]⟩,⟨#[97,110,100]⟩,⟨#[111,114]⟩]
def FT:List ByteArray:=[⟨#[110,111,116]⟩,⟨#[108,101,110,103,116,104]⟩]
def ID (s:ByteArray):Int:=if jC s C9=true then 2 else if jC s FT=true then 1 else 0
def lM (l:List Lb):Nat:=(l.filter Lb.opt).length
def lN (x:Ex) (kd:Int):Int:=if x.kind=16 then ID x.name else if x.kind=8 then 1+lM x.labels else if kd<0 then -1 else kd+x.labels.length
def mw (fl:ByteArray) (l:Lb):Bool:=!jQ l.var && !cy fl ⟨#[118]⟩ || !eh l.ty && !cy fl ⟨#[116]⟩||l.opt && !cy fl ⟨#[111]⟩
def q1 (x:Ex) (fl:ByteArray):Bool:=!jQ x.mod && !cy fl ⟨#[109]⟩
def q2 (x:Ex) (fl:ByteArray):Bool:=!jQ x.name && !cy fl ⟨#[110]⟩
def q3 (x:Ex) (fl:ByteArray):Bool:=!jQ x.text && !cy fl ⟨#[120]⟩
def q4 (x:Ex) (fl:ByteArray):Bool:=!decide (x.num=0) && !cy fl ⟨#[98]⟩
def q5 (x:Ex):Bool:=decide (x.kind=2) && !decide (x.num=0) && !decide (x.num=1)
def q6 (x:Ex) (kd:Int):Bool:=decide (x.kind=16)&&decide (lN x kd=0)
def q7 (x:Ex) (ty:Int):Bool:=decide (0≤ty) && !decide ((x.types.length:Int)=ty)
def q8 (x:Ex) (lb:Bool):Bool:=decide (0<x.labels.length) && !lb
def q9 (x:Ex) (kd:Int):Bool:=decide (0≤lN x kd) && !decide ((x.kids.length:Int)=lN x kd)
def mJ (x:Ex) (fl:ByteArray) (ty:Int) (lb:Bool) (kd:Int):Bool :=
  !q1 x fl && !q2 x fl && !q3 x fl && !q4 x fl && !q5 x && !q6 x kd && !q7 x ty && !q8 x lb && !q9 x kd && !(x.labels.any (mw fl))
def uK (fl:ByteArray) (l:Lb):Bool:=!dJ l.name||cy fl ⟨#[118]⟩ && !dJ l.var
def m1 (x:Ex) (fl:ByteArray):Bool:=cy fl ⟨#[109]⟩ && !nT x.mod
def m2 (x:Ex) (fl:ByteArray):Bool:=cy fl ⟨#[110]⟩ && !decide (x.kind=16) && !dJ x.name
def m3 (x:Ex):Bool:=decide (x.kind=15) && !dJ x.text
def wT (x:Ex) (fl:ByteArray):Bool:=m1 x fl||m2 x fl||m3 x||x.labels.any (uK fl)
def nN (x:Ex):Int:=match jq x.kind with
  | none=>1
  | some f=>if mJ x f.fl f.ty f.lb f.kd=false then 1
    else if 32<x.labels.length∨8<x.types.length∨65536<x.text.size then 7
    else if wT x f.fl=true then 4
    else if iN (x.labels.map Lb.name)≠0 then iN (x.labels.map Lb.name)
    else if x.kind=15∧x.name=x.text then 5
    else bT n5 x.own
noncomputable def IE (e:Ex):Int:=if 4096<e.size∨32<e.depth then 7 else bT nN e.nodes
def mK (x:Ex):Bool:=decide (x.kind=0)&&jQ x.mod&&jQ x.name&&jQ x.text&&decide (x.num=0)&&decide (x.types.length=0)&&decide (x.labels.length=0)&&decide (x.kids.length=0)
def pK (d:Dc):Bool :=
  !(d.deprecated && !d.exported) && !(!jQ d.note && !d.deprecated) &&
  (if d.kind=0 then !(d.params.any fun p=>!eh p.bound) && !(d.params.any fun p=>decide (p.dD<0)||decide (2<p.dD))&&mK d.expr&&jQ d.mod&&jQ d.target
   else if d.kind=1 then !(d.params.any fun p=>!decide (p.dD=0))&&eh d.lower&&eh d.upper&&jQ d.mod&&jQ d.target
   else if d.kind=2 then decide (d.params.length=0)&&eh d.lower&&eh d.upper&&eh d.type&&mK d.expr else false)
def IF (d:Dc):Bool :=
  !(d.params.any fun p=>!ka p.name) &&
  (if d.kind=0 then ka d.name else if d.kind=1 then dJ d.name
   else (dJ d.name&&dJ d.target||ka d.name&&ka d.target) && !jQ d.mod&&nT d.mod)
noncomputable def qE (before:List Dc) (d:Dc):Int :=
  if pK d=false then 1
  else if 8<d.params.length∨65536<d.note.size then 7
  else if IF d=false then 4
  else if (before.any fun x=>decide (x.name=d.name))=true then 5
  else if qD (d.params.map Pm.name)=true then 5
  else if bT n5 ([d.lower,d.upper,d.type]++d.params.map Pm.bound)≠0 then bT n5 ([d.lower,d.upper,d.type]++d.params.map Pm.bound)
  else IE d.expr
def pc (path:ByteArray) (before:List Im) (x:Im):Int :=
  if dY x.path=false∨dJ x.alias=false then 4
  else if x.path=path then 14
  else if (before.any fun y=>decide (y.path=x.path)||decide (y.alias=x.alias))=true then 5 else 0
def gp {α:Type} (f:List α→α→Int):List α→List α→Nat×Int
  | _,[]=>(0,0)
  | b,x :: r=>if f b x=0 then (if (gp f (b++[x]) r).2=0 then (0,0) else ((gp f (b++[x]) r).1+1,(gp f (b++[x]) r).2)) else (0,f b x)
noncomputable def vG (m:Md):Int :=
  if dY m.path=false then 4
  else if 16<m.imports.length∨64<m.decls.length∨4096<m.size then 7
  else (gp (pc m.path) [] m.imports).2
noncomputable def ov (m:Md):Int×Int:=if vG m≠0 then (-1,vG m) else (((gp qE [] m.decls).1:Nat),(gp qE [] m.decls).2)
section
mutual
def Ty.res (g:Ty→Option ByteArray):Ty→Ty
 | .mk k m n ar fs=>match (if k=10∨k=9 then g (.mk k m n ar fs) else some m) with
  | some m'=>.mk k m' n (FU g ar) (FV g fs)
  | none=>.mk 9 ⟨#[]⟩ n [] []
def FU (g:Ty→Option ByteArray):List Ty→List Ty
 | []=>[]
 | t :: r=>t.res g :: FU g r
def Fd.res (g:Ty→Option ByteArray):Fd→Fd
 | .mk n t o=>.mk n (t.res g) o
def FV (g:Ty→Option ByteArray):List Fd→List Fd
 | []=>[]
 | f :: r=>f.res g :: FV g r
end
section
variable {S:Type}
mutual
def Ty.fold (g:Ty→Option ByteArray) (s:S→Ty→S):Ty→S→S
 | .mk k m n ar fs,a=>match (if k=10∨k=9 then g (.mk k m n ar fs) else some m) with
  | some _=>wU g s fs (wV g s ar (if k=10∨k=9 then s a (.mk k m n ar fs) else a))
  | none=>s a (.mk k m n ar fs)
def wV (g:Ty→Option ByteArray) (s:S→Ty→S):List Ty→S→S
 | [],a=>a
 | t :: r,a=>wV g s r (t.fold g s a)
def Fd.fold (g:Ty→Option ByteArray) (s:S→Ty→S):Fd→S→S
 | .mk _ t _,a=>t.fold g s a
def wU (g:Ty→Option ByteArray) (s:S→Ty→S):List Fd→S→S
 | [],a=>a
 | f :: r,a=>wU g s r (f.fold g s a)
end
theorem Lj (g:Ty→Option ByteArray) (ts:List Ty):FU g ts=ts.map (Ty.res g):=by induction ts with|nil=>rfl|cons t r ih=>simp [FU,ih]
theorem Lk (g:Ty→Option ByteArray) (ts:List Fd):FV g ts=ts.map (Fd.res g):=by induction ts with|nil=>rfl|cons t r ih=>simp [FV,ih]
theorem BP (g:Ty→Option ByteArray) (s:S→Ty→S):∀ (ts:List Ty) (a:S),wV g s ts a=ts.foldl (fun a t=>t.fold g s a) a
 | [],_=>by rw [wV];rfl
 | t :: r,a=>by rw [wV,BP g s r,fq]
theorem BQ (g:Ty→Option ByteArray) (s:S→Ty→S):∀ (ts:List Fd) (a:S),wU g s ts a=ts.foldl (fun a f=>f.ty.fold g s a) a
 | [],_=>by rw [wU];rfl
 | .mk n t o :: r,a=>by rw [wU,BQ g s r,Fd.fold,fq];rfl
def wW (g:Ty→Option ByteArray) (t:Ty):Option ByteArray:=if t.kind=10∨t.kind=9 then g t else some t.mod
theorem Ty.ke (g:Ty→Option ByteArray) (t:Ty):t.res g=match wW g t with
  | some m'=>.mk t.kind m' t.name (t.args.map (Ty.res g)) (t.bp.map (Fd.res g))
  | none=>.mk 9 ⟨#[]⟩ t.name [] []:=by obtain⟨k,m,n,ar,fs⟩:=t;rw [Ty.res,Lj,Lk];rfl
theorem Ty.fold_eq (g:Ty→Option ByteArray) (s:S→Ty→S) (t:Ty) (a:S):t.fold g s a=match wW g t with
  | some _=>t.bp.foldl (fun a f=>f.ty.fold g s a) (t.args.foldl (fun a t=>t.fold g s a) (if t.kind=10∨t.kind=9 then s a t else a))
  | none=>s a t:=by obtain⟨k,m,n,ar,fs⟩:=t;rw [Ty.fold,BP,BQ];rfl
theorem Fd.ke (g:Ty→Option ByteArray) (f:Fd):f.res g = .mk f.name (f.ty.res g) f.opt:=by obtain⟨n,t,o⟩:=f;rw [Fd.res];rfl
theorem Fd.IG (g:Ty→Option ByteArray) (f:Fd):(f.res g).name=f.name:=by rw [Fd.ke];rfl
theorem Fd.Ll (g:Ty→Option ByteArray) (f:Fd):(f.res g).ty=f.ty.res g:=by rw [Fd.ke];rfl
theorem Fd.M4 (g:Ty→Option ByteArray) (f:Fd):(f.res g).opt=f.opt:=by rw [Fd.ke];rfl
def Lb.res (g:Ty→Option ByteArray) (l:Lb):Lb := { l with ty:=l.ty.res g }
def lg (k:Int) (ls:List Lb) (name text:ByteArray) (nk:Nat) (loc:List ByteArray) (i:Nat):List ByteArray :=
 if k=8∧i+1=nk then (ls.map Lb.name).reverse++loc
 else if k=10∧i=1 then name :: loc
 else if k=13∧0<i then ((ls[i-1]?).elim ⟨#[]⟩ Lb.var) :: loc
 else if k=15∧i=2 then text :: name :: loc
 else loc
abbrev D4:=List ByteArray→Ex→Int×ByteArray
mutual
def Ex.res (g:Ty→Option ByteArray) (h:D4):Ex→List ByteArray→Ex
 | .mk k m n t i ts ls ks,loc=>.mk (if k=3∨k=4 then h loc (.mk k m n t i ts ls ks) else (k,m)).1 (if k=3∨k=4 then h loc (.mk k m n t i ts ls ks) else (k,m)).2 n t i (ts.map (Ty.res g))
   (if (if k=3∨k=4 then h loc (.mk k m n t i ts ls ks) else (k,m)).1=8 then ls.map (Lb.res g) else ls)
   (dR g h (lg (if k=3∨k=4 then h loc (.mk k m n t i ts ls ks) else (k,m)).1 ls n t ks.length loc) 0 ks)
def dR (g:Ty→Option ByteArray) (h:D4) (lo:Nat→List ByteArray):Nat→List Ex→List Ex
 | _,[]=>[]
 | i,x :: r=>x.res g h (lo i) :: dR g h lo (i+1) r
end
mutual
def Ex.fold (g:Ty→Option ByteArray) (h:D4) (s:S→Ty→S) (v:List ByteArray→S→Ex→S):Ex→List ByteArray→S→S
 | .mk k m n t i ts ls ks,loc,a =>
  eR g h s v (lg (if k=3∨k=4 then h loc (.mk k m n t i ts ls ks) else (k,m)).1 ls n t ks.length loc) 0 ks
   ((if (if k=3∨k=4 then h loc (.mk k m n t i ts ls ks) else (k,m)).1=8 then ls else []).foldl (fun a l=>l.ty.fold g s a)
    (ts.foldl (fun a t=>t.fold g s a) (if k=3∨k=4 then v loc a (.mk k m n t i ts ls ks) else a)))
def eR (g:Ty→Option ByteArray) (h:D4) (s:S→Ty→S) (v:List ByteArray→S→Ex→S) (lo:Nat→List ByteArray):Nat→List Ex→S→S
 | _,[],a=>a
 | i,x :: r,a=>eR g h s v lo (i+1) r (x.fold g h s v (lo i) a)
end
def kC (h:D4) (loc:List ByteArray) (x:Ex):Int×ByteArray:=if x.kind=3∨x.kind=4 then h loc x else (x.kind,x.mod)
def Y4 (g:Ty→Option ByteArray) (k:Int) (ls:List Lb):List Lb:=if k=8 then ls.map (Lb.res g) else ls
def Vg (h:D4) (x:Ex) (loc:List ByteArray):Nat→List ByteArray:=lg (kC h loc x).1 x.labels x.name x.text x.kids.length loc
theorem Ex.ke (g:Ty→Option ByteArray) (h:D4) (x:Ex) (loc:List ByteArray) :
  x.res g h loc = .mk (kC h loc x).1 (kC h loc x).2 x.name x.text x.num (x.types.map (Ty.res g)) (Y4 g (kC h loc x).1 x.labels) (dR g h (Vg h x loc) 0 x.kids):=by obtain⟨k,m,n,t,i,ts,ls,ks⟩:=x;rw [Ex.res];rfl
theorem Ex.fold_eq (g:Ty→Option ByteArray) (h:D4) (s:S→Ty→S) (v:List ByteArray→S→Ex→S) (x:Ex) (loc:List ByteArray) (a:S) :
  x.fold g h s v loc a=eR g h s v (Vg h x loc) 0 x.kids ((if (kC h loc x).1=8 then x.labels else []).foldl (fun a l=>l.ty.fold g s a)
   (x.types.foldl (fun a t=>t.fold g s a) (if x.kind=3∨x.kind=4 then v loc a x else a))):=by obtain⟨k,m,n,t,i,ts,ls,ks⟩:=x;rw [Ex.fold];rfl
theorem iY (g:Ty→Option ByteArray) (h:D4) (lo:Nat→List ByteArray):∀ (ks:List Ex) (i:Nat),(dR g h lo i ks).length=ks.length
 | [],i=>by rw [dR]
 | x :: r,i=>by rw [dR,aj,iY g h lo r,aj]
theorem ze (g:Ty→Option ByteArray) (h:D4) (lo:Nat→List ByteArray) (x:Ex):∀ (ks:List Ex) (i:Nat),dR g h lo i (ks++[x])=dR g h lo i ks++[x.res g h (lo (i+ks.length))]
 | [],i=>by simp [dR]
 | y :: r,i=>by
  rw [ai,dR,ze g h lo x r (i+1),dR,aj,show i+1+r.length=i+(r.length+1) by omega];rfl
theorem wX (g:Ty→Option ByteArray) (h:D4) (s:S→Ty→S) (v:List ByteArray→S→Ex→S) (lo:Nat→List ByteArray) (x:Ex):∀ (ks:List Ex) (i:Nat) (a:S),eR g h s v lo i (ks++[x]) a=x.fold g h s v (lo (i+ks.length)) (eR g h s v lo i ks a)
 | [],i,a=>by simp [eR]
 | y :: r,i,a=>by
  rw [ai,eR,wX g h s v lo x r (i+1),eR,aj,show i+1+r.length=i+(r.length+1) by omega]
theorem zf {g:Ty→Option ByteArray} {h:D4} {lo:Nat→List ByteArray} {ks:List Ex} {i:Nat} {x:Ex} (hx:ks[i]?=some x):dR g h lo 0 (ks.take (i+1))=dR g h lo 0 (ks.take i)++[x.res g h (lo i)]:=by have bR:=(aq.1 hx).1;rw [bn,hx,kH,ze,cn,asU (by omega),aZ]
theorem wY {g:Ty→Option ByteArray} {h:D4} {s:S→Ty→S} {v:List ByteArray→S→Ex→S} {lo:Nat→List ByteArray} {ks:List Ex} {i:Nat} {x:Ex} {a:S} (hx:ks[i]?=some x):eR g h s v lo 0 (ks.take (i+1)) a=x.fold g h s v (lo i) (eR g h s v lo 0 (ks.take i) a):=by have bR:=(aq.1 hx).1;rw [bn,hx,kH,wX,cn,asU (by omega),aZ]
theorem iZ {α:Type} {f:S→α→S} {l:List α} {i:Nat} {x:α} {a:S} (hx:l[i]?=some x):(l.take (i+1)).foldl f a=f ((l.take i).foldl f a) x:=by rw [bn,hx,kH,Dj];rfl
end
def fj (G:List ByteArray→Ty→Option ByteArray):List ByteArray→List Pm→List Pm
 | _,[]=>[]
 | vs,p :: r => { p with bound:=p.bound.res (G vs) } :: fj G (vs++[p.name]) r
section
variable {S:Type}
def gG (G:List ByteArray→Ty→Option ByteArray) (s:List ByteArray→S→Ty→S):List ByteArray→List Pm→S→S
 | _,[],a=>a
 | vs,p :: r,a=>gG G s (vs++[p.name]) r (p.bound.fold (G vs) (s vs) a)
theorem zh (G:List ByteArray→Ty→Option ByteArray) (p:Pm):∀ (l:List Pm) (vs:List ByteArray),fj G vs (l++[p])=fj G vs l++[{ p with bound:=p.bound.res (G (vs++l.map Pm.name)) }]
 | [],vs=>by simp [fj]
 | q :: r,vs=>by simp [fj,zh G p r]
theorem wZ (G:List ByteArray→Ty→Option ByteArray) (s:List ByteArray→S→Ty→S) (p:Pm):∀ (l:List Pm) (vs:List ByteArray) (a:S),gG G s vs (l++[p]) a=p.bound.fold (G (vs++l.map Pm.name)) (s (vs++l.map Pm.name)) (gG G s vs l a)
 | [],vs,a=>by simp [gG]
 | q :: r,vs,a=>by simp [gG,wZ G s p r]
theorem gq (G:List ByteArray→Ty→Option ByteArray):∀ (l:List Pm) (vs:List ByteArray),(fj G vs l).length=l.length
 | [],_=>rfl
 | p :: r,vs=>by rw [fj,aj,gq G r,aj]
theorem zi {G:List ByteArray→Ty→Option ByteArray} {l:List Pm} {i:Nat} {p:Pm} (hx:l[i]?=some p):fj G [] (l.take (i+1))=fj G [] (l.take i)++[{ p with bound:=p.bound.res (G ((l.take i).map Pm.name)) }]:=by rw [bn,hx,kH,zh,ak]
theorem w4 {G:List ByteArray→Ty→Option ByteArray} {s:List ByteArray→S→Ty→S} {l:List Pm} {i:Nat} {p:Pm} {a:S} (hx:l[i]?=some p):gG G s [] (l.take (i+1)) a=p.bound.fold (G ((l.take i).map Pm.name)) (s ((l.take i).map Pm.name)) (gG G s [] (l.take i) a):=by rw [bn,hx,kH,wZ,ak]
end
end
def jX (a b:Int):Int:=if a=0 then b else a
theorem kR (a b c:Int):jX (jX a b) c=jX a (jX b c):=by unfold jX;split <;> (try split) <;> simp_all
theorem oS (a:Int):jX a 0=a:=by unfold jX;split <;> simp_all
theorem fS (a:Int):jX 0 a=a:=by unfold jX;simp
def kj (a:ByteArray):List (ByteArray×ByteArray)→Option ByteArray
 | []=>none
 | e :: r=>if e.1=a then some e.2 else kj a r
theorem tV (a:ByteArray) (e:ByteArray×ByteArray) (r:List (ByteArray×ByteArray)):kj a (e :: r)=if e.1=a then some e.2 else kj a r:=by rw [kj]
def iy (g:List (ByteArray×ByteArray)):List (ByteArray×V):=g.map fun e=>(e.1,str e.2)
theorem IH (a:ByteArray):∀ g:List (ByteArray×ByteArray),getM a (iy g)=(kj a g).map str
 | []=>rfl
 | e :: r=>by
  show getM a ((e.1,str e.2) :: iy r)=_
  unfold getM kj
  dsimp only
  split
  ·rfl
  exact IH a r
def BR (a:ByteArray):List (ByteArray×ByteArray)→Nat→Option Nat
 | [],_=>none
 | e :: r,i=>if e.1=a then some i else BR a r (i+1)
def Lm (a v:ByteArray) (g:List (ByteArray×ByteArray)):List (ByteArray×ByteArray):=match BR a g 0 with
 | none=>g++[(a,v)]
 | some i=>g.set i (a,v)
theorem D5 (a:ByteArray):∀ (g:List (ByteArray×ByteArray)) (n:Nat),(lx a (iy g) n).map (fun p=>p.1)=BR a g n
 | [],_=>rfl
 | e :: r,n=>by
  show (lx a ((e.1,str e.2) :: iy r) n).map _=_
  unfold lx BR
  dsimp only
  split
  ·rfl
  exact D5 a r (n+1)
theorem R4 (a v:ByteArray) (g:List (ByteArray×ByteArray)):Ik a (str v) (iy g)=iy (Lm a v g):=by unfold Ik Lm;rw [← D5];cases lx a (iy g) 0 with|none=>simp [iy]|some p=>simp [iy,gg]
theorem D6 {a:ByteArray}:∀ {g:List (ByteArray×ByteArray)} {n:Nat},BR a g n=none→kj a g=none
 | [],_,_=>rfl
 | e :: r,n,h=>by
  unfold BR at h
  unfold kj
  split at h
  ·cases h
  rename_i cK;rw [if_neg cK];exact D6 h
theorem II (a:ByteArray) (g g':List (ByteArray×ByteArray)):kj a (g++g')=(kj a g).or (kj a g'):=by induction g with|nil=>rfl|cons e r ih =>rw [ai,tV,tV];split;(·rfl);exact ih
theorem IJ {b a v:ByteArray}:∀ {g:List (ByteArray×ByteArray)} {n i:Nat},BR a g n=some i→kj b (g.set (i-n) (a,v))=if a=b then some v else kj b g
 | [],_,_,h=>by cases h
 | e :: r,n,i,h=>by
  unfold BR at h
  split at h
  ·rename_i he
   cases h
   rw [cI,eD]
   unfold kj
   dsimp only
   rw [he]
   split <;> rfl
  rename_i he
  have hle:n+1≤i:=by
   clear he
   have key:∀ (g:List (ByteArray×ByteArray)) (n i:Nat),BR a g n=some i→n≤i:=by
    intro g
    induction g with
    | nil=>intro n i h;cases h
    | cons e r ih =>
     intro n i h
     unfold BR at h
     split at h
     ·cases h;exact ax _
     have:=ih _ _ h;omega
   exact key _ _ _ h
  rw [show i-n=(i-(n+1))+1 by omega,je]
  have ih:=IJ (b:=b) (v:=v) h
  rw [tV,tV,ih]
  by_cases hb:e.1=b
  ·rw [if_pos hb,if_pos hb,if_neg fun h:a=b=>he (hb.trans h.symm)]
  rw [if_neg hb,if_neg hb]
theorem IK (a v b:ByteArray) (g:List (ByteArray×ByteArray)):kj b (Lm a v g)=if a=b then some v else kj b g:=by unfold Lm;cases h:BR a g 0 with|none =>dsimp only;rw [II];have h1:=D6 h;have e1:kj b [(a,v)]=if a=b then some v else none:=rfl;rw [e1];by_cases hb:a=b;(·subst hb;rw [h1,if_pos rfl];rfl);rw [if_neg hb,if_neg hb,Option.or_none]|some i =>dsimp only;have:=IJ (b:=b) (v:=v) h;rw [UW] at this;exact this
def gB (l:List Im):List (ByteArray×ByteArray):=l.foldl (fun g x=>Lm x.alias x.path g) []
theorem OK {l:List Im} {i:Nat} {x:Im} (h:l[i]?=some x):gB (l.take (i+1))=Lm x.alias x.path (gB (l.take i)):=by unfold gB;rw [bn,h,kH,Dj];rfl
structure Rv where
 mp:ByteArray
 dM:List Im
 decls:List Dc
 idx:Nat
def tW (X:Rv) (s:ByteArray):ByteArray:=(kj s (gB X.dM)).getD ⟨#[]⟩
def yh (X:Rv) (s:ByteArray):Int:=if (kj s (gB X.dM)).isSome then 0 else 6
def Am:List Dc→ByteArray→Int
 | [],_ => -1
 | d :: r,s=>if d.name=s then 0 else if Am r s<0 then -1 else Am r s+1
def gR (X:Rv) (vs:List ByteArray) (t:Ty):Option ByteArray:=if t.mod=⟨#[]⟩ then (if jC t.name vs=true then none else some X.mp) else some (tW X t.mod)
def tE (X:Rv) (vs:List ByteArray) (t:Ty):Int:=if t.mod=⟨#[]⟩ then (if jC t.name vs=true then (if 0<t.args.length then 11 else 0) else if Am X.decls t.name<0 then 6 else 0) else yh X t.mod
def sR (X:Rv) (vs:List ByteArray) (e:Int) (t:Ty):Int:=jX e (tE X vs t)
def ve (X:Rv) (s:ByteArray):Int:=if Am X.decls s<0 then 6 else if (X.idx:Int)≤Am X.decls s then 14 else 0
def hR (X:Rv) (loc:List ByteArray) (x:Ex):Int×ByteArray:=if x.mod=⟨#[]⟩ then (if jC x.name loc=true then (x.kind,x.mod) else (4,X.mp)) else (x.kind,tW X x.mod)
def vE (X:Rv) (loc:List ByteArray) (x:Ex):Int:=if x.mod=⟨#[]⟩ then (if jC x.name loc=true then (if x.kind=4 then 11 else 0) else ve X x.name) else yh X x.mod
def vR (X:Rv) (loc:List ByteArray) (e:Int) (x:Ex):Int:=jX e (vE X loc x)
def ey (d:Dc):List ByteArray:=d.params.map Pm.name
noncomputable def od (X:Rv) (d:Dc):Dc :=
 { d with mod:=(if d.kind=2 then tW X d.mod else d.mod),params:=fj (gR X) [] d.params,lower:=d.lower.res (gR X (ey d)),upper:=d.upper.res (gR X (ey d)),type:=d.type.res (gR X (ey d)),expr:=d.expr.res (gR X (ey d)) (hR X) [] }
noncomputable def kS (X:Rv) (d:Dc):Int :=
 d.expr.fold (gR X (ey d)) (hR X) (sR X (ey d)) (vR X) [] (d.type.fold (gR X (ey d)) (sR X (ey d)) (d.upper.fold (gR X (ey d)) (sR X (ey d)) (d.lower.fold (gR X (ey d)) (sR X (ey d)) (gG (gR X) (sR X) [] d.params (if d.kind=2 then yh X d.mod else 0)))))
section
def gr:List ByteArray→V
 | []=>.sc (.pointer none)
 | s :: r=>.eW [str s,gr r]
theorem iO:gr [] = .sc (.pointer none):=rfl
theorem tX (s:ByteArray) (r:List ByteArray):gr (s :: r) = .eW [str s,gr r]:=rfl
theorem D7 (l:List ByteArray):jm (gr l)=true:=by cases l <;> rfl
theorem abS:ab.underlying 170=some (.pointer 208):=kr
theorem abT (x y:Operand):eO ab (r7 .neq 170 x y) (.sc (.pointer none)) (.sc (.pointer none))=some (bl false):=kr
theorem aR (l:List ByteArray) (n:Nat):aG n (gr l)=true:=by cases l <;> simp [gr,aG]
theorem IL (s x:ByteArray) (r:List ByteArray):jC s (x :: r)=(decide (s=x)||jC s r):=rfl
theorem R5 {l:List ByteArray} {i:Nat} {x:ByteArray} {r:List ByteArray} (h:l[i]?=some x):(l.take (i+1)).reverse++r=x :: ((l.take i).reverse++r):=by rw [bn,h];simp
theorem Y5 (l:List Lb) (a:Lb):(l++[a]).map (fun x=>str x.name)=l.map (fun x=>str x.name)++[str a.name]:=by simp
theorem D8 (l:List Lb) (n:Nat):cM (l.map fun x=>str x.name) n 1=true:=by
 unfold cM;split;·rename_i h;simp at h;obtain⟨t,-,rfl⟩:=h;rfl
 rfl
theorem af3 {α:Type} (l:List α) (a:α):(l++[a]).length=l.length+1:=by simp
section
attribute [local go_sem] aR de iO tX abT abS
theorem WQ (l:List ByteArray) (s:ByteArray):Cn 143 [gr l,str s] (bl (jC s l)):=by
 refine fZ tt_ok [] 17 [.tmp 4] (fn:=Tryz.f143) Tryz.func143 rfl Tryz.call143 ⟨rfl,rfl,by simp⟩ fun K hK=>?_;simp only [go_sem];refine fK tt_ok [] (fun a:List ByteArray=>[(0,gr a),(1,str s)]) (fun a:List ByteArray=>[]) (fun a=>a.length) (fun a=>jC s l=jC s a) (l) 0 (di (by omega) (by simp only [bB,go_sem] <;> rfl)) (rfl) ?_;intro a hI;intro Z1 dv;rcases a with _|⟨x,r⟩
 ·simp only [go_sem];first|exact hK _ (congrArg bl bM)|exact hK _ (congrArg bl (hI ▸ rfl))
 simp only [go_sem];refine bQ (fun gw=>?_) (fun gw=>?_);·(have bM:true=jC s l:=by rw [hI,IL,decide_eq_true (of_decide_eq_true gw).symm];rfl);simp only [go_sem];first|exact hK _ (congrArg bl bM)|exact hK _ (congrArg bl (hI ▸ rfl))
 have cK:decide (s=x)=false:=decide_eq_false fun h=>of_decide_eq_false gw h.symm;simp only [go_sem];refine dv _ ⟨r,?_,?_,di (by omega) (by simp only [go_sem])⟩;·rw [hI,IL,cK];rfl
 exact l5 _
end
section
attribute [local go_sem] aR aw tX
theorem BS (l ns:List ByteArray) (hl:ns.length≤1048576):Cn 200 [gr l,.slice (ns.map str)] (gr (ns.reverse++l)):=by
 refine fZ tt_ok [5] 19 [.tmp 4] (fn:=Tryz.f200) Tryz.func200 rfl Tryz.call200 ⟨rfl,rfl,by simp⟩ fun K hK=>?_;simp only [iO,go_sem];refine fK tt_ok [5] (fun i:Nat=>[(0,gr ((ns.take i).reverse++l)),(7,.slice (ns.map str)),(8,num ns.length),(9,num i)]) (fun i:Nat=>[]) (fun i=>ns.length-i) (fun i=>i≤ns.length) (0) 0 (di (by omega) (by simp only [dG,iO,List.reverse_nil,bB,go_sem] <;> rfl)) (aW _) ?_;intro i hi;intro Z1 dv;simp only [iO,go_sem];refine bQ (fun ix=>?_) (fun ix=>?_);·(have eA:i<ns.length:=by simpa using ix);have dB:=a7 i (by omega);obtain⟨x,hx⟩:∃ x,ns[i]?=some x:=⟨_,af eA⟩;have hrv:=R5 (r:=l) hx;(obtain⟨L,hL⟩:∃ L,(ns.take i).reverse++l=L:=⟨_,rfl⟩;rw [hL] at hrv ⊢;rcases L with _|⟨y,r⟩);(·simp only [dB,hx,ae,iO,go_sem];refine MS 0 (by decide) rfl rfl (by simp [jm,D7,iO,tX]) ?_;refine gA tt_ok ?_;simp only [dB,hx,ae,iO,go_sem];refine dv _ ⟨i+1,?_,?_,di (by omega) (by (simp only [dB,hrv,iO,go_sem]))⟩;(·exact eA);omega);simp only [dB,hx,ae,iO,go_sem];refine MS 0 (by decide) rfl rfl (by simp [jm,D7,iO,tX]) ?_;refine gA tt_ok ?_;simp only [dB,hx,ae,iO,go_sem];refine dv _ ⟨i+1,?_,?_,di (by omega) (by (simp only [dB,hrv,iO,go_sem]))⟩;(·exact eA);omega
 have my:i=ns.length:=by have h_:¬ i<ns.length:=(by simpa using ix);omega
 rw [my,au];obtain⟨L,hL⟩:∃ L,ns.reverse++l=L:=⟨_,rfl⟩;rw [hL] at hK ⊢;rcases L with _|⟨y,r⟩
 ·simp only [iO,go_sem];exact hK _ rfl
 simp only [iO,go_sem];exact hK _ rfl
end
end
abbrev tC (t:Ty):List V:=[num t.kind,str t.mod,str t.name,.slice (bN t.args),.slice (ew t.bp)]
abbrev xC (x:Ex):List V:=[num x.kind,str x.mod,str x.name,str x.text,num x.num,.slice (bN x.types),.slice (x.labels.map b8),.slice (eC x.kids)]
abbrev lE (d:Dc) (ps:V) (md:ByteArray):List V:=[num d.kind,str d.name,bl d.exported,bl d.deprecated,str d.note,ps,num d.lower.kind,str d.lower.mod,str d.lower.name,.slice (bN d.lower.args),.slice (ew d.lower.bp),num d.upper.kind,str d.upper.mod,str d.upper.name,.slice (bN d.upper.args),.slice (ew d.upper.bp),num d.type.kind,str d.type.mod,str d.type.name,.slice (bN d.type.args),.slice (ew d.type.bp),num d.expr.kind,str d.expr.mod,str d.expr.name,str d.expr.text,num d.expr.num,.slice (bN d.expr.types),.slice (d.expr.labels.map b8),.slice (eC d.expr.kids),str md,str d.target]
abbrev WR:List V:=[num 0,str ⟨#[]⟩,str ⟨#[]⟩,.sc (.slice none 0 0),.sc (.slice none 0 0)]
abbrev PI:List V:=[num 0,str ⟨#[]⟩,str ⟨#[]⟩,str ⟨#[]⟩,num 0,.sc (.slice none 0 0),.sc (.slice none 0 0),.sc (.slice none 0 0)]
abbrev zD_:List V:=[num 0,str ⟨#[]⟩,bl false,bl false,str ⟨#[]⟩,.sc (.slice none 0 0),num 0,str ⟨#[]⟩,str ⟨#[]⟩,.sc (.slice none 0 0),.sc (.slice none 0 0),num 0,str ⟨#[]⟩,str ⟨#[]⟩,.sc (.slice none 0 0),.sc (.slice none 0 0),num 0,str ⟨#[]⟩,str ⟨#[]⟩,.sc (.slice none 0 0),.sc (.slice none 0 0),num 0,str ⟨#[]⟩,str ⟨#[]⟩,str ⟨#[]⟩,num 0,.sc (.slice none 0 0),.sc (.slice none 0 0),.sc (.slice none 0 0),str ⟨#[]⟩,str ⟨#[]⟩]
attribute [go_sem] tC xC lE WR PI zD_
abbrev An (X:Rv) (a b:V):List V:=[str X.mp,.slice (X.dM.map cA),.slice (X.decls.map bI),num X.idx,a,b]
abbrev qF (X:Rv) (a b:V):List V:=[str X.mp,.slice (X.dM.map cA),.slice (X.decls.map bI),num X.idx,a,b,.sc (.func (.func 85) #[] #[]),.sc (.func (.func 86) #[] #[]),.dU (.func 83) [] [.ptr 1 0]]
abbrev uq (X:Rv):bm:=.map (nM strVal 0 (iy (gB X.dM))) (iy (gB X.dM)).length
abbrev GF (D:Dc) (a:V):List V:=[str ⟨#[]⟩,.sc (.slice none 0 0),.slice [bI D],num 0,a,num 0,.dU (.func 140) [] [.ptr 1 0,.ptr 2 0],.dU (.func 141) [] [.ptr 1 0,.ptr 3 0],.sc (.func (.func 139) #[] #[])]
attribute [go_sem] An qF uq GF
section
theorem w5 (mem:List bm) (l:List ByteArray):gH mem (gr l)=some (gr l):=by cases l <;> rfl
theorem w6 (l:List ByteArray):fg (gr l)=[]:=by cases l <;> rfl
theorem WS {s:ByteArray} {l:List ByteArray} (h:s∈l):jC s l=true:=tR.2 h
theorem abV {s:ByteArray} {l:List ByteArray} (h:¬ s∈l):jC s l=false:=ad3.2 fun e=>h (tR.1 e)
theorem dp (g:List (ByteArray×ByteArray)) (n:Nat):((nM strVal 0 (iy g)).all fun e=>aG n e.2.2)=true:=by rw [FP strVal (aG n),aX];intro e he;obtain⟨p,-,rfl⟩:=dr.1 he;rfl
theorem oT (g:List (ByteArray×ByteArray)) (n:Nat) (a:Value) (b:Nat) (c:V) (h:(a,b,c)∈nM strVal 0 (iy g)):aG n c=true:=aX.1 (dp g n) _ h
theorem BT (σ:Nat→Nat) (g:List (ByteArray×ByteArray)) (c:Nat):nR σ (.map (nM strVal 0 (iy g)) c) = .map (nM strVal 0 (iy g)) c:=by
 have key:∀ (g:List (ByteArray×ByteArray)) (n:Nat),(nM strVal n (iy g)).map (fun e=>(e.1,e.2.1,fO σ e.2.2))=nM strVal n (iy g):=by intro g;induction g with|nil=>intro n;rfl|cons e r ih =>intro n;show _ :: (nM strVal (n+1) (iy r)).map _=_ :: nM strVal (n+1) (iy r);rw [ih];rfl
 simp only [nR];rw [key]
theorem lz (σ:Nat→Nat) (l:List ByteArray):fO σ (gr l)=gr l:=by cases l <;> rfl
def M5 (X:Rv) (n v:Nat) (e:Int) (k1 k3:Nat):List V:=[str X.mp,.slice (X.dM.map cA),.slice (X.decls.map bI),num X.idx,.ms k3 v 0 n,num e,.sc (.func (.func 85) #[] #[]),.sc (.func (.func 86) #[] #[]),.dU (.func 83) [] [.ptr k1 0]]
def L4 (X:Rv) (vs:List ByteArray) (v:Nat) (e:Int):List bm:=[.box (M5 X vs.length v e 1 3),.box [.mp 2],uq X,.rows v 1 (vs.map str)]
structure GG (M:List bm) (X:Rv) (vs:List ByteArray) (v:Nat) (e:Int) (k0 k1 k2 k3:Nat):Prop where
 h0:M[k0]?=some (.box (M5 X vs.length v e k1 k3))
 h1:M[k1]?=some (.box [.mp k2])
 h2:M[k2]?=some (uq X)
 h3:M[k3]?=some (.rows v 1 (vs.map str))
 nd:[k0,k1,k2,k3].Nodup
theorem Vh {f:FuncId} {args:List V} {r:V} {X:Rv} {vs:List ByteArray} {v:Nat} {e e':Int} (h:bw ab f args (L4 X vs v e) r (L4 X vs v e')) (ha:args.all (aG 4)=true) (hr:aG 4 r=true)
  {M:List bm} {k0 k1 k2 k3:Nat} (hM:GG M X vs v e k0 k1 k2 k3):bw ab f (ki (oo [k0,k1,k2,k3] M.length) args) M (fO (oo [k0,k1,k2,k3] M.length) r) (M.set k0 (.box (M5 X vs.length v e' k1 k3))):=by
 refine bw.keys (mem:=L4 X vs v e) (B:=.box (M5 X vs.length v e' 1 3)) (j0:=0) h M [k0,k1,k2,k3] rfl hM.nd (by simp [L4]) ha ?_ ?_ hr ?_;·have hb:=dp (gB X.dM) 4;simp only [L4,ct,dO,aj,aA,aS,M5,aG,a8,hb];rfl
 ·simp only [L4,aj,aA,aS,M5,ct,dO,aG,a8];rfl
 intro i B hi;rcases i with _|_|_|_|i
 ·cases hi;exact hM.h0
 ·cases hi;exact hM.h1
 ·cases hi;rw [BT];exact hM.h2
 ·cases hi;exact hM.h3
 simp [L4] at hi
def IN (o:Option ByteArray) (t:Ty):Ty:=match o with
 | some m=>.mk t.kind m t.name t.args t.bp
 | none=>.mk 9 ⟨#[]⟩ t.name [] []
def ndX (p:Int×ByteArray) (x:Ex):Ex:=.mk p.1 p.2 x.name x.text x.num x.types x.labels x.kids
theorem Ln {s:ByteArray}:∀ {l:List Dc} {i:Nat} {x:Dc},l[i]?=some x→x.name=s→(∀ j<i,∀ y,l[j]?=some y→decide (y.name=s)=false)→(i:Int)=Am l s
 | [],_,_,h,_,_=>by simp at h
 | d :: r,0,x,h,hn,_=>by
  simp only [ee,aB] at h
  subst h
  unfold Am;rw [if_pos hn];rfl
 | d :: r,i+1,x,h,hn,cD=>by
  have h1:=of_decide_eq_false (cD 0 (by omega) d rfl)
  have h2:=Ln (l:=r) (i:=i) (x:=x) (by simpa using h) hn fun j hj y hy=>cD (j+1) (by omega) y (by simpa using hy)
  unfold Am;rw [if_neg h1,← h2,if_neg (by omega)];rfl
theorem BU {s:ByteArray}:∀ {l:List Dc},(∀ j<l.length,∀ y,l[j]?=some y→decide (y.name=s)=false)→(-1:Int)=Am l s
 | [],_=>rfl
 | d :: r,cD=>by
  have h1:=of_decide_eq_false (cD 0 (by simp) d rfl)
  have h2:=BU (l:=r) fun j hj y hy=>cD (j+1) (by simpa using hj) y (by simpa using hy)
  unfold Am;rw [if_neg h1,← h2,if_pos (by decide)]
section
attribute [local go_sem] aw
theorem WT (ns:List ByteArray) (s:ByteArray) (hl:ns.length≤1048576):∃ r_,(fun w=>∃ n:Int,w=num n∧decide (n≥0)=jC s ns) r_∧cx ab 102 [.slice (ns.map str),str s] r_:=by
 refine fZ tt_ok [] 19 [.tmp 4] (fn:=Tryz.f102) Tryz.func102 rfl Tryz.call102 ⟨rfl,rfl,by simp⟩ fun K hK=>?_;simp only [go_sem];refine cZ tt_ok [] [8] 0 [0,1,7] (fun vs=>((ns.length:Int)-Go.Eng.intOf (vs.headD .undef)).toNat) (fun vs=>∃ i:Nat,vs=[num i]∧i≤ns.length∧∀ j<i,∀ b,ns[j]?=some b→s≠b) (by omega) (by simp only [go_sem]) (⟨0,rfl,aW _,fun j hj=>absurd hj (cf j)⟩) fun vs hI Z1 dv=>?_;obtain⟨i,rfl,hi,kZ⟩:=hI;simp only [go_sem];refine bQ (fun kQ=>?_) (fun kQ=>?_);·(have bR:i<ns.length:=by simpa using kQ);obtain⟨m,hx⟩:∃ m,ns[i]?=some m:=⟨_,af bR⟩;have hw:=a7 i (by omega);simp only [ae,hx,hw,go_sem];refine bQ (fun gw=>?_) (fun gw=>?_);(·(have heq:s=m:=by rw [de] at gw;simpa using gw);(have bM:decide ((i:Int)≥0)=jC s ns:=by rw [decide_eq_true (by omega:(i:Int)≥0),WS (heq ▸ ay hx)]);simp only [ae,hx,hw,go_sem];exact hK _ ⟨_,rfl,bM⟩);(have cK:s≠m:=by rw [de] at gw;simpa using gw);simp only [ae,hx,hw,go_sem];refine dv _ (fR (by omega) (by simp only [ae,hx,hw,go_sem]) ?_ ?_) <;> simp only [eE,lk,reduceIte,zE];(·refine⟨i+1,rfl,bR,fun j hj b hb=>?_⟩;(rcases br j i with h|h);(·exact kZ j h b hb);(obtain rfl:j=i:=by omega);rw [hx] at hb;cases hb;exact cK);simp only [Go.Eng.intOf,bg];omega
 have hZ:¬ i<ns.length:=by simpa using kQ
 have bM:decide ((-1:Int)≥0)=jC s ns:=by rw [decide_eq_false (by decide:¬ ((-1:Int)≥0)),abV];intro hm;obtain⟨j,hj⟩:=List.getElem?_of_mem hm;exact kZ j (by have:=(aq.1 hj).1;omega) s hj rfl
 simp only [go_sem];exact hK _ ⟨_,rfl,bM⟩
end
theorem R6 (ns:List ByteArray) (s:ByteArray) (hl:ns.length≤1048576):Cn 45 [.slice (ns.map str),str s] (bl (jC s ns)):=by refine fZ tt_ok [] 9 [.tmp 4] (fn:=Tryz.f45) Tryz.func45 rfl Tryz.call45 ⟨rfl,rfl,by simp⟩ fun K hK=>?_;simp only [go_sem];refine cF (WT ns s hl) ?_;rintro _ ⟨n,rfl,hn⟩;simp only [go_sem];exact hK _ (congrArg bl hn)
theorem R7 (ns:List ByteArray) (s:ByteArray) (hl:ns.length≤1048576):cx ab 45 [.slice (ns.map str),str s] (bl (jC s ns)):=by obtain⟨_,rfl,h⟩:=R6 ns s hl;exact h
theorem WU (X:Rv) (vs:List ByteArray) (v:Nat) (e:Int) (c:Int):∃ r_ m_,(fun r m=>r = .ec []∧m=[.box (qF X (.ms 3 v 0 vs.length) (num (jX e c))),.box [.mp 2],uq X,.rows v 1 (vs.map str)]) r_ m_∧bw ab 84 [.ptr 0 0,num c] ([.box (qF X (.ms 3 v 0 vs.length) (num (e))),.box [.mp 2],uq X,.rows v 1 (vs.map str)]) r_ m_:=by
 refine MR tt_ok [] 13 [] (4) (by simp) (fn:=Tryz.f84) Tryz.func84 rfl Tryz.call84 ⟨rfl,rfl,by simp⟩ fun K hK=>?_;simp only [dp,go_sem];refine bQ (fun JS=>?_) (fun JS=>?_);·(have zO:jX e c=c:=by unfold jX;rw [if_pos (of_decide_eq_true JS)]);simp only [dp,go_sem];exact hK _ _ ⟨rfl,by rw [zO]⟩
 have zO:jX e c=e:=by unfold jX;rw [if_neg (of_decide_eq_false JS)]
 simp only [dp,go_sem];exact hK _ _ ⟨rfl,by rw [zO]⟩
theorem WV (X:Rv) (vs:List ByteArray) (v:Nat) (e:Int) (c:Int):bw ab 84 [.ptr 0 0,num c] (L4 X vs v e) (.ec []) (L4 X vs v (jX e c)):=by obtain⟨r,m,⟨rfl,rfl⟩,h⟩:=WU X vs v e c;exact h
theorem WW (X:Rv) (vs:List ByteArray) (v:Nat) (e:Int) (c:Int) {M:List bm} {k0 k1 k2 k3:Nat} (hM:GG M X vs v e k0 k1 k2 k3):bw ab 84 [.ptr k0 0,num c] M (.ec []) (M.set k0 (.box (M5 X vs.length v (jX e c) k1 k3))):=by have h:=Vh (WV X vs v e c) (by simp [aG,a8,az,ah,aT,aJ,aR]) (by simp [aG,a8,az,ah,aT,aJ,aR]) hM;simpa [ki,fO,oo,az,ah,aT,aJ,lz] using h
theorem BV (X:Rv) (vs:List ByteArray) (v:Nat) (e:Int) (c:Int) {M:List bm} (hM:GG M X vs v e 0 1 2 3):∃ r_ m_,(fun r m=>r = .ec []∧m=M.set 0 (.box (qF X (.ms 3 v 0 vs.length) (num (jX e c))))) r_ m_∧bw ab 84 [.ptr 0 0,num c] M r_ m_:=⟨_,_,⟨rfl,rfl⟩,WW X vs v e c hM⟩
theorem abW (X:Rv) (vs:List ByteArray) (v:Nat) (e:Int) (s:ByteArray):∃ r_ m_,(fun r m=>r=str (tW X s)∧m=[.box (qF X (.ms 3 v 0 vs.length) (num (jX e (yh X s)))),.box [.mp 2],uq X,.rows v 1 (vs.map str)]) r_ m_∧bw ab 83 [.ptr 0 0,str s,.ptr 1 0] ([.box (qF X (.ms 3 v 0 vs.length) (num (e))),.box [.mp 2],uq X,.rows v 1 (vs.map str)]) r_ m_:=by
 refine MR tt_ok [] 19 [.tmp 5] (4) (by simp) (fn:=Tryz.f83) Tryz.func83 rfl Tryz.call83 ⟨rfl,rfl,by simp⟩ fun K hK=>?_;have jG:=ktS.get s (iy (gB X.dM)) (mem:=[.box (qF X (.ms 3 v 0 vs.length) (num (e))),.box [.mp 2],uq X,.rows v 1 (vs.map str)]) (b:=2) rfl (z:=str ⟨#[]⟩) kr true;rw [IH] at jG;rcases rW:kj s (gB X.dM) with _|p
 ·simp only [rW,asK,atC,atw,UY] at jG;(have hlr:tW X s=⟨#[]⟩:=by unfold tW;rw [rW];rfl);(have hle:jX e (yh X s)=jX e 6:=by unfold yh;rw [rW];rfl);simp only [dp,jG,go_sem];refine cW (BV X vs v e 6 ⟨rfl,rfl,rfl,rfl,by decide⟩) ?_;rintro _ _ ⟨rfl,rfl⟩;simp only [dp,jG,go_sem];exact hK _ _ ⟨by rw [hlr],by rw [hle]⟩
 simp only [rW,aC,atD,ajp,UY] at jG;have hlr:tW X s=p:=by unfold tW;rw [rW];rfl
 have hle:jX e (yh X s)=e:=by unfold yh;rw [rW];exact oS e
 simp only [dp,jG,go_sem];exact hK _ _ ⟨by rw [hlr],by rw [hle]⟩
theorem abX (X:Rv) (vs:List ByteArray) (v:Nat) (e:Int) (s:ByteArray):bw ab 83 [.ptr 0 0,str s,.ptr 1 0] (L4 X vs v e) (str (tW X s)) (L4 X vs v (jX e (yh X s))):=by obtain⟨r,m,⟨rfl,rfl⟩,h⟩:=abW X vs v e s;exact h
theorem R8 (X:Rv) (vs:List ByteArray) (v:Nat) (e:Int) (s:ByteArray) {M:List bm} {k0 k1 k2 k3:Nat} (hM:GG M X vs v e k0 k1 k2 k3):bw ab 83 [.ptr k0 0,str s,.ptr k1 0] M (str (tW X s)) (M.set k0 (.box (M5 X vs.length v (jX e (yh X s)) k1 k3))):=by have h:=Vh (abX X vs v e s) (by simp [aG,a8,az,ah,aT,aJ,aR]) (by simp [aG,a8,az,ah,aT,aJ,aR]) hM;simpa [ki,fO,oo,az,ah,aT,aJ,lz] using h
theorem Y6 (X:Rv) (vs:List ByteArray) (v:Nat) (e:Int) (s:ByteArray) {M:List bm} (hM:GG M X vs v e 0 1 2 3):∃ r_ B_,(fun r B=>r=str (tW X s)∧B=bm.box (qF X (.ms 3 v 0 vs.length) (num (jX e (yh X s))))) r_ B_∧B_.dF=0∧bw ab 83 [.ptr 0 0,str s,.ptr 1 0] M r_ (M.set 0 B_):=⟨_,_,⟨rfl,rfl⟩,rfl,R8 X vs v e s hM⟩
theorem abY (s:ByteArray) (d:Dc):∃ r_,(fun w=>w=bl (decide (d.name=s))) r_∧bw ab 199 [bI d,.ptr 0 0] ([.box [str s]]) r_ ([.box [str s]]):=by refine DN tt_ok [] 8 [.tmp 3] (fn:=Tryz.f199) Tryz.func199 rfl Tryz.call199 ⟨rfl,rfl,by simp⟩ fun K hK=>?_;simp only [dG,bI,ah,aJ];simp only [de,go_sem];exact hK _ _ ⟨rfl,rfl⟩
section
attribute [local go_sem] aw
theorem WX (s:ByteArray) (l:List Dc) (hl:l.length≤1048576):∃ r_,(fun w=>w=num (Am l s)) r_∧bw ab 32 [.slice (l.map bI),.dU (.func 199) [] [.ptr 0 0]] ([.box [str s]]) r_ ([.box [str s]]):=by
 refine DN tt_ok [] 19 [.tmp 4] (fn:=Tryz.f32) Tryz.func32 rfl Tryz.call32 ⟨rfl,rfl,by simp⟩ fun K hK=>?_;simp only [go_sem];refine cZ tt_ok [] [8] 1 [0,1,7] (fun vs=>((l.length:Int)-Go.Eng.intOf (vs.headD .undef)).toNat) (fun vs=>∃ i:Nat,vs=[num i]∧i≤l.length∧∀ j<i,∀ x,l[j]?=some x→decide (x.name=s)=false) (by omega) (by simp only [go_sem]) (⟨0,rfl,aW _,fun j hj=>absurd hj (cf j)⟩) fun vs hI Z1 dv=>?_;obtain⟨i,rfl,hi,cD⟩:=hI;simp only [go_sem];refine bQ (fun kQ=>?_) (fun kQ=>?_);·(have bR:i<l.length:=by simpa using kQ);have hw:=a7 i (by omega);obtain⟨x,hx⟩:∃ x,l[i]?=some x:=⟨_,af bR⟩;simp only [hw,ae,hx,bI,ah,aJ,ai,ak,go_sem];refine xv (by have h:=abY s x;simp only [dG,bI,ah,aJ] at h;exact h) ?_;simp only [hw,ae,hx,bI,ah,aJ,ai,ak,go_sem];refine bQ (fun gw=>?_) (fun gw=>?_);(·have bM:(i:Int)=Am l s:=Ln hx (of_decide_eq_true gw) cD;simp only [hw,ae,hx,bI,ah,aJ,ai,ak,go_sem];exact hK _ _ ⟨congrArg num bM,rfl⟩);simp only [hw,ae,hx,bI,ah,aJ,ai,ak,go_sem];refine dv _ (fR (by omega) (by simp only [hw,ae,hx,bI,ah,aJ,ai,ak,go_sem]) ?_ ?_) <;> simp only [eE,lk,reduceIte,zE];(·refine⟨i+1,rfl,bR,fun j hj=>?_⟩;(rcases br j i with h|h);(·exact cD j h);(obtain rfl:j=i:=by omega);intro y hy;rw [hx] at hy;cases hy;exact gw);simp only [Go.Eng.intOf,bg];omega
 have hZ:¬ i<l.length:=by simpa using kQ
 have bM:(-1:Int)=Am l s:=BU fun j hj=>cD j (by omega);simp only [go_sem];exact hK _ _ ⟨congrArg num bM,rfl⟩
end
theorem WY (s:ByteArray) (l:List Dc) (hl:l.length≤1048576) {M:List bm} {k:Nat} (hM:M[k]?=some (.box [str s])):∃ r_,(fun w=>w=num (Am l s)) r_∧bw ab 32 [.slice (l.map bI),.dU (.func 199) [] [.ptr k 0]] M r_ M:=by obtain⟨_,rfl,h⟩:=WX s l hl;have h2:=bw.keys (mem:=[.box [str s]]) (B:=.box [str s]) (j0:=0) h M [k] rfl (by simp) (by simp) (by simp [aG,a8]) rfl rfl rfl (fun i B hi=>by (rcases i with _|i);(·cases hi;exact hM);simp at hi);have e:M.set (oo [k] M.length 0) (nR (oo [k] M.length) (.box [str s]))=M:=rA hM;rw [e] at h2;exact⟨_,rfl,h2⟩
theorem w7 (X:Rv) (vs:List ByteArray) (v:Nat) (e:Int) (iJ:X.decls.length≤1048576) (s:ByteArray):∃ r_,(fun w=>w=num (Am X.decls s)) r_∧bw ab 142 [.ptr 0 0,str s] ([.box (qF X (.ms 3 v 0 vs.length) (num (e))),.box [.mp 2],uq X,.rows v 1 (vs.map str)]) r_ ([.box (qF X (.ms 3 v 0 vs.length) (num (e))),.box [.mp 2],uq X,.rows v 1 (vs.map str)]):=by refine DN tt_ok [] 12 [.tmp 4] (fn:=Tryz.f142) Tryz.func142 rfl Tryz.call142 ⟨rfl,rfl,by simp⟩ fun K hK=>?_;simp only [dp,go_sem];refine xv (WY s X.decls iJ rfl) ?_;simp only [dp,go_sem];exact hK _ _ ⟨rfl,rfl⟩
theorem WZ (X:Rv) (vs:List ByteArray) (v:Nat) (e:Int) (iJ:X.decls.length≤1048576) (s:ByteArray):∃ r_,(fun w=>w=num (ve X s)) r_∧bw ab 144 [.ptr 0 0,str s] ([.box (qF X (.ms 3 v 0 vs.length) (num (e))),.box [.mp 2],uq X,.rows v 1 (vs.map str)]) r_ ([.box (qF X (.ms 3 v 0 vs.length) (num (e))),.box [.mp 2],uq X,.rows v 1 (vs.map str)]):=by
 refine DN tt_ok [] 19 [.tmp 4] (fn:=Tryz.f144) Tryz.func144 rfl Tryz.call144 ⟨rfl,rfl,by simp⟩ fun K hK=>?_;simp only [dp,go_sem];refine xv (w7 X vs v e iJ s) ?_;simp only [dp,go_sem];refine bQ (fun kQ=>?_) (fun kQ=>?_);·(have bM:6=ve X s:=by unfold ve;rw [if_pos (of_decide_eq_true kQ)]);simp only [dp,go_sem];exact hK _ _ ⟨congrArg num bM,rfl⟩
 have hn9:=of_decide_eq_false kQ;simp only [dp,go_sem];refine bQ (fun rX=>?_) (fun rX=>?_);·(have bM:14=ve X s:=by unfold ve;rw [if_neg hn9,if_pos (of_decide_eq_true rX)]);simp only [dp,go_sem];exact hK _ _ ⟨congrArg num bM,rfl⟩
 have bM:0=ve X s:=by unfold ve;rw [if_neg hn9,if_neg (of_decide_eq_false rX)]
 simp only [dp,go_sem];exact hK _ _ ⟨congrArg num bM,rfl⟩
theorem IP (X:Rv) (vs:List ByteArray) (v:Nat) (e:Int) (iJ:X.decls.length≤1048576) (s:ByteArray) {M:List bm} (hM:GG M X vs v e 0 1 2 3):∃ r_,(fun w=>w=num (Am X.decls s)) r_∧bw ab 142 [.ptr 0 0,str s] M r_ M:=by obtain⟨_,rfl,h⟩:=w7 X vs v e iJ s;have h2:=Vh (e':=e) h rfl rfl hM;rw [rA hM.h0] at h2;exact⟨_,rfl,h2⟩
theorem abZ (X:Rv) (vs:List ByteArray) (v:Nat) (e:Int) (iJ:X.decls.length≤1048576) (s:ByteArray) {M:List bm} (hM:GG M X vs v e 0 1 2 3):∃ r_,(fun w=>w=num (ve X s)) r_∧bw ab 144 [.ptr 0 0,str s] M r_ M:=by obtain⟨_,rfl,h⟩:=WZ X vs v e iJ s;have h2:=Vh (e':=e) h rfl rfl hM;rw [rA hM.h0] at h2;exact⟨_,rfl,h2⟩
end
section
theorem R9 (mem:List bm) (ks:List (Nat×Nat)) (b:Bool):gv mem ks (bl b)=mem:=rfl
theorem JT (l:List ByteArray):(l.map str).take l.length=l.map str:=bu (by simp)
section
attribute [local go_sem] dp aK cp de aw ax R9
theorem OL (X:Rv) (vs:List ByteArray) (v:Nat) (e:Int) (iJ:X.decls.length≤1048576) (jg:vs.length≤1048576) (t:Ty):∃ r_ m_,(fun r m=>J7 r=cd (IN (gR X vs t) t)∧m=[.box (qF X (.ms 3 v 0 vs.length) (num (sR X vs e t))),.box [.mp 2],uq X,.rows v 1 (vs.map str)]) r_ m_∧bw ab 85 [.ptr 0 0,cd t] ([.box (qF X (.ms 3 v 0 vs.length) (num (e))),.box [.mp 2],uq X,.rows v 1 (vs.map str)]) r_ m_:=by
 refine MR tt_ok [] 49 [.cell 4 41] (4) (by simp) (fn:=Tryz.f85) Tryz.func85 rfl Tryz.call85 ⟨rfl,rfl,by simp⟩ fun K hK=>?_;simp only [az,ah];simp only [JT vs,go_sem];refine bQ (fun jN=>?_) (fun jN=>?_);·(have hm:¬ t.mod=⟨#[]⟩:=by simpa using jN);(have lq:gR X vs t=some (tW X t.mod):=by unfold gR;rw [if_neg hm]);(have IQ:sR X vs e t=jX e (yh X t.mod):=by unfold sR tE;rw [if_neg hm]);simp only [JT vs,go_sem];refine dW tt_ok bU [pN,jA [0],jA [0,1],n9 [0,1,2],pN,pN,n9 [5],⟨.e,0,[],[0,1,2,3,4,5,6],[]⟩,jA [0,1,2,3,4,5,6,7],⟨.w,0,[],[0,1,2,3,4,5,6,7,8],[]⟩] 1 kr ?_;simp only [JT vs,go_sem];refine xu rfl rfl (Y6 X vs v e t.mod ⟨rfl,rfl,rfl,rfl,by decide⟩) ?_;rintro _ _ ⟨rfl,rfl⟩;simp only [JT vs,go_sem];exact hK _ _ ⟨by rw [lq];rfl,by rw [IQ]⟩
 have hm:t.mod=⟨#[]⟩:=by simpa using jN
 simp only [JT vs,go_sem];refine dW tt_ok bU [pN,jA [0],jA [0,1],n9 [0,1,2],pN,n9 [4],⟨.z,0,[],[0,1,2,3,4,5],[]⟩,jA [0,1,2,3,4,5,6]] 0 kr ?_;simp only [JT vs,go_sem];refine cGZ (R7 vs t.name jg) ?_;simp only [JT vs,go_sem];refine bQ (fun pX=>?_) (fun pX=>?_);·(have lq:gR X vs t=none:=by unfold gR;rw [if_pos hm,if_pos pX]);simp only [JT vs,go_sem];refine bQ (fun vf=>?_) (fun vf=>?_);(·(have IQ:sR X vs e t=jX e 11:=by unfold sR tE;rw [if_pos hm,if_pos pX,if_pos (by have h_:=of_decide_eq_true vf;(try rw [aK] at h_);omega)]);simp only [JT vs,go_sem];refine cW (BV X vs v e _ ⟨rfl,rfl,rfl,rfl,by decide⟩) ?_;rintro _ _ ⟨rfl,rfl⟩;simp only [JT vs,go_sem];exact hK _ _ ⟨by rw [lq];rfl,by rw [IQ]⟩);(have IQ:sR X vs e t=e:=by unfold sR tE;rw [if_pos hm,if_pos pX,if_neg (by have h_:=of_decide_eq_false vf;(try rw [aK] at h_);omega),oS]);simp only [JT vs,go_sem];exact hK _ _ ⟨by rw [lq];rfl,by rw [IQ]⟩
 have lq:gR X vs t=some X.mp:=by unfold gR;rw [if_pos hm,if_neg (by rw [pX];simp)]
 simp only [JT vs,go_sem];refine xv (IP X vs v e iJ t.name ⟨rfl,rfl,rfl,rfl,by decide⟩) ?_;simp only [JT vs,go_sem];refine bQ (fun kQ=>?_) (fun kQ=>?_);·(have IQ:sR X vs e t=jX e 6:=by unfold sR tE;rw [if_pos hm,if_neg (by rw [pX];simp),if_pos (of_decide_eq_true kQ)]);simp only [JT vs,go_sem];refine cW (BV X vs v e _ ⟨rfl,rfl,rfl,rfl,by decide⟩) ?_;rintro _ _ ⟨rfl,rfl⟩;simp only [JT vs,go_sem];exact hK _ _ ⟨by rw [lq];rfl,by rw [IQ]⟩
 have IQ:sR X vs e t=e:=by unfold sR tE;rw [if_pos hm,if_neg (by rw [pX];simp),if_neg (of_decide_eq_false kQ),oS]
 simp only [JT vs,go_sem];exact hK _ _ ⟨by rw [lq];rfl,by rw [IQ]⟩
end
theorem Sa (X:Rv) (vs:List ByteArray) (v:Nat) (e:Int) (iJ:X.decls.length≤1048576) (jg:vs.length≤1048576) (t:Ty):∃ r_ m_,(fun r m=>r=cd (IN (gR X vs t) t)∧m=[.box (qF X (.ms 3 v 0 vs.length) (num (sR X vs e t))),.box [.mp 2],uq X,.rows v 1 (vs.map str)]) r_ m_∧bw ab 85 [.ptr 0 0,cd t] ([.box (qF X (.ms 3 v 0 vs.length) (num (e))),.box [.mp 2],uq X,.rows v 1 (vs.map str)]) r_ m_:=by obtain⟨r,m,⟨h1,rfl⟩,h⟩:=OL X vs v e iJ jg t;exact⟨_,_,⟨h1,rfl⟩,h.row⟩
theorem Sb (X:Rv) (vs:List ByteArray) (v:Nat) (e:Int) (iJ:X.decls.length≤1048576) (jg:vs.length≤1048576) (t:Ty):bw ab 85 [.ptr 0 0,cd t] (L4 X vs v e) (cd (IN (gR X vs t) t)) (L4 X vs v (sR X vs e t)):=by obtain⟨r,m,⟨rfl,rfl⟩,h⟩:=Sa X vs v e iJ jg t;exact h
theorem Sc (X:Rv) (vs:List ByteArray) (v:Nat) (e:Int) (iJ:X.decls.length≤1048576) (jg:vs.length≤1048576) (t:Ty) {M:List bm} {k0 k1 k2 k3:Nat} (hM:GG M X vs v e k0 k1 k2 k3):bw ab 85 [.ptr k0 0,cd t] M (cd (IN (gR X vs t) t)) (M.set k0 (.box (M5 X vs.length v (sR X vs e t) k1 k3))):=by have h:=Vh (Sb X vs v e iJ jg t) (by simp [aG,a8,az,ah,aT,aJ,aR]) (by simp [aG,a8,az,ah,aT,aJ,aR]) hM;simpa [ki,fO,oo,az,ah,aT,aJ,lz] using h
theorem W0 (X:Rv) (vs:List ByteArray) (v:Nat) (e:Int) (iJ:X.decls.length≤1048576) (jg:vs.length≤1048576) (t:Ty) {M:List bm} (hM:GG M X vs v e 0 1 2 3):∃ r_ B_,(fun r B=>r=cd (IN (gR X vs t) t)∧B=bm.box (qF X (.ms 3 v 0 vs.length) (num (sR X vs e t)))) r_ B_∧B_.dF=0∧bw ab 85 [.ptr 0 0,cd t] M r_ (M.set 0 B_):=⟨_,_,⟨rfl,rfl⟩,rfl,Sc X vs v e iJ jg t hM⟩
section
attribute [local go_sem] dp aR aK bF aw de R9
attribute [local go_sem ↓] w5 w6
theorem OM (X:Rv) (vs:List ByteArray) (v:Nat) (e:Int) (iJ:X.decls.length≤1048576) (jg:vs.length≤1048576) (loc:List ByteArray) (x:Ex):∃ r_ m_,(fun r m=>r=cu (ndX (hR X loc x) x)∧m=[.box (qF X (.ms 3 v 0 vs.length) (num (vR X loc e x))),.box [.mp 2],uq X,.rows v 1 (vs.map str)]) r_ m_∧bw ab 86 [.ptr 0 0,gr loc,cu x] ([.box (qF X (.ms 3 v 0 vs.length) (num (e))),.box [.mp 2],uq X,.rows v 1 (vs.map str)]) r_ m_:=by
 refine MR tt_ok [] 46 [.cell 6 45] (4) (by simp) (fn:=Tryz.f86) Tryz.func86 rfl Tryz.call86 ⟨rfl,rfl,by simp⟩ fun K hK=>?_;simp only [aT,aJ];simp only [go_sem];refine bQ (fun Af=>?_) (fun Af=>?_);·(have hm:¬ x.mod=⟨#[]⟩:=by simpa using Af);(have lq:hR X loc x=(x.kind,tW X x.mod):=by unfold hR;rw [if_neg hm]);(have IQ:vR X loc e x=jX e (yh X x.mod):=by unfold vR vE;rw [if_neg hm]);simp only [go_sem];refine dW tt_ok bU [pN,jA [0],jA [0,1],n9 [0,1,2],pN,pN,n9 [5],⟨.e,0,[],[0,1,2,3,4,5,6],[]⟩,jA [0,1,2,3,4,5,6,7],⟨.w,0,[],[0,1,2,3,4,5,6,7,8],[]⟩] 1 kr ?_;simp only [go_sem];refine xu rfl rfl (Y6 X vs v e x.mod ⟨rfl,rfl,rfl,rfl,by decide⟩) ?_;rintro _ _ ⟨rfl,rfl⟩;simp only [go_sem];exact hK _ _ ⟨by rw [lq];rfl,by rw [IQ]⟩
 have hm:x.mod=⟨#[]⟩:=by simpa using Af
 simp only [go_sem];refine dg (WQ loc x.name) ?_;simp only [go_sem];refine bQ (fun qA=>?_) (fun qA=>?_);·(have lq:hR X loc x=(x.kind,x.mod):=by unfold hR;rw [if_pos hm,if_pos qA]);simp only [go_sem];refine bQ (fun vg=>?_) (fun vg=>?_);(·(have IQ:vR X loc e x=jX e 11:=by unfold vR vE;rw [if_pos hm,if_pos qA,if_pos (of_decide_eq_true vg)]);simp only [go_sem];refine cW (BV X vs v e _ ⟨rfl,rfl,rfl,rfl,by decide⟩) ?_;rintro _ _ ⟨rfl,rfl⟩;simp only [go_sem];exact hK _ _ ⟨by rw [lq];rfl,by rw [IQ]⟩);(have IQ:vR X loc e x=e:=by unfold vR vE;rw [if_pos hm,if_pos qA,if_neg (of_decide_eq_false vg),oS]);simp only [go_sem];exact hK _ _ ⟨by rw [lq];rfl,by rw [IQ]⟩
 have lq:hR X loc x=(4,X.mp):=by unfold hR;rw [if_pos hm,if_neg (by rw [qA];simp)]
 have IQ:vR X loc e x=jX e (ve X x.name):=by unfold vR vE;rw [if_pos hm,if_neg (by rw [qA];simp)]
 simp only [go_sem];refine xv (abZ X vs v e iJ x.name ⟨rfl,rfl,rfl,rfl,by decide⟩) ?_;simp only [go_sem];refine cW (BV X vs v e _ ⟨rfl,rfl,rfl,rfl,by decide⟩) ?_;rintro _ _ ⟨rfl,rfl⟩;simp only [go_sem];refine dW tt_ok bU [pN,jA [0],jA [0,1],jA [0,1,2],⟨.r,0,[],[0,1,2,3],[4]⟩,pN,⟨.e,4,[],[5],[]⟩,jA [0,1,2,3,4,5,6],⟨.e,4,[],[0,1,2,3,4,5,6,7],[]⟩] 0 kr ?_;simp only [go_sem];exact hK _ _ ⟨by rw [lq];rfl,by rw [IQ]⟩
end
theorem ON (X:Rv) (vs:List ByteArray) (v:Nat) (e:Int) (iJ:X.decls.length≤1048576) (jg:vs.length≤1048576) (loc:List ByteArray) (x:Ex):bw ab 86 [.ptr 0 0,gr loc,cu x] (L4 X vs v e) (cu (ndX (hR X loc x) x)) (L4 X vs v (vR X loc e x)):=by obtain⟨r,m,⟨rfl,rfl⟩,h⟩:=OM X vs v e iJ jg loc x;exact h
theorem OO (X:Rv) (vs:List ByteArray) (v:Nat) (e:Int) (iJ:X.decls.length≤1048576) (jg:vs.length≤1048576) (loc:List ByteArray) (x:Ex) {M:List bm} {k0 k1 k2 k3:Nat} (hM:GG M X vs v e k0 k1 k2 k3):bw ab 86 [.ptr k0 0,gr loc,cu x] M (cu (ndX (hR X loc x) x)) (M.set k0 (.box (M5 X vs.length v (vR X loc e x) k1 k3))):=by have h:=Vh (ON X vs v e iJ jg loc x) (by simp [aG,a8,az,ah,aT,aJ,aR]) (by simp [aG,a8,az,ah,aT,aJ,aR]) hM;simpa [ki,fO,oo,az,ah,aT,aJ,lz] using h
theorem Sd (X:Rv) (vs:List ByteArray) (v:Nat) (e:Int) (iJ:X.decls.length≤1048576) (jg:vs.length≤1048576) (loc:List ByteArray) (x:Ex) {M:List bm} (hM:GG M X vs v e 0 1 2 3):∃ r_ B_,(fun r B=>r=cu (ndX (hR X loc x) x)∧B=bm.box (qF X (.ms 3 v 0 vs.length) (num (vR X loc e x)))) r_ B_∧B_.dF=0∧bw ab 86 [.ptr 0 0,gr loc,cu x] M r_ (M.set 0 B_):=⟨_,_,⟨rfl,rfl⟩,rfl,OO X vs v e iJ jg loc x hM⟩
end
theorem IT (l:List Fd) (n:Nat):cM (ew l) n 7=true:=by
 unfold cM;split;·rename_i h;simp [iX] at h;obtain⟨t,-,rfl⟩:=h;simp [Oq]
 rfl
theorem IU (l:List Lb) (n:Nat):cM (l.map b8) n 8=true:=by
 unfold cM;split;·rename_i h;simp at h;obtain⟨t,-,rfl⟩:=h;simp [b8,ah,V.cells]
 rfl
theorem IV (l:List Ex) (n:Nat):cM (eC l) n 8=true:=by
 unfold cM;split;·rename_i h;simp [kA] at h;obtain⟨t,-,rfl⟩:=h;simp [Ot]
 rfl
theorem Se (l:List Pm) (n:Nat):cM (l.map cj) n 7=true:=by
 unfold cM;split;·rename_i h;simp at h;obtain⟨t,-,rfl⟩:=h;simp [cj,ah,V.cells]
 rfl
theorem Sf (l:List Im) (n:Nat):cM (l.map cA) n 2=true:=by
 unfold cM;split;·rename_i h;simp at h;obtain⟨t,-,rfl⟩:=h;simp [cA,V.cells]
 rfl
theorem BW (rows:List V) (h1:cM rows 0 7=true) (hl:rows.length≤34359738368):bw ab 54 [.slice rows] [] (.ms 0 1 0 rows.length) [.rows 1 7 rows]:=by refine kY tt_ok (fn:=Tryz.f54) 1 (by simp) Tryz.func54 rfl Tryz.call54 ?_;simp only [dG,cB,Tryz.ntmps54,aj,aA,zA,zF,aH,aI];refine ag tt_ok fun K hK=>?_;simp only [go_sem];refine hK _ ?_;refine bz ?_;refine ag tt_ok fun K hK=>?_;simp only [go_sem];intro b hb;refine hK _ ?_;cases b with|true =>((have h0:rows=[]:=by cases rows with|nil=>rfl|cons a r=>have:=hb (by simp);cases this);subst h0;refine ba rfl ?_;refine ag tt_ok fun K hK=>?_;simp only [go_sem];refine hK _ ?_;refine oj 2 1 7 rfl ?_;exact bX ⟨.inl rfl,rfl,rfl,rfl,rfl⟩)|false =>refine ba rfl (ch ?_);show eg _ _ _ _ _ _;refine ag tt_ok fun K hK=>?_;simp only [h1,hl,go_sem];refine hK _ ?_;refine bX ⟨.inl rfl,?_⟩;simp [lI,oF,ql,Tryz.f54,aG,aS,a8]
theorem BX (rows:List V) (h1:cM rows 0 8=true) (hl:rows.length≤34359738368):bw ab 55 [.slice rows] [] (.ms 0 1 0 rows.length) [.rows 1 8 rows]:=by refine kY tt_ok (fn:=Tryz.f55) 1 (by simp) Tryz.func55 rfl Tryz.call55 ?_;simp only [dG,cB,Tryz.ntmps55,aj,aA,zA,zF,aH,aI];refine ag tt_ok fun K hK=>?_;simp only [go_sem];refine hK _ ?_;refine bz ?_;refine ag tt_ok fun K hK=>?_;simp only [go_sem];intro b hb;refine hK _ ?_;cases b with|true =>((have h0:rows=[]:=by cases rows with|nil=>rfl|cons a r=>have:=hb (by simp);cases this);subst h0;refine ba rfl ?_;refine ag tt_ok fun K hK=>?_;simp only [go_sem];refine hK _ ?_;refine oj 2 1 8 rfl ?_;exact bX ⟨.inl rfl,rfl,rfl,rfl,rfl⟩)|false =>refine ba rfl (ch ?_);show eg _ _ _ _ _ _;refine ag tt_ok fun K hK=>?_;simp only [h1,hl,go_sem];refine hK _ ?_;refine bX ⟨.inl rfl,?_⟩;simp [lI,oF,ql,Tryz.f55,aG,aS,a8]
theorem BZ (rows:List V) (h1:cM rows 0 8=true) (hl:rows.length≤34359738368):bw ab 56 [.slice rows] [] (.ms 0 1 0 rows.length) [.rows 1 8 rows]:=by refine kY tt_ok (fn:=Tryz.f56) 1 (by simp) Tryz.func56 rfl Tryz.call56 ?_;simp only [dG,cB,Tryz.ntmps56,aj,aA,zA,zF,aH,aI];refine ag tt_ok fun K hK=>?_;simp only [go_sem];refine hK _ ?_;refine bz ?_;refine ag tt_ok fun K hK=>?_;simp only [go_sem];intro b hb;refine hK _ ?_;cases b with|true =>((have h0:rows=[]:=by cases rows with|nil=>rfl|cons a r=>have:=hb (by simp);cases this);subst h0;refine ba rfl ?_;refine ag tt_ok fun K hK=>?_;simp only [go_sem];refine hK _ ?_;refine oj 2 1 8 rfl ?_;exact bX ⟨.inl rfl,rfl,rfl,rfl,rfl⟩)|false =>refine ba rfl (ch ?_);show eg _ _ _ _ _ _;refine ag tt_ok fun K hK=>?_;simp only [h1,hl,go_sem];refine hK _ ?_;refine bX ⟨.inl rfl,?_⟩;simp [lI,oF,ql,Tryz.f56,aG,aS,a8]
theorem Lo (rows:List V) (h1:cM rows 0 7=true) (hl:rows.length≤34359738368):bw ab 21 [.slice rows] [] (.ms 0 1 0 rows.length) [.rows 1 7 rows]:=by refine kY tt_ok (fn:=Tryz.f21) 1 (by simp) Tryz.func21 rfl Tryz.call21 ?_;simp only [dG,cB,Tryz.ntmps21,aj,aA,zA,zF,aH,aI];refine ag tt_ok fun K hK=>?_;simp only [go_sem];refine hK _ ?_;refine bz ?_;refine ag tt_ok fun K hK=>?_;simp only [go_sem];intro b hb;refine hK _ ?_;cases b with|true =>((have h0:rows=[]:=by cases rows with|nil=>rfl|cons a r=>have:=hb (by simp);cases this);subst h0;refine ba rfl ?_;refine ag tt_ok fun K hK=>?_;simp only [go_sem];refine hK _ ?_;refine oj 2 1 7 rfl ?_;exact bX ⟨.inl rfl,rfl,rfl,rfl,rfl⟩)|false =>refine ba rfl (ch ?_);show eg _ _ _ _ _ _;refine ag tt_ok fun K hK=>?_;simp only [h1,hl,go_sem];refine hK _ ?_;refine bX ⟨.inl rfl,?_⟩;simp [lI,oF,ql,Tryz.f21,aG,aS,a8]
theorem Lp (rows:List V) (h1:cM rows 0 2=true) (hl:rows.length≤34359738368):bw ab 19 [.slice rows] [] (.ms 0 1 0 rows.length) [.rows 1 2 rows]:=by refine kY tt_ok (fn:=Tryz.f19) 1 (by simp) Tryz.func19 rfl Tryz.call19 ?_;simp only [dG,cB,Tryz.ntmps19,aj,aA,zA,zF,aH,aI];refine ag tt_ok fun K hK=>?_;simp only [go_sem];refine hK _ ?_;refine bz ?_;refine ag tt_ok fun K hK=>?_;simp only [go_sem];intro b hb;refine hK _ ?_;cases b with|true =>((have h0:rows=[]:=by cases rows with|nil=>rfl|cons a r=>have:=hb (by simp);cases this);subst h0;refine ba rfl ?_;refine ag tt_ok fun K hK=>?_;simp only [go_sem];refine hK _ ?_;refine oj 2 1 2 rfl ?_;exact bX ⟨.inl rfl,rfl,rfl,rfl,rfl⟩)|false =>refine ba rfl (ch ?_);show eg _ _ _ _ _ _;refine ag tt_ok fun K hK=>?_;simp only [h1,hl,go_sem];refine hK _ ?_;refine bX ⟨.inl rfl,?_⟩;simp [lI,oF,ql,Tryz.f19,aG,aS,a8]
theorem Ty.eta (t:Ty):Ty.mk t.kind t.mod t.name t.args t.bp=t:=by obtain⟨k,m,n,ts,fs⟩:=t;rfl
theorem Fd.eta (f:Fd):Fd.mk f.name f.ty f.opt=f:=by obtain⟨n,t,o⟩:=f;rfl
theorem Ty.induct {p:Ty→Prop} (h:∀ t:Ty,(∀ u∈t.parts,p u)→p t):∀ t,p t:=by
 have key:∀ (N:Nat) (t:Ty),t.size≤N→p t:=by intro N;induction N with|zero=>intro t ht;have:=t.size_pos;omega|succ N ih =>intro t ht;refine h t fun u hu=>ih u ?_;obtain⟨i,hi⟩:=bS.1 hu;have e1:=cb Ty.size hi;have e2:=t.dQ;omega
 exact fun t=>key t.size t (ax _)
theorem Ty.oU {t u:Ty} (h:u∈t.args):u∈t.parts:=fH _ h
theorem Ty.oV {t:Ty} {f:Fd} (h:f∈t.bp):f.ty∈t.parts:=gD _ (dr.2 ⟨f,h,rfl⟩)
def Ty.vars (t:Ty):List ByteArray:=(t.nodes.filter fun u=>decide (u.kind=9)).map Ty.name
section
theorem af4 {g:Ty→Option ByteArray} {t u:Ty} (hu:u=if t.kind=10∨t.kind=9 then IN (g t) t else t):t.res g = .mk u.kind u.mod u.name (u.args.map (Ty.res g)) (u.bp.map (Fd.res g)):=by
 rw [Ty.ke];unfold wW;by_cases hk:t.kind=10∨t.kind=9;·rw [if_pos hk] at hu ⊢;cases hg:g t with|some m=>rw [hg] at hu;subst hu;rfl|none=>rw [hg] at hu;subst hu;rfl
 rw [if_neg hk] at hu ⊢;subst hu;rfl
theorem Y7 {S:Type} {g:Ty→Option ByteArray} {s:S→Ty→S} {t u:Ty} (a:S) (hu:u=if t.kind=10∨t.kind=9 then IN (g t) t else t) :
  t.fold g s a=u.bp.foldl (fun a f=>f.ty.fold g s a) (u.args.foldl (fun a t=>t.fold g s a) (if t.kind=10∨t.kind=9 then s a t else a)):=by
 rw [Ty.fold_eq];unfold wW;by_cases hk:t.kind=10∨t.kind=9;·rw [if_pos hk] at hu;simp only [if_pos hk];cases hg:g t with|some m=>rw [hg] at hu;subst hu;rfl|none=>rw [hg] at hu;subst hu;rfl
 rw [if_neg hk] at hu;simp only [if_neg hk];subst hu;rfl
theorem ab0 {g:Ty→Option ByteArray} {t u:Ty} (hu:u=if t.kind=10∨t.kind=9 then IN (g t) t else t):(u.args=t.args∧u.bp=t.bp)∨(u.args=[]∧u.bp=[]):=by
 by_cases hk:t.kind=10∨t.kind=9;·rw [if_pos hk] at hu;cases hg:g t with|some m=>rw [hg] at hu;subst hu;exact .inl ⟨rfl,rfl⟩|none=>rw [hg] at hu;subst hu;exact .inr ⟨rfl,rfl⟩
 rw [if_neg hk] at hu;subst hu;exact .inl ⟨rfl,rfl⟩
theorem af5 {g:Ty→Option ByteArray} {t u:Ty} (hu:u=if t.kind=10∨t.kind=9 then IN (g t) t else t):u.args.length≤t.args.length∧u.bp.length≤t.bp.length∧(∀ x∈u.args,x∈t.parts)∧∀ f∈u.bp,f.ty∈t.parts:=by
 rcases ab0 hu with ⟨h1,h2⟩|⟨h1,h2⟩
 ·rw [h1,h2];exact⟨ax _,ax _,fun x hx=>Ty.oU hx,fun f hf=>Ty.oV hf⟩
 rw [h1,h2];exact⟨aW _,aW _,fun x hx=>(by cases hx),fun f hf=>(by cases hf)⟩
theorem j4 {α:Type} {g:α→α} {l al:List α} {i:Nat} {x:α} (has:al=(l.take i).map g++l.drop i) (hx:l[i]?=some x):al.set i (g x)=(l.take (i+1)).map g++l.drop (i+1):=by
 have bR:=(aq.1 hx).1;have hg:=(aq.1 hx).2;have hl:((l.take i).map g).length=i:=by simp;omega
 rw [has,dt _ _ (by omega),hl,cI,cr bR,eD,bn,hx];simp
theorem nJ {α:Type} {g:α→α} {l al:List α} {i:Nat} {x:α} (has:al=(l.take i).map g++l.drop i) (hx:l[i]?=some x):al[i]?=some x∧al.length=l.length:=by
 have bR:=(aq.1 hx).1;have hl:((l.take i).map g).length=i:=by simp;omega
 constructor;·rw [has,a6 (by omega),hl,cI,CM];simpa using hx
 rw [has];simp;omega
theorem Y8 {α β:Type} (h:α→β) (l:List α) (n:Nat) (hn:l.length=n):(l.map h).take n=l.map h:=bu (by simp [hn])
theorem Sg (X:Rv) (vs:List ByteArray) (v:Nat) (e:Int) (iJ:X.decls.length≤1048576) (jg:vs.length≤1048576) (t u:Ty) (hu:u=IN (gR X vs t) t) (e1:Int) (he:e1=sR X vs e t) {M:List bm} (hM:GG M X vs v e 0 1 2 3):∃ r_ B_,(fun r B=>r = .agg (tC u)∧B=bm.box (qF X (.ms 3 v 0 vs.length) (num (e1)))) r_ B_∧B_.dF=0∧bw ab 85 [.ptr 0 0,.agg (tC t)] M r_ (M.set 0 B_):=by subst hu;subst he;have h:=W0 X vs v e iJ jg t hM;rw [az,az] at h;exact h
theorem tY {X:Rv} {vs:List ByteArray} {v:Nat} {x y:Ty} {e1 e2:Int} (h:bw ab 87 [.ptr 0 0,cd x] (L4 X vs v e1) (cd y) (L4 X vs v e2)) {M:List bm} (hM:GG M X vs v e1 0 1 2 3):∃ r_ B_,(fun r B=>r = .agg (tC y)∧B=bm.box (qF X (.ms 3 v 0 vs.length) (num (e2)))) r_ B_∧B_.dF=0∧bw ab 87 [.ptr 0 0,.agg (tC x)] M r_ (M.set 0 B_):=by have h2:=Vh h (by simp [aG,a8,az,ah]) (by simp [aG,a8,az,ah]) hM;refine⟨_,_,⟨rfl,rfl⟩,rfl,?_⟩;simpa [ki,fO,oo,az,ah,M5] using h2
section
attribute [local go_sem] dp aR aK cp
theorem Lq (X:Rv) (vs:List ByteArray) (v:Nat) (e:Int) (iJ:X.decls.length≤1048576) (jg:vs.length≤1048576) (t:Ty) (PH:t.args.length≤1048576) (E6:t.bp.length≤1048576) (fG:∀ p∈t.parts,∀ e,bw ab 87 [.ptr 0 0,cd p] (L4 X vs v e) (cd (p.res (gR X vs))) (L4 X vs v (p.fold (gR X vs) (sR X vs) e))):∃ r_ m_,(fun r m=>r=cd (t.res (gR X vs))∧m=[.box (qF X (.ms 3 v 0 vs.length) (num (t.fold (gR X vs) (sR X vs) e))),.box [.mp 2],uq X,.rows v 1 (vs.map str)]) r_ m_∧bw ab 87 [.ptr 0 0,cd t] ([.box (qF X (.ms 3 v 0 vs.length) (num (e))),.box [.mp 2],uq X,.rows v 1 (vs.map str)]) r_ m_:=by
 refine MR tt_ok [1,14,30000] 67 [.cell 4 41] (4) (by simp) (fn:=Tryz.f87) Tryz.func87 rfl Tryz.call87 ⟨rfl,rfl,by simp⟩ fun K hK=>?_;obtain⟨u,hu⟩:∃ u,u=(if t.kind=10∨t.kind=9 then IN ((gR X vs) t) t else t):=⟨_,rfl⟩;obtain⟨e1,Lr⟩:∃ x,x=(if t.kind=10∨t.kind=9 then (sR X vs) e t else e):=⟨_,rfl⟩;obtain⟨hul,huf,hpa,hpf⟩:=af5 hu;have Si:=af4 hu;have B4:=Y7 (s:=(sR X vs)) e hu;rw [← Lr] at B4;simp only [az,ah];simp only [go_sem];refine oN (n:=67) tt_ok [1,14,30000] (fun _:Unit=>[(0,.ptr 0 0),(3,.ptr 4 0),(4,.ptr 5 0)]) (fun _:Unit=>[.box (qF X (.ms 3 v 0 vs.length) (num (e1))),.box [.mp 2],uq X,.rows v 1 (vs.map str),.box (tC u),.box WR]) 6 (fun _=>True) (fun Z1 dv=>?_) ?_;·simp only [go_sem];refine dI tt_ok [1,14,30000] [16] 6 [0,1,3,4] (fun vs=>vs=[bl (decide (t.kind=10)||decide (t.kind=9))]) (fun Z2 jk=>?_) ?_;(·simp only [go_sem];refine gA tt_ok ?_;simp only [go_sem];refine bQ (fun jD=>?_) (fun jD=>?_) <;> simp only [go_sem];(·refine jk _ (eI (by omega) (by simp only [go_sem]) ?_);simp only [eE,lk,reduceIte,zE];exact congrArg (fun b=>[bl b]) (by rw [jD];first|rfl|simp));refine jk _ (eI (by omega) (by simp only [go_sem]) ?_);simp only [eE,lk,reduceIte,zE];exact congrArg (fun b=>[bl b]) (by rw [jD];first|rfl|simp));intro vs hJ;obtain rfl:=hJ;simp only [go_sem];refine bQ (fun gw=>?_) (fun gw=>?_);(·(have hk:t.kind=10∨t.kind=9:=by simpa using gw);(have B5:u=IN ((gR X vs) t) t:=by rw [hu,if_pos hk]);(have FW:e1=(sR X vs) e t:=by rw [Lr,if_pos hk]);simp only [go_sem];refine dW tt_ok bU [pN,jA [0],jA [0,1],n9 [0,1,2],pN,pR,⟨.e,0,[],[0,1,2,3,4,5],[]⟩,⟨.w,0,[],[0,1,2,3,4,5,6],[]⟩] 1 kr ?_;simp only [go_sem];refine xu rfl rfl (Sg X vs v e iJ jg t u B5 e1 FW ⟨rfl,rfl,rfl,rfl,by decide⟩) ?_;rintro _ _ ⟨rfl,rfl⟩;simp only [go_sem];(try rw [← B5,← FW]);refine dv _ ⟨(),?_,di (by omega) (by simp only [go_sem])⟩;exact trivial);(have hk:¬ (t.kind=10∨t.kind=9):=by simpa using gw);(have B5:u=t:=by rw [hu,if_neg hk]);(have FW:e1=e:=by rw [Lr,if_neg hk]);simp only [go_sem];(try rw [← B5,← FW]);refine dv _ ⟨(),?_,di (by omega) (by simp only [go_sem])⟩;exact trivial
 intro _ _;simp only [go_sem];refine dW tt_ok bU [pN,n9 [0],⟨.a,0,[],[0,1],[]⟩,pN,⟨.r,0,[0],[3],[]⟩,⟨.a,1,[],[0,1,2,3,4],[]⟩,jA [0,1,2,3,4],⟨.w,2,[],[0,1,2,3,4,5,6],[]⟩,jA [0,1,2,3,4,5,6,7],⟨.w,3,[],[0,1,2,3,4,5,6,7,8],[]⟩] 4 kr ?_;simp only [go_sem];refine Rf ⟨_,m6 (bN u.args) (nH u.args 0) (by rw [aK];omega)⟩ ?_;simp only [go_sem];refine Rf ⟨_,BW (ew u.bp) (IT u.bp 0) (by rw [cp];omega)⟩ ?_;simp only [go_sem];refine sq tt_ok [1,14,30000] ?_;simp only [go_sem];refine fK tt_ok [1,14,30000] (fun a:Nat×List Ty×Int=>[(0,.ptr 0 0),(3,.ptr 4 0),(4,.ptr 5 0),(33,.ms 6 0 0 u.args.length),(34,num u.args.length),(35,num a.1)]) (fun a:Nat×List Ty×Int=>[.box (qF X (.ms 3 v 0 vs.length) (num (a.2.2))),.box [.mp 2],uq X,.rows v 1 (vs.map str),.box [num u.kind,str u.mod,str u.name,.ms 6 0 0 u.args.length,.ms 7 0 0 u.bp.length],.box WR,.rows 0 5 (bN a.2.1),.rows 0 7 (ew u.bp),.hole,.hole]) (fun a=>u.args.length-a.1) (fun a=>a.1≤u.args.length∧a.2.1=(u.args.take a.1).map (Ty.res (gR X vs))++u.args.drop a.1∧a.2.2=(u.args.take a.1).foldl (fun a t=>t.fold (gR X vs) (sR X vs) a) e1) ((0,u.args,e1)) 10 (di (by omega) (by simp only [bB,go_sem] <;> rfl)) (⟨aW _,by simp,rfl⟩) ?_;rintro⟨i,al,ei⟩ ⟨hi,has,mG⟩;try dsimp only at hi has mG
 try dsimp only
 intro Z3 pY;simp only [go_sem];refine bQ (fun x7=>?_) (fun x7=>?_);·(have bR:i<u.args.length:=by simpa using x7);rw [x7];obtain⟨x,hx⟩:∃ x,u.args[i]?=some x:=⟨_,af bR⟩;obtain⟨mz,fP⟩:=nJ has hx;(have eS:((i:Nat):Int)<((u.args.length:Nat):Int):=by omega);have hw:=a7 i (by omega);simp only [eS,bo,mz,az,ah,hw,setRow,fP,go_sem];refine dW tt_ok bU [pN,⟨.r,0,[],[0],[0]⟩,pN,pN,pR,⟨.e,0,[],[3,4],[]⟩,n9 [0,1,2,3,4,5],⟨.w,0,[],[0,1,2,3,4,5,6],[]⟩] 1 kr ?_;simp only [eS,bo,mz,az,ah,hw,setRow,fP,go_sem];refine xu rfl rfl (tY (fG x (hpa x (ay hx)) ei) ⟨rfl,rfl,rfl,rfl,by decide⟩) ?_;rintro _ _ ⟨rfl,rfl⟩;simp only [eS,bo,mz,az,ah,hw,setRow,fP,go_sem];refine pY _ ⟨(i+1,al.set i (x.res (gR X vs)),x.fold (gR X vs) (sR X vs) ei),?_,?_,di (by omega) (by (simp [rv,lk,er,eZ,aG,aS,a8,cP,gg,az,az,ah];exact fun a b c h=>oT _ _ a b c h))⟩;(·exact⟨bR,j4 has hx,by rw [iZ hx,← mG]⟩);dsimp only;omega
 have hZ:¬ i<u.args.length:=by simpa using x7
 have iC:i=u.args.length:=by omega
 have oW:al=u.args.map (Ty.res (gR X vs)):=by rw [has,iC];simp
 subst oW;obtain⟨ej,B6⟩:∃ y,y=ei:=⟨_,rfl⟩;have B7:ej=u.args.foldl (fun a t=>t.fold (gR X vs) (sR X vs) a) e1:=by rw [B6,mG,iC,au]
 rw [← B6];clear B6 mG;simp only [go_sem];refine sq tt_ok [1,14,30000] ?_;simp only [go_sem];refine fK tt_ok [1,14,30000] (fun a:Nat×List Fd×Int=>[(0,.ptr 0 0),(3,.ptr 4 0),(4,.ptr 5 0),(49,.ms 7 0 0 u.bp.length),(50,num u.bp.length),(51,num a.1)]) (fun a:Nat×List Fd×Int=>[.box (qF X (.ms 3 v 0 vs.length) (num (a.2.2))),.box [.mp 2],uq X,.rows v 1 (vs.map str),.box [num u.kind,str u.mod,str u.name,.ms 6 0 0 u.args.length,.ms 7 0 0 u.bp.length],.box WR,.rows 0 5 (bN (u.args.map (Ty.res (gR X vs)))),.rows 0 7 (ew a.2.1),.hole,.hole]) (fun a=>u.bp.length-a.1) (fun a=>a.1≤u.bp.length∧a.2.1=(u.bp.take a.1).map (Fd.res (gR X vs))++u.bp.drop a.1∧a.2.2=(u.bp.take a.1).foldl (fun a f=>f.ty.fold (gR X vs) (sR X vs) a) ej) ((0,u.bp,ej)) 10 (di (by omega) (by simp only [bB,go_sem] <;> rfl)) (⟨aW _,by simp,rfl⟩) ?_;rintro⟨i,al,ei⟩ ⟨hi,has,mG⟩;try dsimp only at hi has mG
 try dsimp only
 intro Z4 rE;simp only [go_sem];refine bQ (fun m7=>?_) (fun m7=>?_);·(have bR:i<u.bp.length:=by simpa using m7);rw [m7];obtain⟨x,hx⟩:∃ x,u.bp[i]?=some x:=⟨_,af bR⟩;obtain⟨mz,fP⟩:=nJ has hx;(have eS:((i:Nat):Int)<((u.bp.length:Nat):Int):=by omega);have hw:=a7 i (by omega);simp only [eS,bA,mz,az,ah,hw,setRow,fP,bO,go_sem];refine dW tt_ok bU [pN,⟨.r,0,[],[0],[0]⟩,pN,pN,pN,n9 [4],⟨.e,0,[],[3,4,5],[]⟩,n9 [0,1,2,3,4,5,6],jA [0,1,2,3,4,5,6,7],⟨.w,0,[],[0,1,2,3,4,5,6,7,8],[]⟩] 1 kr ?_;simp only [eS,bA,mz,az,ah,hw,setRow,fP,bO,go_sem];refine xu rfl rfl (tY (fG x.ty (hpf x (ay hx)) ei) ⟨rfl,rfl,rfl,rfl,by decide⟩) ?_;rintro _ _ ⟨rfl,rfl⟩;simp only [eS,bA,mz,az,ah,hw,setRow,fP,bO,go_sem];refine rE _ ⟨(i+1,al.set i (x.res (gR X vs)),x.ty.fold (gR X vs) (sR X vs) ei),?_,?_,di (by omega) (by (simp [rv,lk,er,eZ,aG,aS,a8,iX,gg,bO,az,ah,Fd.IG,Fd.Ll,Fd.M4];exact fun a b c h=>oT _ _ a b c h))⟩;(·exact⟨bR,j4 has hx,by rw [iZ hx,← mG]⟩);dsimp only;omega
 have W1:¬ i<u.bp.length:=by simpa using m7
 have iC:i=u.bp.length:=by omega
 have oW:al=u.bp.map (Fd.res (gR X vs)):=by rw [has,iC];simp
 subst oW;have Ls:ei=u.bp.foldl (fun a f=>f.ty.fold (gR X vs) (sR X vs) a) ej:=by rw [mG,iC,au]
 rw [B4,← B7,← Ls,Si] at hK;simp only [go_sem];refine hY (k:=4) (vs':=[num u.kind,str u.mod,str u.name,.slice (bN (u.args.map (Ty.res (gR X vs)))),.slice (ew (u.bp.map (Fd.res (gR X vs))))]) rfl (by simp [fw,gH,dk,jS,cP,iX,Y8]) ?_;refine JQ tt_ok [1,14,30000] ?_;simp only [go_sem];exact hK _ _ ⟨rfl,rfl⟩
end
theorem m8 (X:Rv) (vs:List ByteArray) (v:Nat) (iJ:X.decls.length≤1048576) (jg:vs.length≤1048576):∀ (N:Nat) (t:Ty),t.size≤N→N≤1048576→∀ e,bw ab 87 [.ptr 0 0,cd t] (L4 X vs v e) (cd (t.res (gR X vs))) (L4 X vs v (t.fold (gR X vs) (sR X vs) e)):=by intro N;induction N with|zero=>intro t h;have:=t.size_pos;omega|succ N ih =>intro t hN hb e;have zQ:=t.fc;(obtain⟨_,_,⟨rfl,rfl⟩,h⟩:=Lq X vs v e iJ jg t (by omega) (by omega) fun p hp=>by obtain⟨i,hi⟩:=bS.1 hp;have e1:=cb Ty.size hi;have e2:=t.dQ;exact ih p (by omega) (by omega));exact h
end
section
theorem ab1 (mem:List bm) (ks:List (Nat×Nat)) (cs:List V):gv mem ks (.eW cs)=eP mem ks:=rfl
theorem Sj (loc:List ByteArray) (n:ByteArray):cx ab 200 [gr loc,.slice [str n]] (.eW [str n,gr loc]):=by obtain⟨_,rfl,h⟩:=BS loc [n] (by simp);exact h
theorem ab2 (loc:List ByteArray) (n t:ByteArray):cx ab 200 [gr loc,.slice [str n,str t]] (.eW [str t,.eW [str n,gr loc]]):=by obtain⟨_,rfl,h⟩:=BS loc [n,t] (by simp);exact h
theorem af6 {k:Int} {ls:List Lb} {n t:ByteArray} {nk:Nat} {loc:List ByteArray} {i:Nat} (h:(decide (k=8)&&decide ((i:Int)=(nk:Int)-1))=true):lg k ls n t nk loc i=(ls.map Lb.name).reverse++loc:=by simp only [aD,decide_eq_true_eq] at h;unfold lg;rw [if_pos ⟨h.1,by omega⟩]
theorem ab3 {k:Int} {ls:List Lb} {n t:ByteArray} {nk:Nat} {loc:List ByteArray} {i:Nat} (h:(decide (k=8)&&decide ((i:Int)=(nk:Int)-1))=false):lg k ls n t nk loc i =
  if k=10∧i=1 then n :: loc else if k=13∧0<i then ((ls[i-1]?).elim ⟨#[]⟩ Lb.var) :: loc else if k=15∧i=2 then t :: n :: loc else loc:=by
 have:¬ (k=8∧i+1=nk):=fun ⟨h1,h2⟩=>by rw [decide_eq_true h1,decide_eq_true (by omega)] at h;cases h
 unfold lg;rw [if_neg this]
theorem Sk {p q:Prop} [Decidable p] [Decidable q] (h:(decide p&&decide q)=true):p∧q:=by simpa using h
theorem Sl {p q:Prop} [Decidable p] [Decidable q] (h:(decide p&&decide q)=false):¬ (p∧q):=by simpa using h
theorem al4 (n:Nat):((n:Int)=1)=(n=1):=by rw [eq_iff_iff];omega
theorem al5 (n:Nat):((n:Int)=2)=(n=2):=by rw [eq_iff_iff];omega
theorem al6 (n:Nat):(0<(n:Int))=(0<n):=by rw [eq_iff_iff];omega
section
attribute [local go_sem] aw D8
theorem Lt (ls:List Lb) (nl:Nat) (zR:ls.length=nl) (hl:ls.length≤1048576):∃ r_,(fun w=>w = .slice ((ls.map Lb.name).map str)) r_∧bw ab 201 [.ms 0 0 0 nl] ([.rows 0 8 (ls.map b8)]) r_ ([.rows 0 8 (ls.map b8)]):=by
 refine DN tt_ok [2,7] 19 [.tmp 2] (fn:=Tryz.f201) Tryz.func201 rfl Tryz.call201 ⟨rfl,rfl,by simp⟩ fun K hK=>?_;subst zR;simp only [go_sem];refine alI 3 0 1 (by decide) rfl ?_;refine JQ tt_ok [2,7] ?_;simp only [go_sem];refine fK tt_ok [2,7] (fun a:Nat×Nat=>[(3,.ms 1 a.2 0 (ls.take a.1).length),(6,.ms 0 0 0 ls.length),(7,num ls.length),(8,num a.1)]) (fun a:Nat×Nat=>[.rows 0 8 (ls.map b8),.rows a.2 1 ((ls.take a.1).map fun x=>str x.name)]) (fun a=>ls.length-a.1) (fun a=>a.1≤ls.length) ((0,0)) 2 (di (by omega) (by simp only [dV,bW,aA,bB,go_sem] <;> rfl)) (aW _) ?_;intro ⟨i,w⟩ hi;try dsimp only at hi
 try dsimp only
 intro Z1 dv;simp only [go_sem];refine bQ (fun kQ=>?_) (fun kQ=>?_);·(have eA:i<ls.length:=by simpa using kQ);have dB:=a7 i (by omega);obtain⟨x,hx⟩:∃ x,ls[i]?=some x:=⟨_,af eA⟩;(have rP:ls.take (i+1)=ls.take i++[x]:=by rw [bn,hx];rfl);(have rY:(ls.take i).length+1≤34359738368:=by rw [cn];omega);(have eS:((i:Nat):Int)<((ls.length:Nat):Int):=by omega);simp only [eS,dB,hx,ae,rY,b8,ah,ai,ak,go_sem];refine dv _ ⟨(i+1,w+1),?_,?_,di (by omega) (by (simp only [dB,rP,af3,Y5,go_sem]))⟩;(·exact eA);dsimp only;omega
 have my:i=ls.length:=by have h_:¬ i<ls.length:=(by simpa using kQ);omega
 rw [my,au];simp only [go_sem];refine alH (v':=.slice ((ls.map Lb.name).map str)) 3 (by decide) rfl (by simp [lk,gH,dk,jS,bu]) ?_;refine JQ tt_ok [2,7] ?_;simp only [go_sem];exact hK _ _ ⟨rfl,rfl⟩
end
theorem Lu (ls:List Lb) (nl:Nat) (zR:ls.length=nl) (hl:ls.length≤1048576) {M:List bm} {k:Nat} (hM:M[k]?=some (.rows 0 8 (ls.map b8))):∃ r_,(fun w=>w = .slice ((ls.map Lb.name).map str)) r_∧bw ab 201 [.ms k 0 0 nl] M r_ M:=by obtain⟨_,rfl,h⟩:=Lt ls nl zR hl;have h2:=bw.keys (mem:=[.rows 0 8 (ls.map b8)]) (B:=.rows 0 8 (ls.map b8)) (j0:=0) h M [k] rfl (by simp) (by simp) (by simp [aG]) rfl rfl rfl (fun i B hi=>by (rcases i with _|i);(·cases hi;exact hM);simp at hi);have e:M.set (oo [k] M.length 0) (nR (oo [k] M.length) (.rows 0 8 (ls.map b8)))=M:=rA hM;rw [e] at h2;exact⟨_,rfl,h2⟩
section
attribute [local go_sem] aR aw re ab1 eP Hc
attribute [local go_sem ↓] w5 w6
theorem Lv (k:Int) (m n tx:ByteArray) (j:Int) (ts:List V) (ls:List Lb) (ks:List V) (loc:List ByteArray) (i nt nl nk:Nat) (zR:ls.length=nl) (hl:nl≤1048576) (hk:nk≤1048576) (hi:i<nk) (xw:k=13→nk≤nl+1):∃ r_,(fun w=>w=gr (lg k ls n tx nk loc i)) r_∧bw ab 145 [.agg [num k,str m,str n,str tx,num j,.ms 0 0 0 nt,.ms 1 0 0 nl,.ms 2 0 0 nk],gr loc,num i] ([.rows 0 5 ts,.rows 0 8 (ls.map b8),.rows 0 8 ks]) r_ ([.rows 0 5 ts,.rows 0 8 (ls.map b8),.rows 0 8 ks]):=by
 refine DN tt_ok [1,3,5,7] 71 [.tmp 6] (fn:=Tryz.f145) Tryz.func145 rfl Tryz.call145 ⟨rfl,rfl,by simp⟩ fun K hK=>?_;have ez:IntKind.i64.wrap ((nk:Int)-1)=(nk:Int)-1:=IntWalk.i64_in _ (by omega);have dB:IntKind.i64.wrap ((i:Int)-1)=(i:Int)-1:=IntWalk.i64_in _ (by omega);simp only [ez,dB,go_sem];refine dI tt_ok [1,3,5,7] [7] 4 [0,1,2,3,6] (fun vs=>vs=[bl (decide (k=8)&&decide ((i:Int)=(nk:Int)-1))]) (fun Z1 dv=>?_) ?_;·simp only [ez,dB,go_sem];refine gA tt_ok ?_;repeat' (simp only [ez,dB,go_sem];first|refine bQ (fun hg=>?_) (fun hg=>?_)|(refine dv _ (eI (by omega) (by simp only [ez,dB,go_sem]) ?_);simp only [eE,lk,reduceIte,zE];exact congrArg (fun b=>[bl b]) (by clear hK dv;simp_all)))
 intro vs hJ;obtain rfl:=hJ;simp only [ez,dB,go_sem];refine bQ (fun Af=>?_) (fun Af=>?_);·have bM:=af6 (ls:=ls) (n:=n) (t:=tx) (loc:=loc) Af;simp only [ez,dB,go_sem];refine xv (Lu ls nl zR (by omega) rfl) ?_;simp only [ez,dB,go_sem];refine dg (BS loc (ls.map Lb.name) (by rw [aw];omega)) ?_;simp only [ez,dB,go_sem];exact hK _ _ ⟨by rw [bM] <;> rfl,rfl⟩
 have h8:=ab3 (ls:=ls) (n:=n) (t:=tx) (loc:=loc) Af;simp only [← al4,← al5,← al6] at h8;simp only [ez,dB,go_sem];refine dI tt_ok [1,3,5,7] [24] 4 [0,1,2,3,6,7,8,9,10,11,12,13,14,15,16,17,18,19,20,21,22,23] (fun vs=>vs=[bl (decide (k=10)&&decide ((i:Int)=1))]) (fun Z2 jk=>?_) ?_;·simp only [ez,dB,go_sem];refine gA tt_ok ?_;repeat' (simp only [ez,dB,go_sem];first|refine bQ (fun hg=>?_) (fun hg=>?_)|(refine jk _ (eI (by omega) (by simp only [ez,dB,go_sem]) ?_);simp only [eE,lk,reduceIte,zE];exact congrArg (fun b=>[bl b]) (by clear hK jk;simp_all)))
 intro vs hJ;obtain rfl:=hJ;simp only [ez,dB,go_sem];refine bQ (fun pZ=>?_) (fun pZ=>?_);·have bM:=h8;rw [if_pos (Sk pZ)] at bM;simp only [ez,dB,go_sem];refine dg (⟨_,rfl,Sj loc n⟩) ?_;simp only [ez,dB,go_sem];exact hK _ _ ⟨by rw [bM] <;> rfl,rfl⟩
 rw [if_neg (Sl pZ)] at h8;simp only [ez,dB,go_sem];refine dI tt_ok [1,3,5,7] [37] 4 [0,1,2,3,6,7,8,9,10,11,12,13,14,15,16,17,18,19,20,21,22,23,24,25,26,27,28,29,30,31,32,33,34,35,36] (fun vs=>vs=[bl (decide (k=13)&&decide (0<(i:Int)))]) (fun Z3 pY=>?_) ?_;·simp only [ez,dB,go_sem];refine gA tt_ok ?_;repeat' (simp only [ez,dB,go_sem];first|refine bQ (fun hg=>?_) (fun hg=>?_)|(refine pY _ (eI (by omega) (by simp only [ez,dB,go_sem]) ?_);simp only [eE,lk,reduceIte,zE];exact congrArg (fun b=>[bl b]) (by clear hK pY;simp_all)))
 intro vs hJ;obtain rfl:=hJ;simp only [ez,dB,go_sem];refine bQ (fun x6=>?_) (fun x6=>?_);·have h37:=Sk x6;have Mr:=xw h37.1;obtain⟨y,hy⟩:∃ y,ls[i-1]?=some y:=⟨_,af (by omega)⟩;have bM:=h8;rw [if_pos h37,hy] at bM;(have hci:(i:Int)-1=((i-1:Nat):Int):=by omega);(have Sm:((i-1:Nat):Int)<(nl:Int):=by omega);have im:IntKind.i64.wrap ((i-1:Nat):Int)=((i-1:Nat):Int):=IntWalk.i64_in _ (by omega);simp only [hci,Sm,im,hy,ae,b8,ah,ai,ak,ez,dB,go_sem];refine dg (⟨_,rfl,Sj loc y.var⟩) ?_;simp only [hci,Sm,im,hy,ae,b8,ah,ai,ak,ez,dB,go_sem];exact hK _ _ ⟨by rw [bM] <;> rfl,rfl⟩
 rw [if_neg (Sl x6)] at h8;simp only [ez,dB,go_sem];refine dI tt_ok [1,3,5,7] [55] 4 [0,1,2,3,6,7,8,9,10,11,12,13,14,15,16,17,18,19,20,21,22,23,24,25,26,27,28,29,30,31,32,33,34,35,36,37,38,39,40,41,42,43,44,45,46,47,48,49,50,51,52,53,54] (fun vs=>vs=[bl (decide (k=15)&&decide ((i:Int)=2))]) (fun Z4 rE=>?_) ?_;·simp only [ez,dB,go_sem];refine gA tt_ok ?_;repeat' (simp only [ez,dB,go_sem];first|refine bQ (fun hg=>?_) (fun hg=>?_)|(refine rE _ (eI (by omega) (by simp only [ez,dB,go_sem]) ?_);simp only [eE,lk,reduceIte,zE];exact congrArg (fun b=>[bl b]) (by clear hK rE;simp_all)))
 intro vs hJ;obtain rfl:=hJ;simp only [ez,dB,go_sem];refine bQ (fun ab4=>?_) (fun ab4=>?_);·have bM:=h8;rw [if_pos (Sk ab4)] at bM;simp only [ez,dB,go_sem];refine dg (⟨_,rfl,ab2 loc n tx⟩) ?_;simp only [ez,dB,go_sem];exact hK _ _ ⟨by rw [bM] <;> rfl,rfl⟩
 have bM:=h8;rw [if_neg (Sl ab4)] at bM;simp only [ez,dB,go_sem];exact hK _ _ ⟨by rw [bM] <;> rfl,rfl⟩
end
theorem B8 (k:Int) (m n tx:ByteArray) (j:Int) (ts:List V) (ls:List Lb) (ks:List V) (loc:List ByteArray) (i nt nl nk:Nat) (zR:ls.length=nl) (hl:nl≤1048576) (hk:nk≤1048576) (hi:i<nk) (xw:k=13→nk≤nl+1) {M:List bm} {B0:bm} {k0 a b c:Nat}
  (h0:M[k0]?=some B0) (hv:B0.dF=0) (ha:M[a]?=some (.rows 0 5 ts)) (hb:M[b]?=some (.rows 0 8 (ls.map b8))) (hc:M[c]?=some (.rows 0 8 ks)) (lq:[a,b,c].Nodup) :
  ∃ r_ B_,(fun r B=>r=gr (lg k ls n tx nk loc i)∧B=B0) r_ B_∧B_.dF=0∧bw ab 145 [.agg [num k,str m,str n,str tx,num j,.ms a 0 0 nt,.ms b 0 0 nl,.ms c 0 0 nk],gr loc,num i] M r_ (M.set k0 B_):=by obtain⟨_,rfl,h⟩:=Lv k m n tx j ts ls ks loc i nt nl nk zR hl hk hi xw;have h2:=bw.keys (mem:=[.rows 0 5 ts,.rows 0 8 (ls.map b8),.rows 0 8 ks]) (B:=.rows 0 5 ts) (j0:=0) h M [a,b,c] rfl lq (by simp) (by simp [aG,a8,aR]) rfl rfl (aR _ _) (fun i B hi=>by (rcases i with _|_|_|i);(·cases hi;exact ha);(·cases hi;exact hb);(·cases hi;exact hc);simp at hi);have e:M.set (oo [a,b,c] M.length 0) (nR (oo [a,b,c] M.length) (.rows 0 5 ts))=M:=rA ha;rw [e] at h2;refine⟨_,_,⟨rfl,rfl⟩,hv,?_⟩;rw [rA h0];simpa [ki,fO,oo,lz] using h2
end
section
def Ao (g:Ty→Option ByteArray) (k:Int) (l:Lb):Lb:=if k=8 then l.res g else l
theorem W2 (g:Ty→Option ByteArray) (k:Int) (ls:List Lb):Y4 g k ls=ls.map (Ao g k):=by
 unfold Y4;split;·rename_i h;exact iq fun l _=>(if_pos h).symm
 rename_i h;conv=>lhs;rw [← as3 ls]
 exact iq fun l _=>(if_neg h).symm
theorem Sn (g:Ty→Option ByteArray) (k:Int) (l:Lb):(Ao g k l).name=l.name:=by unfold Ao Lb.res;split <;> rfl
theorem W3 (g:Ty→Option ByteArray) (k:Int) (l:Lb):(Ao g k l).var=l.var:=by unfold Ao Lb.res;split <;> rfl
theorem M6 (g:Ty→Option ByteArray) (k' k:Int) (ls:List Lb) (n t:ByteArray) (nk:Nat) (loc:List ByteArray) (i:Nat):lg k (ls.map (Ao g k')) n t nk loc i=lg k ls n t nk loc i:=by
 unfold lg;have h1:(ls.map (Ao g k')).map Lb.name=ls.map Lb.name:=by rw [ar6];exact iq fun l _=>Sn g k' l
 have h2:((ls.map (Ao g k'))[i-1]?).elim ⟨#[]⟩ Lb.var=(ls[i-1]?).elim ⟨#[]⟩ Lb.var:=by rw [ae];cases ls[i-1]? with|none=>rfl|some l=>exact W3 g k' l
 rw [h1,h2]
theorem Sp {S α:Type} (k:Int) (f:S→α→S) (ls:List α) (a:S):(if k=8 then ls else []).foldl f a=ls.foldl (fun a l=>if k=8 then f a l else a) a:=by
 by_cases h:k=8;·(have e:(fun (a:S) (l:α)=>if k=8 then f a l else a)=f:=by funext a l;exact if_pos h);rw [if_pos h,e]
 have e:(fun (a:S) (l:α)=>if k=8 then f a l else a)=fun a _=>a:=by funext a l;exact if_neg h
 rw [if_neg h,e];induction ls with|nil=>rfl|cons x r ih=>exact ih
theorem ab5 {g:Ty→Option ByteArray} {h:D4} {loc:List ByteArray} {x:Ex} {uk:Int} {um:ByteArray} (hu:kC h loc x=(uk,um)) :
  x.res g h loc = .mk uk um x.name x.text x.num (x.types.map (Ty.res g)) (x.labels.map (Ao g uk)) (dR g h (lg uk x.labels x.name x.text x.kids.length loc) 0 x.kids):=by rw [Ex.ke,W2];unfold Vg;rw [hu]
theorem Y9 {S:Type} {g:Ty→Option ByteArray} {h:D4} {s:S→Ty→S} {v:List ByteArray→S→Ex→S} {loc:List ByteArray} {x:Ex} {uk:Int} {um:ByteArray} (a:S) (hu:kC h loc x=(uk,um)) :
  x.fold g h s v loc a=eR g h s v (lg uk x.labels x.name x.text x.kids.length loc) 0 x.kids (x.labels.foldl (fun a l=>if uk=8 then l.ty.fold g s a else a) (x.types.foldl (fun a t=>t.fold g s a) (if x.kind=3∨x.kind=4 then v loc a x else a))):=by rw [Ex.fold_eq,Sp];unfold Vg;rw [hu]
theorem IW {g:Ty→Option ByteArray} {h:D4} {lo:Nat→List ByteArray} {ks al:List Ex} {i:Nat} {x:Ex} (has:al=dR g h lo 0 (ks.take i)++ks.drop i) (hx:ks[i]?=some x):al.set i (x.res g h (lo i))=dR g h lo 0 (ks.take (i+1))++ks.drop (i+1):=by
 have bR:=(aq.1 hx).1;have hl:(dR g h lo 0 (ks.take i)).length=i:=by rw [iY];simp;omega
 rw [has,dt _ _ (by omega),hl,cI,cr bR,eD,zf hx];simp
theorem M7 {g:Ty→Option ByteArray} {h:D4} {lo:Nat→List ByteArray} {ks al:List Ex} {i:Nat} {x:Ex} (has:al=dR g h lo 0 (ks.take i)++ks.drop i) (hx:ks[i]?=some x):al[i]?=some x∧al.length=ks.length:=by
 have bR:=(aq.1 hx).1;have hl:(dR g h lo 0 (ks.take i)).length=i:=by rw [iY];simp;omega
 constructor;·rw [has,a6 (by omega),hl,cI,CM];simpa using hx
 rw [has,bc,hl];simp;omega
theorem tke {l:List Ex} {n:Nat} (h:l.length=n):(eC l).take n=eC l:=bu (by rw [bF];omega)
theorem OP (X:Rv) (vs:List ByteArray) (v:Nat) (e:Int) (iJ:X.decls.length≤1048576) (jg:vs.length≤1048576) (loc:List ByteArray) (x:Ex) (uk:Int) (um:ByteArray) (hu:hR X loc x=(uk,um)) (e1:Int) (he:e1=vR X loc e x) {M:List bm} (hM:GG M X vs v e 0 1 2 3):∃ r_ B_,(fun r B=>r = .agg [num uk,str um,str x.name,str x.text,num x.num,.slice (bN x.types),.slice (x.labels.map b8),.slice (eC x.kids)]∧B=bm.box (qF X (.ms 3 v 0 vs.length) (num (e1)))) r_ B_∧B_.dF=0∧bw ab 86 [.ptr 0 0,gr loc,.agg (xC x)] M r_ (M.set 0 B_):=by subst he;have h:=Sd X vs v e iJ jg loc x hM;rw [aT,aT,hu] at h;exact h
theorem OQ {X:Rv} {vs:List ByteArray} {v:Nat} {x y:Ex} {loc:List ByteArray} {e1 e2:Int} (h:bw ab 88 [.ptr 0 0,gr loc,cu x] (L4 X vs v e1) (cu y) (L4 X vs v e2)) {M:List bm} (hM:GG M X vs v e1 0 1 2 3):∃ r_ B_,(fun r B=>r = .agg (xC y)∧B=bm.box (qF X (.ms 3 v 0 vs.length) (num (e2)))) r_ B_∧B_.dF=0∧bw ab 88 [.ptr 0 0,gr loc,.agg (xC x)] M r_ (M.set 0 B_):=by have h2:=Vh h (by simp [aG,a8,aT,aJ,aR]) (by simp [aG,a8,aT,aJ]) hM;refine⟨_,_,⟨rfl,rfl⟩,rfl,?_⟩;simpa [ki,fO,oo,aT,aJ,lz,M5] using h2
section
attribute [local go_sem] dp aK bF aw
attribute [local go_sem ↓] w5 w6
theorem Lw (X:Rv) (vs:List ByteArray) (v:Nat) (e:Int) (iJ:X.decls.length≤1048576) (jg:vs.length≤1048576) (loc:List ByteArray) (x:Ex) (Hw:x.types.length≤1048576) (PJ:x.labels.length≤1048576) (Mr:x.kids.length≤1048576) (xw:(kC (hR X) loc x).1=13→x.kids.length≤x.labels.length+1)
  (hT:∀ t∈x.types,∀ e,bw ab 87 [.ptr 0 0,cd t] (L4 X vs v e) (cd (t.res (gR X vs))) (L4 X vs v (t.fold (gR X vs) (sR X vs) e))) (hL:∀ l∈x.labels,∀ e,bw ab 87 [.ptr 0 0,cd l.ty] (L4 X vs v e) (cd (l.ty.res (gR X vs))) (L4 X vs v (l.ty.fold (gR X vs) (sR X vs) e)))
  (fG:∀ k∈x.kids,∀ loc e,bw ab 88 [.ptr 0 0,gr loc,cu k] (L4 X vs v e) (cu (k.res (gR X vs) (hR X) loc)) (L4 X vs v (k.fold (gR X vs) (hR X) (sR X vs) (vR X) loc e))):∃ r_ m_,(fun r m=>r=cu (x.res (gR X vs) (hR X) loc)∧m=[.box (qF X (.ms 3 v 0 vs.length) (num (x.fold (gR X vs) (hR X) (sR X vs) (vR X) loc e))),.box [.mp 2],uq X,.rows v 1 (vs.map str)]) r_ m_∧bw ab 88 [.ptr 0 0,gr loc,cu x] ([.box (qF X (.ms 3 v 0 vs.length) (num (e))),.box [.mp 2],uq X,.rows v 1 (vs.map str)]) r_ m_:=by
 refine MR tt_ok [1,20,30000] 100 [.cell 6 45] (4) (by simp) (fn:=Tryz.f88) Tryz.func88 rfl Tryz.call88 ⟨rfl,rfl,by simp⟩ fun K hK=>?_;obtain⟨uk,um,hu⟩:∃ uk um,kC (hR X) loc x=(uk,um):=⟨_,_,rfl⟩;obtain⟨e1,Lr⟩:∃ y,y=(if x.kind=3∨x.kind=4 then (vR X) loc e x else e):=⟨_,rfl⟩;rw [hu] at xw;dsimp only at xw;have Sq:=ab5 (g:=(gR X vs)) hu;have B9:=Y9 (g:=(gR X vs)) (s:=(sR X vs)) (v:=(vR X)) e hu;rw [← Lr] at B9;simp only [aT,aJ];simp only [aR,go_sem];refine oN (n:=100) tt_ok [1,20,30000] (fun _:Unit=>[(0,.ptr 0 0),(1,gr loc),(5,.ptr 4 0),(6,.ptr 5 0)]) (fun _:Unit=>[.box (qF X (.ms 3 v 0 vs.length) (num (e1))),.box [.mp 2],uq X,.rows v 1 (vs.map str),.box [num uk,str um,str x.name,str x.text,num x.num,.slice (bN x.types),.slice (x.labels.map b8),.slice (eC x.kids)],.box PI]) 6 (fun _=>True) (fun Z1 dv=>?_) ?_;·simp only [aR,go_sem];refine dI tt_ok [1,20,30000] [19] 6 [0,1,2,5,6] (fun vs=>vs=[bl (decide (x.kind=3)||decide (x.kind=4))]) (fun Z2 jk=>?_) ?_;(·simp only [aR,go_sem];refine gA tt_ok ?_;simp only [aR,go_sem];refine bQ (fun jD=>?_) (fun jD=>?_) <;> simp only [aR,go_sem];(·refine jk _ (eI (by omega) (by simp only [aR,go_sem]) ?_);simp only [eE,lk,reduceIte,zE];exact congrArg (fun b=>[bl b]) (by rw [jD];first|rfl|simp));refine jk _ (eI (by omega) (by simp only [aR,go_sem]) ?_);simp only [eE,lk,reduceIte,zE];exact congrArg (fun b=>[bl b]) (by rw [jD];first|rfl|simp));intro vs hJ;obtain rfl:=hJ;simp only [aR,go_sem];refine bQ (fun vh=>?_) (fun vh=>?_);(·(have hk:x.kind=3∨x.kind=4:=by simpa using vh);(have B5:(hR X) loc x=(uk,um):=by rw [← hu];unfold kC;rw [if_pos hk]);(have FW:e1=(vR X) loc e x:=by rw [Lr,if_pos hk]);simp only [aR,go_sem];refine dW tt_ok bU [pN,jA [0],jA [0,1],n9 [0,1,2],pN,pN,pR,⟨.e,0,[],[0,1,2,3,4,5,6],[]⟩,⟨.w,0,[],[0,1,2,3,4,5,6,7],[]⟩] 1 kr ?_;simp only [aR,go_sem];refine xu rfl rfl (OP X vs v e iJ jg loc x uk um B5 e1 FW ⟨rfl,rfl,rfl,rfl,by decide⟩) ?_;rintro _ _ ⟨rfl,rfl⟩;simp only [aR,go_sem];(try rw [iA,lr,← FW]);refine dv _ ⟨(),?_,di (by omega) (by simp only [aR,go_sem])⟩;exact trivial);(have hk:¬ (x.kind=3∨x.kind=4):=by simpa using vh);(have B5:(x.kind,x.mod)=(uk,um):=by rw [← hu];unfold kC;rw [if_neg hk]);have iA:x.kind=uk:=(asV B5).1;have lr:x.mod=um:=(asV B5).2;(have FW:e1=e:=by rw [Lr,if_neg hk]);simp only [aR,go_sem];(try rw [iA,lr,← FW]);refine dv _ ⟨(),?_,di (by omega) (by simp only [aR,go_sem])⟩;exact trivial
 intro _ _;simp only [aR,go_sem];refine dW tt_ok bU [pN,n9 [0],⟨.a,0,[],[0,1],[]⟩,pN,⟨.r,0,[0],[3],[]⟩,⟨.a,1,[],[0,1,2,3,4],[]⟩,pN,⟨.r,0,[0,1],[6],[]⟩,⟨.a,2,[],[0,1,2,3,4,5,6,7],[]⟩,jA [0,1,2,3,4,6,7],⟨.w,3,[],[0,1,2,3,4,5,6,7,8,9],[]⟩,jA [0,1,2,3,4,5,6,7,8,9,10],⟨.w,4,[],[0,1,2,3,4,5,6,7,8,9,10,11],[]⟩,jA [0,1,2,3,4,5,6,7,8,9,10,11,12],⟨.w,5,[],[0,1,2,3,4,5,6,7,8,9,10,11,12,13],[]⟩] 6 kr ?_;simp only [aR,go_sem];refine Rf ⟨_,m6 (bN x.types) (nH x.types 0) (by rw [aK];omega)⟩ ?_;simp only [aR,go_sem];refine Rf ⟨_,BX (x.labels.map b8) (IU x.labels 0) (by rw [aw];omega)⟩ ?_;simp only [aR,go_sem];refine Rf ⟨_,BZ (eC x.kids) (IV x.kids 0) (by rw [bF];omega)⟩ ?_;simp only [aR,go_sem];refine sq tt_ok [1,20,30000] ?_;simp only [aR,go_sem];refine fK tt_ok [1,20,30000] (fun a:Nat×List Ty×Int=>[(0,.ptr 0 0),(1,gr loc),(5,.ptr 4 0),(6,.ptr 5 0),(41,.ms 6 0 0 x.types.length),(42,num x.types.length),(43,num a.1)]) (fun a:Nat×List Ty×Int=>[.box (qF X (.ms 3 v 0 vs.length) (num (a.2.2))),.box [.mp 2],uq X,.rows v 1 (vs.map str),.box [num uk,str um,str x.name,str x.text,num x.num,.ms 6 0 0 x.types.length,.ms 7 0 0 x.labels.length,.ms 8 0 0 x.kids.length],.box PI,.rows 0 5 (bN a.2.1),.rows 0 8 ((x.labels).map b8),.rows 0 8 (eC x.kids),.hole,.hole,.hole]) (fun a=>x.types.length-a.1) (fun a=>a.1≤x.types.length∧a.2.1=(x.types.take a.1).map (Ty.res (gR X vs))++x.types.drop a.1∧a.2.2=(x.types.take a.1).foldl (fun a t=>t.fold (gR X vs) (sR X vs) a) e1) ((0,x.types,e1)) 12 (di (by omega) (by simp only [aR,bB,go_sem] <;> rfl)) (⟨aW _,by simp [dR],by first|rfl|simp [eR]⟩) ?_;rintro⟨i,al,ei⟩ ⟨hi,has,mG⟩;try dsimp only at hi has mG
 try dsimp only
 intro Z3 pY;simp only [aR,go_sem];refine bQ (fun vi=>?_) (fun vi=>?_);·(have bR:i<x.types.length:=by simpa using vi);rw [vi];obtain⟨y,hy⟩:∃ y,x.types[i]?=some y:=⟨_,af bR⟩;obtain⟨mz,fP⟩:=nJ has hy;(have eS:((i:Nat):Int)<((x.types.length:Nat):Int):=by omega);have hw:=a7 i (by omega);simp only [aR,eS,bo,mz,az,ah,hw,setRow,fP,go_sem];refine dW tt_ok bU [pN,⟨.r,0,[],[0],[0]⟩,pN,pN,pR,⟨.e,0,[],[3,4],[]⟩,n9 [0,1,2,3,4,5],⟨.w,0,[],[0,1,2,3,4,5,6],[]⟩] 1 kr ?_;simp only [aR,eS,bo,mz,az,ah,hw,setRow,fP,go_sem];refine xu rfl rfl (tY (hT y (ay hy) ei) ⟨rfl,rfl,rfl,rfl,by decide⟩) ?_;rintro _ _ ⟨rfl,rfl⟩;simp only [aR,eS,bo,mz,az,ah,hw,setRow,fP,go_sem];refine pY _ ⟨(i+1,al.set i (y.res (gR X vs)),y.fold (gR X vs) (sR X vs) ei),?_,?_,di (by omega) (by (simp [rv,lk,er,eZ,aG,aS,a8,aR,cP,gg,az,az,ah];exact fun a b c h=>oT _ _ a b c h))⟩;(·exact⟨bR,j4 has hy,by rw [iZ hy,← mG]⟩);dsimp only;omega
 have hZ:¬ i<x.types.length:=by simpa using vi
 have iC:i=x.types.length:=by omega
 have oW:al=x.types.map (Ty.res (gR X vs)):=by rw [has,iC];simp
 subst oW;obtain⟨ej,B6⟩:∃ y,y=ei:=⟨_,rfl⟩;have B7:ej=x.types.foldl (fun a t=>t.fold (gR X vs) (sR X vs) a) e1:=by rw [B6,mG,iC,au]
 rw [← B6];clear B6 mG;simp only [aR,go_sem];refine sq tt_ok [1,20,30000] ?_;simp only [aR,go_sem];refine fK tt_ok [1,20,30000] (fun a:Nat×List Lb×Int=>[(0,.ptr 0 0),(1,gr loc),(5,.ptr 4 0),(6,.ptr 5 0),(57,.ms 7 0 0 x.labels.length),(58,num x.labels.length),(59,num a.1)]) (fun a:Nat×List Lb×Int=>[.box (qF X (.ms 3 v 0 vs.length) (num (a.2.2))),.box [.mp 2],uq X,.rows v 1 (vs.map str),.box [num uk,str um,str x.name,str x.text,num x.num,.ms 6 0 0 x.types.length,.ms 7 0 0 x.labels.length,.ms 8 0 0 x.kids.length],.box PI,.rows 0 5 (bN (x.types.map (Ty.res (gR X vs)))),.rows 0 8 ((a.2.1).map b8),.rows 0 8 (eC x.kids),.hole,.hole,.hole]) (fun a=>x.labels.length-a.1) (fun a=>a.1≤x.labels.length∧a.2.1=(x.labels.take a.1).map (Ao (gR X vs) uk)++x.labels.drop a.1∧a.2.2=(x.labels.take a.1).foldl (fun a l=>if uk=8 then l.ty.fold (gR X vs) (sR X vs) a else a) ej) ((0,x.labels,ej)) 12 (di (by omega) (by simp only [aR,bB,go_sem] <;> rfl)) (⟨aW _,by simp [dR],by first|rfl|simp [eR]⟩) ?_;rintro⟨i,al,ei⟩ ⟨hi,has,mG⟩;try dsimp only at hi has mG
 try dsimp only
 intro Z4 rE;simp only [aR,go_sem];refine bQ (fun rF=>?_) (fun rF=>?_);·(have bR:i<x.labels.length:=by simpa using rF);rw [rF];obtain⟨y,hy⟩:∃ y,x.labels[i]?=some y:=⟨_,af bR⟩;obtain⟨mz,fP⟩:=nJ has hy;(have eS:((i:Nat):Int)<((x.labels.length:Nat):Int):=by omega);have hw:=a7 i (by omega);(rcases Decidable.em (uk=8) with h8|h8);(·simp only [aR,eS,ae,mz,hw,setRow,fP,b8,ah,ai,ak,go_sem];refine bQ (fun vj=>?_) (fun vj=>?_);(·simp only [aR,eS,ae,mz,hw,setRow,fP,b8,ah,ai,ak,go_sem];refine dW tt_ok bU [pN,⟨.r,0,[],[0],[0]⟩,pN,pN,pN,n9 [4],pN,n9 [4,5,6],jA [4,5,6,7],n9 [4,5,6,7,8],⟨.e,0,[],[3,4,5,6,7,8,9],[]⟩,n9 [0,1,2,3,4,5,6,7,8,9,10],jA [0,1,2,3,4,5,6,7,8,9,10,11],⟨.w,0,[],[0,1,2,3,4,5,6,7,8,9,10,11,12],[]⟩] 1 kr ?_;simp only [aR,eS,ae,mz,hw,setRow,fP,b8,ah,ai,ak,go_sem];refine xu rfl rfl (tY (hL y (ay hy) ei) ⟨rfl,rfl,rfl,rfl,by decide⟩) ?_;rintro _ _ ⟨rfl,rfl⟩;simp only [aR,eS,ae,mz,hw,setRow,fP,b8,ah,ai,ak,go_sem];refine rE _ ⟨(i+1,al.set i (y.res (gR X vs)),y.ty.fold (gR X vs) (sR X vs) ei),?_,?_,di (by omega) (by (simp [rv,lk,er,eZ,aG,aS,a8,aR,cP,gg,b8,az,ah,Lb.res];exact fun a b c h=>oT _ _ a b c h))⟩;(·exact⟨bR,by have h_:=j4 has hy;rwa [show Ao (gR X vs) uk y=y.res (gR X vs) from if_pos h8] at h_,by rw [iZ hy,← mG,if_pos h8]⟩);dsimp only;omega);(rw [decide_eq_true h8] at vj;cases vj));simp only [aR,eS,ae,mz,hw,setRow,fP,b8,ah,ai,ak,go_sem];refine bQ (fun vj=>?_) (fun vj=>?_);(·(rw [decide_eq_false h8] at vj;cases vj));simp only [aR,eS,ae,mz,hw,setRow,fP,b8,ah,ai,ak,go_sem];refine rE _ ⟨(i+1,al,ei),?_,?_,di (by omega) (by (simp [rv,lk,er,eZ,aG,aS,a8,aR,cP,gg,b8,az,ah];exact fun a b c h=>oT _ _ a b c h))⟩;(·exact⟨bR,by have h_:=j4 has hy;rwa [show Ao (gR X vs) uk y=y from if_neg h8,oL mz] at h_,by rw [iZ hy,← mG,if_neg h8]⟩);dsimp only;omega
 have W1:¬ i<x.labels.length:=by simpa using rF
 have iC:i=x.labels.length:=by omega
 have oW:al=x.labels.map (Ao (gR X vs) uk):=by rw [has,iC];simp
 subst oW;obtain⟨ek,hek⟩:∃ y,y=ei:=⟨_,rfl⟩;have Ls:ek=x.labels.foldl (fun a l=>if uk=8 then l.ty.fold (gR X vs) (sR X vs) a else a) ej:=by rw [hek,mG,iC,au]
 rw [← hek];clear hek mG;simp only [aR,go_sem];refine sq tt_ok [1,20,30000] ?_;simp only [aR,go_sem];refine fK tt_ok [1,20,30000] (fun a:Nat×List Ex×Int=>[(0,.ptr 0 0),(1,gr loc),(5,.ptr 4 0),(6,.ptr 5 0),(80,.ms 8 0 0 x.kids.length),(81,num x.kids.length),(82,num a.1)]) (fun a:Nat×List Ex×Int=>[.box (qF X (.ms 3 v 0 vs.length) (num (a.2.2))),.box [.mp 2],uq X,.rows v 1 (vs.map str),.box [num uk,str um,str x.name,str x.text,num x.num,.ms 6 0 0 x.types.length,.ms 7 0 0 x.labels.length,.ms 8 0 0 x.kids.length],.box PI,.rows 0 5 (bN (x.types.map (Ty.res (gR X vs)))),.rows 0 8 ((x.labels.map (Ao (gR X vs) uk)).map b8),.rows 0 8 (eC a.2.1),.hole,.hole,.hole]) (fun a=>x.kids.length-a.1) (fun a=>a.1≤x.kids.length∧a.2.1=dR (gR X vs) (hR X) (lg uk x.labels x.name x.text x.kids.length loc) 0 (x.kids.take a.1)++x.kids.drop a.1∧a.2.2=eR (gR X vs) (hR X) (sR X vs) (vR X) (lg uk x.labels x.name x.text x.kids.length loc) 0 (x.kids.take a.1) ek) ((0,x.kids,ek)) 12 (di (by omega) (by simp only [aR,bB,go_sem] <;> rfl)) (⟨aW _,by simp [dR],by first|rfl|simp [eR]⟩) ?_;rintro⟨i,al,ei⟩ ⟨hi,has,mG⟩;try dsimp only at hi has mG
 try dsimp only
 intro Z5 Ca;simp only [aR,go_sem];refine bQ (fun FX=>?_) (fun FX=>?_);·(have bR:i<x.kids.length:=by simpa using FX);rw [FX];obtain⟨y,hy⟩:∃ y,x.kids[i]?=some y:=⟨_,af bR⟩;obtain⟨mz,fP⟩:=M7 has hy;(have eS:((i:Nat):Int)<((x.kids.length:Nat):Int):=by omega);have hw:=a7 i (by omega);simp only [aR,eS,cq,mz,aT,aJ,hw,setRow,fP,go_sem];refine dW tt_ok bU [pN,⟨.r,0,[],[0],[0]⟩,pN,pN,pR,pN,pN,⟨.e,0,[],[4,5,6],[]⟩,⟨.r,0,[],[],[0]⟩,⟨.e,0,[],[3,4,5,6,7,8],[]⟩,n9 [0,1,2,3,4,5,6,7,8,9],⟨.w,0,[],[0,1,2,3,4,5,6,7,8,9,10],[]⟩] 1 kr ?_;simp only [aR,eS,cq,mz,aT,aJ,hw,setRow,fP,go_sem];refine xu rfl rfl (B8 uk um x.name x.text x.num (bN (x.types.map (Ty.res (gR X vs)))) (x.labels.map (Ao (gR X vs) uk)) (eC al) loc i x.types.length x.labels.length x.kids.length (by simp) PJ Mr bR xw (k0:=0) (a:=6) (b:=7) (c:=8) rfl rfl rfl rfl rfl (by decide)) ?_;rintro _ _ ⟨rfl,rfl⟩;rw [M6];simp only [aR,eS,cq,mz,aT,aJ,hw,setRow,fP,go_sem];refine xu rfl rfl (OQ (fG y (ay hy) ((lg uk x.labels x.name x.text x.kids.length loc) i) ei) ⟨rfl,rfl,rfl,rfl,by decide⟩) ?_;rintro _ _ ⟨rfl,rfl⟩;simp only [aR,eS,cq,mz,aT,aJ,hw,setRow,fP,go_sem];refine Ca _ ⟨(i+1,al.set i (y.res (gR X vs) (hR X) ((lg uk x.labels x.name x.text x.kids.length loc) i)),y.fold (gR X vs) (hR X) (sR X vs) (vR X) ((lg uk x.labels x.name x.text x.kids.length loc) i) ei),?_,?_,di (by omega) (by (simp [rv,lk,er,eZ,aG,aS,a8,aR,kA,gg,aT,az,ah,aJ];exact fun a b c h=>oT _ _ a b c h))⟩;(·exact⟨bR,IW has hy,by rw [wY hy,← mG]⟩);dsimp only;omega
 have ab7:¬ i<x.kids.length:=by simpa using FX
 have iC:i=x.kids.length:=by omega
 have oW:al=dR (gR X vs) (hR X) (lg uk x.labels x.name x.text x.kids.length loc) 0 x.kids:=by rw [has,iC];simp
 subst oW;have ab8:ei=eR (gR X vs) (hR X) (sR X vs) (vR X) (lg uk x.labels x.name x.text x.kids.length loc) 0 x.kids ek:=by rw [mG,iC,au]
 rw [B9,← B7,← Ls,← ab8,Sq] at hK;simp only [aR,go_sem];refine hY (k:=4) (vs':=[num uk,str um,str x.name,str x.text,num x.num,.slice (bN (x.types.map (Ty.res (gR X vs)))),.slice ((x.labels.map (Ao (gR X vs) uk)).map b8),.slice (eC (dR (gR X vs) (hR X) (lg uk x.labels x.name x.text x.kids.length loc) 0 x.kids))]) rfl (by simp [fw,gH,dk,jS,cP,Y8,bu,tke,iY,bF]) ?_;refine JQ tt_ok [1,20,30000] ?_;simp only [aR,go_sem];exact hK _ _ ⟨rfl,rfl⟩
end
end
theorem qG (t:Ty):1≤t.wt:=by rw [t.iv];omega
theorem ow (t:Ex):1≤t.wt:=by rw [t.iv];omega
theorem w8 (x:Ex):x.types.length+x.labels.length+x.kids.length≤x.wt:=by have h1:=bP Ty.wt (fun t=>qG t) x.types;have h2:=bP Lb.wt (fun l=>by unfold Lb.wt;omega) x.labels;have h3:=bP Ex.wt (fun t=>ow t) x.kids;rw [x.iv];omega
theorem w9 {x:Ex} {t:Ty} (h:t∈x.types):t.wt<x.wt:=by obtain⟨i,hi⟩:=bS.1 h;have:=cb Ty.wt hi;rw [x.iv];omega
theorem xb {x:Ex} {l:Lb} (h:l∈x.labels):l.ty.wt<x.wt:=by have h1:=Lb.Iw h;unfold Lb.wt at h1;omega
theorem Cb {x k:Ex} (h:k∈x.kids):k.wt<x.wt:=by obtain⟨i,hi⟩:=bS.1 h;have:=cb Ex.wt hi;rw [x.iv];omega
theorem Sr {h:D4} {loc:List ByteArray} {x:Ex} (hh:(x.kind=3∨x.kind=4)→(h loc x).1≠13) (xw:(kC h loc x).1=13):x.kind=13:=by
 unfold kC at xw;split at xw;·rename_i hk;exact absurd xw (hh hk)
 exact xw
theorem al7 (X:Rv) (loc:List ByteArray) (x:Ex) (hk:x.kind=3∨x.kind=4):(hR X loc x).1≠13:=by
 unfold hR;split;·split;(·dsimp only;omega);dsimp only;omega
 dsimp only;omega
def vk (x:Ex):Prop:=∀ y∈x.nodes,y.kind=13→y.kids.length≤y.labels.length+1
theorem yi {x:Ex} (h:vk x):x.kind=13→x.kids.length≤x.labels.length+1:=h x (by rw [x.dy];exact bZ ..)
theorem Cc {x k:Ex} (h:vk x) (hk:k∈x.kids):vk k:=fun y hy=>h y (by rw [x.dy];exact bE _ (gK.2 ⟨k,hk,hy⟩))
theorem Lx (X:Rv) (vs:List ByteArray) (v:Nat) (iJ:X.decls.length≤1048576) (jg:vs.length≤1048576):∀ (N:Nat) (x:Ex),x.wt≤N→N≤1048576→vk x→∀ loc e,bw ab 88 [.ptr 0 0,gr loc,cu x] (L4 X vs v e) (cu (x.res (gR X vs) (hR X) loc)) (L4 X vs v (x.fold (gR X vs) (hR X) (sR X vs) (vR X) loc e)):=by
 intro N
 induction N with
 | zero=>intro x h;have:=ow x;omega
 | succ N ih =>
  intro x hN hb fF loc e
  have hlen:=w8 x
  obtain⟨_,_,⟨rfl,rfl⟩,h⟩:=Lw X vs v e iJ jg loc x (by omega) (by omega) (by omega) (fun h=>yi fF (Sr (al7 X loc x) h))
   (fun t ht e=>m8 X vs v iJ jg t.size t (ax _) (by have:=t.cT;have:=w9 ht;omega) e) (fun l hl e=>m8 X vs v iJ jg l.ty.size l.ty (ax _) (by have:=l.ty.cT;have:=xb hl;omega) e)
   (fun k hk loc e=>ih k (by have:=Cb hk;omega) (by omega) (Cc fF hk) loc e)
  exact h
end Go.Proofs.YtnboooapeopjoaaGreatDoor
end
