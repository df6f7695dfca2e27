import Derived.Test.YtnboooapeopjoaaGreatDoorJ3
open Array renaming toList_inj→apA
open Bool renaming and_eq_true→aL,and_true→aN,eq_false_iff→apT,eq_iff_iff→mB,or_false→bk,or_true→bw
open ByteArray renaming ext→apM
open Go.Proofs.Tryz renaming prog→af
open Int renaming cast_ofNat_Int→ct
open List renaming all_append→Ia,all_cons→cZ,all_eq_true→a7,all_nil→dY,append_assoc→Cq,append_nil→jv,cons_append→au,drop_eq_getElem_cons→dp,ext_getElem?→dy,flatMap_append→apF,flatMap_cons→kV,foldl_append→rh,foldl_cons→aM,getElem?_append_left→bF,getElem?_append_right→aW,getElem?_cons_zero→dk,getElem?_drop→BU,getElem?_eq_getElem→ak,getElem?_eq_some_iff→az,getElem?_map→ae,getElem?_of_mem→aqA,getElem?_set→bK,headD_cons→cr,length_append→aQ,length_cons→ay,length_map→ab,length_nil→aI,length_set→pB,length_singleton→apE,length_take→cd,map_append→dJ,map_cons→cR,map_nil→cP,map_set→gh,mem_append→ew,mem_append_left→hX,mem_append_right→gC,mem_cons→cb,mem_cons_of_mem→bP,mem_flatMap→eM,mem_iff_getElem?→cq,mem_map→dv,mem_of_getElem?→aB,mem_or_eq_of_mem_set→ap4,mem_singleton→eJ,nil_append→ax,replicate_succ→aD,replicate_zero→aE,set_append_right→dz,set_cons_succ→bu,set_cons_zero→bh,take_add_one→br,take_append_drop→wI,take_left→qM,take_length→ai,take_of_length_le→aX,take_zero→e8
open Nat renaming add_sub_cancel_left→ez,le_refl→aw,lt_or_ge→bL,lt_succ_self→lR,min_eq_left→apG,not_lt_zero→du,sub_self→cU,sub_zero→SP,zero_add→bE,zero_le→bn
open Option renaming getD_none→apQ,getD_some→agG,isNone_none→aaT,isSome_none→aqm,isSome_some→aqn,map_none→apx,map_some→cA,toList_some→mX
open Option.some renaming inj→kN,injEq→aF
set_option linter.all false
section
namespace Go.Proofs.YtnboooapeopjoaaGreatDoor
open Go.Eng
variable [bg]
open Nat renaming reduceAdd → zA, reduceLT → zB, reduceLeDiff → zC, reduceMul → zD, reduceEqDiff → zE, reduceSub → zF
set_option maxHeartbeats 4000000
set_option maxRecDepth 100000
section
section
variable {α:Type} [DecidableEq α]
def js (kv:α→Value):Nat→List (α×V)→List (Value×Nat×V)
 | _,[]=>[]
 | n,(k,v) :: r=>(kv k,n,v) :: js kv (n+1) r
theorem AX (kv:α→Value):∀ (g:List (α×V)) (n:Nat),(js kv n g).length=g.length
 | [],_=>rfl
 | _ :: r,n=>by simp [js,AX kv r (n+1)]
theorem Lm (kv:α→Value):∀ (g:List (α×V)) (n i:Nat),(js kv n g)[i]?=g[i]?.map fun e=>(kv e.1,n+i,e.2)
 | [],_,_=>rfl
 | e :: r,n,0=>rfl
 | e :: r,n,i+1=>by
  show (js kv (n+1) r)[i]?=_
  rw [Lm kv r (n+1) i,show n+1+i=n+(i+1) by omega]; rfl
theorem G0 (kv:α→Value) (k:α) (v:V):∀ (g:List (α×V)) (n:Nat),js kv n (g++[(k,v)])=js kv n g++[(kv k,n+g.length,v)]
 | [],_=>rfl
 | e :: r,n=>by
  show (kv e.1,n,e.2) :: js kv (n+1) (r++[(k,v)])=(kv e.1,n,e.2) :: (js kv (n+1) r++_)
  rw [G0 kv k v r (n+1),ay,show n+1+r.length=n+(r.length+1) by omega]
theorem Ln (kv:α→Value) (k:α) (v:V):∀ (g:List (α×V)) (n i:Nat),i<g.length→js kv n (g.set i (k,v))=(js kv n g).set i (kv k,n+i,v)
 | [],_,_,h=>by simp at h
 | e :: r,n,0,_=>rfl
 | e :: r,n,i+1,h=>by
  show (kv e.1,n,e.2) :: js kv (n+1) (r.set i (k,v))=(kv e.1,n,e.2) :: (js kv (n+1) r).set i _
  rw [Ln kv k v r (n+1) i (by simpa using h),show n+1+i=n+(i+1) by omega]
theorem Ez (kv:α→Value) (p:V→Bool):∀ (g:List (α×V)) (n:Nat),((js kv n g).all fun e=>p e.2.2)=g.all fun e=>p e.2
 | [],_=>rfl
 | _ :: r,n=>by simp [js,Ez kv p r (n+1)]
def k7 (a:α):List (α×V)→Nat→Option (Nat×V)
 | [],_=>none
 | e :: r,i=>if e.1=a then some (i,e.2) else k7 a r (i+1)
def getM (a:α):List (α×V)→Option V
 | []=>none
 | e :: r=>if e.1=a then some e.2 else getM a r
theorem C1 (a:α):∀ (g:List (α×V)) (i:Nat),(k7 a g i).map (·.2)=getM a g
 | [],_=>rfl
 | e :: r,i=>by
  unfold k7 getM
  split
  ·rfl
  exact C1 a r (i+1)
theorem vN {a:α}:∀ {g:List (α×V)} {n i:Nat} {v:V},k7 a g n=some (i,v)→n≤i∧g[i-n]?=some (a,v)
 | [],_,_,_,h=>by simp [k7] at h
 | e :: r,n,i,v,h=>by
  unfold k7 at h
  split at h
  ·rename_i he; cases h; subst he; simp
  obtain⟨h1,h2⟩:=vN h
  refine⟨by omega,?_⟩
  rw [show i-n=(i-(n+1))+1 by omega]; simpa using h2
structure KT (P:Program) (T kt et:TypeId) (kv:α→Value) (ky:α→V):Prop where
 map:jh P T=some (kt,et)
 val:∀ a,fG (ky a)=some (kv a)
 ok:∀ a,tA P kt (kv a)=true
 bits:∀ a,Instr.sameBits 10000 (kv a) (kv a)=true
 find:∀ (a:α) (g:List (α×V)),pG P kt (kv a) (js kv 0 g)=some (k7 a g 0)
theorem KT.now {P:Program} {kt:TypeId} {kv:α→Value} {d:TypeDesc} (hd:P.underlying kt=some d) (h:∀ a b,Instr.sameNow d (kv a) (kv b)=some (decide (b=a))) (a:α) (g:List (α×V)):pG P kt (kv a) (js kv 0 g)=some (k7 a g 0):=by
 have key:∀ (g:List (α×V)) (n i:Nat),ij d (kv a) (js kv n g) i=some (k7 a g i):=by intro g;induction g with | nil=>intro n i; rfl | cons e r ih =>intro n i;obtain⟨k,v⟩:=e;simp only [js,ij,k7,h];by_cases hk:k=a;(·simp [hk]);rw [decide_eq_false hk,if_neg hk]; exact ih _ _
 unfold pG;rw [hd];dsimp only;rw [key]
section
variable {P:Program} {T kt et:TypeId} {kv:α→Value} {ky:α→V}
def G1 (a:α) (v:V) (g:List (α×V)):List (α×V):=match k7 a g 0 with
 | none=>g++[(a,v)]
 | some (i,_)=>g.set i (a,v)
theorem KT.put (h:KT P T kt et kv ky) (a:α) (v:V) (g:List (α×V)) {mem:List bm} {b:Nat} (hm:mem[b]?=some (.map (js kv 0 g) g.length)) :
  dR P mem T (.mp b) (ky a) v=some (mem.set b (.map (js kv 0 (G1 a v g)) (G1 a v g).length)):=by unfold dR;rw [h.map];dsimp only;rw [h.val];dsimp only;rw [if_pos (h.ok a),hm];dsimp only;unfold insertAt;rw [h.find];unfold G1;cases hf:k7 a g 0 with | none =>dsimp only;rw [G0,bE,aQ,apE] | some p =>obtain⟨i,w⟩:=p;obtain⟨-,h2⟩:=vN hf;rw [SP] at h2;dsimp only;rw [Lm,h2];dsimp only [cA];rw [if_pos (h.bits a)];dsimp only;rw [Ln _ _ _ _ _ _ (az.1 h2).1,pB]
theorem KT.get (h:KT P T kt et kv ky) (a:α) (g:List (α×V)) {mem:List bm} {b:Nat} (hm:mem[b]?=some (.map (js kv 0 g) g.length)) {z:V} (hz:zeroV P et=some z) (ok:Bool) :
  kF P mem T (.mp b) (ky a) ok=some (SS ok (getM a g).isSome ((getM a g).getD z)):=by unfold kF;rw [h.map];dsimp only;rw [h.val];dsimp only;rw [if_pos (h.ok a)];unfold pH;dsimp only;rw [hm];dsimp only;rw [h.find,← C1 a g 0];cases hf:k7 a g 0 with | none=>dsimp only; rw [hz]; rfl | some p=>rfl
end
end
end
def strVal (s:ByteArray):Value:=.string s
theorem Xh {T et:TypeId} (h:jh af T=some (9,et)):KT af T 9 et strVal str :=
 ⟨h,fun _=>rfl,fun a=>by unfold tA; rw [Tryz.underlying9],fun a=>(sO a a).2 rfl,
  KT.now Tryz.underlying9 fun a b=>by
   show some (a==b)=some (decide (b=a))
   congr 1
   rw [mB,sO,decide_eq_true_eq]
   exact⟨fun h=>h.symm,fun h=>h.symm⟩⟩
theorem Zq:jh af 164=some (9,4):=by kernel_rfl
theorem aea:KT af 164 9 4 strVal str:=Xh Zq
abbrev GN:=List (ByteArray×V)
def vO (g:GN) (x:ByteArray):GN:=G1 x (bl true) g
def eP (g:GN) (l:List ByteArray):GN:=l.foldl vO g
theorem UU (g:GN) (x:ByteArray) {mem:List bm} {b:Nat} (hm:mem[b]?=some (.map (js strVal 0 g) g.length)):dR af mem 164 (.mp b) (str x) (bl true)=some (mem.set b (.map (js strVal 0 (vO g x)) (vO g x).length)):=aea.put x (bl true) g hm
structure NG (g:GN):Prop where
 Zr:∀ e∈g,e.2=bl true
 nodup:(g.map fun e=>e.1).Nodup
theorem uA {a:ByteArray}:∀ {g:GN} {n:Nat},k7 a g n=none→∀ e∈g,e.1≠a
 | [],_,_,e,he=>by cases he
 | c :: r,n,h,e,he=>by
  unfold k7 at h
  split at h
  ·cases h
  rename_i ep
  rcases cb.1 he with rfl | he
  ·exact ep
  exact uA h e he
theorem NG.nil:NG []:=⟨fun e he=>(by cases he),List.nodup_nil⟩
theorem G2 {g:GN} {i:Nat} {x:ByteArray} {v w:V} (h:g[i]?=some (x,v)):(g.set i (x,w)).map (fun e=>e.1)=g.map fun e=>e.1:=by
 rw [gh];apply dy;intro j;rw [bK];split;·rename_i Ic; subst Ic;have ca:=(az.1 h).1;rw [if_pos (by simpa using ca),ae,h]; rfl
 rfl
theorem NG.add {g:GN} (h:NG g) (x:ByteArray):NG (vO g x)∧(∀ k,k∈(vO g x).map (fun e=>e.1)↔k=x∨k∈g.map fun e=>e.1)∧(vO g x).length≤g.length+1:=by unfold vO G1;cases hf:k7 x g 0 with | none =>(dsimp only;refine⟨⟨fun e he=>?_,?_⟩,fun k=>?_,by simp⟩;(·(rcases ew.1 he with he | he);(·exact h.Zr e he);rw [eJ] at he; subst he; rfl);(·rw [dJ,List.nodup_append];refine⟨h.nodup,by simp,fun a ha b hb=>?_⟩;obtain⟨e,he,rfl⟩:=dv.1 ha;simp only [cR,cP,eJ] at hb; subst hb;exact uA hf e he);rw [dJ,ew];simp only [cR,cP,eJ];exact Or.comm) | some p =>obtain⟨i,v⟩:=p;obtain⟨-,h2⟩:=vN hf;rw [SP] at h2;dsimp only;refine⟨⟨fun e he=>?_,?_⟩,fun k=>?_,by simp⟩;(·(rcases ap4 he with he | rfl);(·exact h.Zr e he);rfl);(·rw [G2 h2]; exact h.nodup);rw [G2 h2];constructor;(·exact .inr);rintro (rfl | h);(·exact dv.2 ⟨_,aB h2,rfl⟩);exact h
theorem NG.eP:∀ {l:List ByteArray} {g:GN},NG g→NG (eP g l)∧(∀ k,k∈(eP g l).map (fun e=>e.1)↔k∈l∨k∈g.map fun e=>e.1)∧(eP g l).length≤g.length+l.length
 | [],g,h=>⟨h,fun k=>⟨.inr,fun h=>h.resolve_left (by simp)⟩,by simp [Go.Proofs.YtnboooapeopjoaaGreatDoor.eP]⟩
 | x :: l,g,h=>by
  obtain⟨h1,h2,h3⟩:=h.add x
  obtain⟨h4,h5,h6⟩:=NG.eP (l:=l) h1
  refine⟨h4,fun k=>?_,by have:Go.Proofs.YtnboooapeopjoaaGreatDoor.eP g (x :: l)=Go.Proofs.YtnboooapeopjoaaGreatDoor.eP (vO g x) l:=rfl; rw [this,ay]; omega⟩
  have:Go.Proofs.YtnboooapeopjoaaGreatDoor.eP g (x :: l)=Go.Proofs.YtnboooapeopjoaaGreatDoor.eP (vO g x) l:=rfl
  rw [this,h5 k,h2 k,cb]
  constructor
  ·rintro (h | h | h)
   ·exact .inl (.inr h)
   ·exact .inl (.inl h)
   exact .inr h
  rintro ((h | h) | h)
  ·exact .inr (.inl h)
  ·exact .inl h
  exact .inr (.inr h)
theorem G3 {α:Type} (f:α→ByteArray) (g:GN) {l:List α} {i:Nat} {x:α} (h:l[i]?=some x):eP g ((l.take (i+1)).map f)=vO (eP g ((l.take i).map f)) (f x):=by unfold eP;rw [br,h,dJ,rh]; rfl
theorem NG.below {g:GN} (h:NG g) (n:Nat):((js strVal 0 g).all fun e=>aA n e.2.2)=true:=by rw [Ez strVal (aA n),a7];intro e he;rw [h.Zr e he]; rfl
def yK:List ByteArray→Bool
 | []=>false
 | a :: r=>jg a r||yK r
theorem Lo (x:ByteArray) (l m:List ByteArray):jg x (l++m)=(jg x l||jg x m):=by unfold jg; rw [List.any_append]
theorem C2 (x:ByteArray):∀ l:List ByteArray,yK (l++[x])=(yK l||jg x l)
 | []=>rfl
 | a :: r=>by
  have e1:jg a [x]=jg x [a]:=by
   unfold jg
   simp only [List.any_cons,List.any_nil,bk]
   by_cases h:a=x
   ·rw [decide_eq_true h,decide_eq_true h.symm]
   rw [decide_eq_false h,decide_eq_false fun e=>h e.symm]
  have e2:jg x (a :: r)=(jg x [a]||jg x r):=Lo x [a] r
  simp only [au,yK,C2 x r,Lo,e1,e2]
  cases jg a r <;> cases jg x [a] <;> cases yK r <;> cases jg x r <;> rfl
theorem QZ (g:GN) (x:ByteArray):(x∈g.map (fun e=>e.1)→(vO g x).length=g.length)∧(x ∉ g.map (fun e=>e.1)→(vO g x).length=g.length+1):=by unfold vO G1;cases hf:k7 x g 0 with | none =>dsimp only;refine⟨fun h=>?_,fun _=>by simp⟩;obtain⟨e,he,hx⟩:=dv.1 h;exact absurd hx (uA hf e he) | some p =>obtain⟨i,v⟩:=p;obtain⟨-,h2⟩:=vN hf;rw [SP] at h2;dsimp only;exact⟨fun _=>by rw [pB],fun h=>absurd (dv.2 ⟨_,aB h2,rfl⟩) h⟩
theorem G4 (l:List ByteArray):∀ m:List ByteArray,(eP [] l).length≤l.length→decide ((eP [] l).length<l.length)=yK l→(eP [] (l++m)).length≤(l++m).length∧decide ((eP [] (l++m)).length<(l++m).length)=yK (l++m):=by intro m;induction m generalizing l with | nil=>intro h1 h2; rw [jv]; exact⟨h1,h2⟩ | cons x m ih =>intro h1 h2;(have e0:l++x :: m=(l++[x])++m:=by simp);(have e:eP [] (l++[x])=vO (eP [] l) x:=by unfold eP; rw [rh]; rfl);(have hm:x∈(eP [] l).map (fun e=>e.1)↔x∈l:=by have:=(NG.eP (l:=l) NG.nil).2.1 x;simpa using this);have hl:=QZ (eP [] l) x;rw [e0];refine ih (l++[x]) ?_ ?_;(·rw [e,aQ,apE];by_cases hx:x∈l;(·rw [hl.1 (hm.2 hx)]; omega);rw [hl.2 fun h=>hx (hm.1 h)]; omega);rw [e,C2,← h2,aQ,apE];by_cases hx:x∈l;(·rw [hl.1 (hm.2 hx),nW.2 hx,bw];exact decide_eq_true (by omega));have hb:jg x l=false:=apT.2 fun h=>hx (nW.1 h);rw [hl.2 fun h=>hx (hm.1 h),hb,bk];congr 1;rw [eq_iff_iff]; omega
theorem JG (l:List ByteArray):(eP [] l).length≤l.length∧decide ((eP [] l).length<l.length)=yK l:=G4 [] l (aw _) rfl
theorem UW {mem:List bm} {b:Nat} (g:GN) (c:Nat) (hm:mem[b]?=some (.map (js strVal 0 g) c)):wR mem #[164] af [.mp b]=some (num g.length):=by
 unfold wR;have h:jh af 164=some (9,4):=by kernel_rfl
 simp [h,hm,AX]
theorem ajQ:jh af 128=some (9,9):=by kernel_rfl
theorem ktS:KT af 128 9 9 strVal str:=Xh ajQ
section
def Ex.own (e:Ex):List Ty:=e.types++if e.kind=8 then e.labels.map Lb.ty else []
mutual
def Ex.size:Ex→Nat
 | .mk k _ _ _ _ ts ls ks=>1+bd Ty.size (ts++if k=8 then ls.map Lb.ty else [])+za ks
def za:List Ex→Nat
 | []=>0
 | e :: r=>e.size+za r
end
mutual
def Ex.nodes:Ex→List Ex
 | .mk k m n t i ts ls ks=>.mk k m n t i ts ls ks :: vP ks
def vP:List Ex→List Ex
 | []=>[]
 | e :: r=>e.nodes++vP r
end
theorem G5 (ts:List Ex):vP ts=ts.flatMap Ex.nodes:=by induction ts with | nil=>rfl | cons t r ih=>simp [vP,ih]
theorem JH (ts:List Ex):za ts=bd Ex.size ts:=by induction ts with | nil=>rfl | cons t r ih=>simp [za,bd,ih]
theorem Ex.eD (t:Ex):t.nodes=t :: t.kids.flatMap Ex.nodes:=by obtain⟨k,m,n,x,i,ts,ls,ks⟩:=t;simp only [Ex.nodes,Ex.kids,G5]
theorem Ex.size_eq (t:Ex):t.size=1+bd Ty.size t.own+bd Ex.size t.kids:=by obtain⟨k,m,n,x,i,ts,ls,ks⟩:=t;rw [Ex.size,JH]; rfl
theorem Ex.size_pos (t:Ex):0<t.size:=by rw [Ex.size_eq]; omega
theorem Ex.MY (t:Ex):1+bd Ex.size t.kids≤t.size:=by rw [Ex.size_eq]; omega
theorem Ex.AY:∀ (N:Nat) (t:Ex),t.size≤N→bd (fun e=>1+bd Ty.size e.own) t.nodes=t.size:=by intro N;induction N with | zero=>intro t h; have:=t.size_pos; omega | succ N ih =>intro t hN;have h1:=t.size_eq;(have gen:∀ (l:List Ex),bd Ex.size l≤N→bd (fun e=>1+bd Ty.size e.own) (l.flatMap Ex.nodes)=bd Ex.size l:=by intro l;induction l with | nil=>intro _; rfl | cons a r UP =>intro hl;simp only [bd] at hl ⊢;rw [kV,kK,ih a (by omega),UP (by omega)]);rw [Ex.eD];simp only [bd];rw [gen _ (by omega)]; omega
def Lb.cM (l:Lb):Nat:=1+l.ty.size
mutual
def Ex.cM:Ex→Nat
 | .mk _ _ _ _ _ ts ls ks=>1+bd Ty.size ts+bd Lb.cM ls+zb ks
def zb:List Ex→Nat
 | []=>0
 | e :: r=>e.cM+zb r
end
theorem JI (ts:List Ex):zb ts=bd Ex.cM ts:=by induction ts with | nil=>rfl | cons t r ih=>simp [zb,bd,ih]
theorem Ex.nX (t:Ex):t.cM=1+bd Ty.size t.types+bd Lb.cM t.labels+bd Ex.cM t.kids:=by obtain⟨k,m,n,x,i,ts,ls,ks⟩:=t;rw [Ex.cM,JI]; rfl
theorem Ex.fY (t:Ex):0<t.cM:=by rw [Ex.nX]; omega
theorem Ex.n8 (t:Ex):1+bd Ex.cM t.kids≤t.cM:=by rw [Ex.nX]; omega
theorem Ex.lK (t:Ex):t.kids.length<t.cM:=by have:=cx Ex.cM Ex.fY t.kids;rw [Ex.nX]; omega
theorem Lb.fY (l:Lb):0<l.cM:=by unfold Lb.cM; omega
theorem Ex.xv (t:Ex):bd Ty.size t.own+1+bd Ex.cM t.kids≤t.cM:=by
 rw [Ex.nX,Ex.own,kK];have:bd Ty.size (if t.kind=8 then t.labels.map Lb.ty else [])≤bd Lb.cM t.labels:=by split;(·rw [gD];generalize t.labels=l;induction l with | nil=>simp [bd] | cons a r ih=>simp only [bd,Lb.cM] at ih ⊢; omega);simp [bd]
 omega
theorem Ex.sX (t:Ex):t.types.length+t.labels.length<t.cM:=by have h1:=cx Ty.size Ty.size_pos t.types;have h2:=cx Lb.cM Lb.fY t.labels;rw [Ex.nX]; omega
theorem Ex.l8:∀ (N:Nat) (t:Ex),t.cM≤N→t.size≤t.cM:=by intro N;induction N with | zero=>intro t h; have:=t.fY; omega | succ N ih =>intro t hN;have h1:=t.xv;rw [Ex.size_eq];(have gen:∀ (l:List Ex),bd Ex.cM l≤N→bd Ex.size l≤bd Ex.cM l:=by intro l;induction l with | nil=>intro _; simp [bd] | cons a r UP =>intro hl;simp only [bd] at hl ⊢;have:=ih a (by omega); have:=UP (by omega); omega);have:=gen t.kids (by omega);omega

section
variable {σ:Type} {M:σ→List bm} {n k k1 k2:Nat}
theorem Q0 (hn:∀ s,(M s).length=n) (hk:k<n) (je:k1<n) (l0:k2<n) (h1:∀ s,(M s)[k1]?=some (.box [.ke k])) (h2:∀ s,(M s)[k2]?=some (.box [.cX (.func 243) [] [.ptr k1 0,.ptr k2 0]])) (hb:∀ s,(M s).all (aJ n)=true)
  (step:σ→Ex→σ×Bool) (G:σ→Prop) (hG:∀ s u,G s→(step s u).2=true→G (step s u).1) {B:Nat} (hB:B≤1048576) (Pd:Ex→Prop) (hy:∀ s u,G s→u.cM≤B→Pd u→Ie af k [cK u] (M s) (step s u).2 (M (step s u).1)) :
  ∀ (N:Nat) (t:Ex) (s:σ),G s→(∀ v∈t.nodes,Pd v)→t.cM≤N→N≤B→bz af 243 [cK t,.ptr k1 0,.ptr k2 0] (M s) (bl (dF step s t.nodes).2) (M (dF step s t.nodes).1):=by
 have g0:∀ s (l:List bm),(M s++l)[n]?=l[0]?:=fun s l=>by rw [aW (by rw [hn]; exact aw _),hn,cU]
 have g1:∀ s (l:List bm),(M s++l)[n+1]?=l[1]?:=fun s l=>by rw [aW (by rw [hn]; omega),hn,ez]
 have Xb:∀ s (l:List bm),(M s++l)[k1]?=some (.box [.ke k]):=fun s l=>by rw [bF (by rw [hn]; exact je)]; exact h1 s
 have gk2:∀ s (l:List bm),(M s++l)[k2]?=some (.box [.cX (.func 243) [] [.ptr k1 0,.ptr k2 0]]):=fun s l=>by rw [bF (by rw [hn]; exact l0)]; exact h2 s
 have gs:∀ s (l:List bm) X,(M s++l).set n X=M s++l.set 0 X:=fun s l X=>by rw [dz _ _ (by rw [hn]; exact aw _),hn,cU]
 have gt:∀ s (l:List bm),(M s++l).take n=M s:=fun s l=>by rw [← hn s,qM]
 have Xc:∀ s,(M s).take n=M s:=fun s=>by rw [aX (by rw [hn]; exact aw _)]
 have fy:∀ s u (l:List bm),G s→u.cM≤B→Pd u→Ie af k [cK u] (M s++l) (step s u).2 (M (step s u).1++l):=fun s u l hg hu hp=>by refine (hy s u hg hu hp).frame (by rw [hn]; exact hk) ?_ (by rw [hn]; exact hb s) (by rw [hn,hn]) (by rw [hn]; exact hb _) l;rw [bj]; simp [aA,aK,aH]
 intro N;induction N with | zero=>intro t s hg hP h; have:=t.fY; omega | succ N ih =>intro t s hg hP hN hNB;have y8:=t.lK;have tL:=t.n8;have QQ:=cx Ex.cM Ex.fY t.kids;have ep:=t.eD;have QT:=fun l=>fy s t l hg (by omega) (hP t (by rw [t.eD]; simp));(have Xd:∀ u s (l:List bm),G s→(∀ v∈u.nodes,Pd v)→u.cM≤N→bz af 243 [cK u,.ptr k1 0,.ptr k2 0] (M s++l) (bl (dF step s u.nodes).2) (M (dF step s u.nodes).1++l):=fun u s l hg hq hu=>by refine (ih u s hg hq hu (by omega)).frame ?_ (by rw [hn]; exact hb s) rfl (by rw [hn,hn]) (by rw [hn]; exact hb _) l;rw [bj,hn]; simp [aA,aK,aH,je,l0]);simp only [bj,aH] at Xd;refine kh tt_ok (fn:=Tryz.f243) n (by rw [hn]; exact aw _) Tryz.func243 rfl Tryz.call243 ?_;simp only [dL,cH,Tryz.ntmps243,ay,aI,zA,zF,aD,aE];rw [bj] at QT ⊢;simp only [aH] at QT ⊢;refine ah tt_ok fun K hK=>?_;simp only [hn,go_sem];refine hK _ ?_;refine bC ?_;refine ah tt_ok fun K hK=>?_;simp only [Xb,g0,hn,go_sem];refine .inl ⟨_,_,QT _,?_⟩;(try simp only [go_sem]);refine hK _ ?_;cases QU:(step s t).2 with | false =>refine aV rfl ?_;refine ah tt_ok fun K hK=>?_;simp only [go_sem];refine hK _ ?_;refine bW ⟨.inl rfl,?_⟩;(have wS:dF step s t.nodes=((step s t).1,false):=by rw [ep]; simp [dF,QU]);rw [wS];exact⟨rfl,rfl,by dsimp only; rw [gt]; exact hb _,(gt _ _).symm⟩ | true =>refine aV rfl (cn ?_);show eg _ _ _ _ _ _;refine bC ?_;refine ah tt_ok fun K hK=>?_;simp only [Xb,g0,hn,aj,go_sem];refine hK _ ?_;obtain⟨ps,AS⟩:∃ ps,ps=t.kids:=⟨_,rfl⟩;rw [← AS] at tL QQ ep ⊢;have hPp:∀ u∈ps,∀ v∈u.nodes,Pd v:=fun u hu v hv=>hP v (by rw [ep]; exact bP _ (eM.2 ⟨u,hu,hv⟩));refine bX (df (fun N st=>∃ (i:Nat) (s':σ),G s'∧N=ps.length-i∧i≤ps.length∧dF step s (t :: (ps.take i).flatMap Ex.nodes)=(s',true) ∧ st = { fr:=[.undef,.ptr k1 0,.ptr k2 0,.undef,.undef,.undef,.undef,.undef,.undef,.undef,.undef,.undef,.slice (c8 ps),num ps.length,num i]++List.replicate 8 .undef,mem:=M s' }) ps.length ?_ ?_);(·refine⟨n,(false::true::true::(rp 9 false [true,true,true])),by rw [hn]; exact aw _,by simp only [aP,aA,aK,aJ,zB,je,l0,er],by dsimp only; rw [gt]; exact hb _,0,(step s t).1,hG s t hg QU,by omega,by omega,by simp [dF,QU],?_⟩;dsimp only; rw [gt]; rfl);rintro N' st ⟨i,s',FJ,rfl,hi,QV,rfl⟩;simp only [dL,aD,aE];by_cases ca:i<ps.length;(·have hd:=iA ca;refine ah tt_ok fun K hK=>?_;simp only [aj,hd,go_sem];refine hK _ ?_;refine bC (aV rfl (cn ?_));refine bC (bX ?_);obtain⟨u,hu⟩:∃ u,ps[i]?=some u:=⟨_,ak ca⟩;have Te:=cu Ex.cM hu;have gB:=fun l=>Xd u s' l FJ (hPp u (aB hu)) (by omega);(have qU:(ps.take (i+1)).flatMap Ex.nodes=(ps.take i).flatMap Ex.nodes++u.nodes:=by rw [br,hu]; simp);(have Ll:dF step s (t :: (ps.take (i+1)).flatMap Ex.nodes)=dF step s' u.nodes:=by rw [qU,← au,jK,QV]; simp);refine ah tt_ok fun K hK=>?_;simp only [ed,hu,bj,aH,hn,g0,gs,go_sem];refine hK _ ?_;refine ah tt_ok fun K hK=>?_;simp only [gk2,g0,hn,go_sem];(refine .inr <| .inl ⟨_,_,gB _,?_⟩);(try simp only [go_sem]);refine hK _ ?_;cases QW:(dF step s' u.nodes).2 with | false =>refine aV rfl ?_;refine ah tt_ok fun K hK=>?_;simp only [go_sem];refine hK _ ?_;refine bW ⟨.inl rfl,?_⟩;(have wS:dF step s t.nodes=((dF step s' u.nodes).1,false):=by (have AU:ps.flatMap Ex.nodes=(ps.take (i+1)).flatMap Ex.nodes++(ps.drop (i+1)).flatMap Ex.nodes:=by rw [← apF,wI]);rw [ep,AU,← au,jK,Ll,QW]; simp);rw [wS];exact⟨rfl,rfl,by dsimp only; rw [gt]; exact hb _,(gt _ _).symm⟩ | true =>refine aV rfl (cn ?_);show eg _ _ _ _ _ _;refine a8 tt_ok fun K hK=>?_;simp only [go_sem];refine hK _ ?_;have kZ:=bx i (by omega);rw [kZ];refine⟨ps.length-(i+1),by omega,n,(false::true::true::(rp 9 false [true,true,true])),by rw [hn]; exact aw _,by simp only [aP,aA,aK,aJ,zB,je,l0,er],by dsimp only; rw [gt]; exact hb _,i+1,(dF step s' u.nodes).1,qC step hG _ _ FJ QW,rfl,ca,by rw [Ll,← QW],?_⟩;dsimp only; rw [gt]; rfl);have hd:=iB ca;refine ah tt_ok fun K hK=>?_;simp only [aj,hd,go_sem];refine hK _ ?_;refine bC (aV rfl (eC ?_));(have ju:i=ps.length:=by omega);subst ju;show eg _ _ _ _ _ _;refine ah tt_ok fun K hK=>?_;simp only [go_sem];refine hK _ ?_;refine bW ⟨.inl rfl,?_⟩;rw [ai] at QV;rw [ep,QV];exact⟨rfl,rfl,by dsimp only; rw [Xc]; exact hb _,(Xc _).symm⟩
end

theorem G6 (t:Ex) (m:List bm) (hb:m.all (aJ (m.length+1))=true):bz af 193 [cK t] m (.cX (.func 242) [] [.ptr m.length 0]) (m++[.box (aH t)]):=by
 refine kh tt_ok (fn:=Tryz.f193) (m.length+1) (by omega) Tryz.func193 rfl Tryz.call193 ?_;simp only [dL,cH,Tryz.ntmps193,ay,aI,zA,zF,aD,aE];rw [bj];simp only [aH];refine ah tt_ok fun K hK=>?_;simp only [go_sem];refine hK _ ?_;refine ah tt_ok fun K hK=>?_;simp only [go_sem];refine hK _ ?_;have ht:∀ B:bm,(m++[B]).take (m.length+1)=m++[B]:=fun B=>aX (by simp);refine bW ⟨.inl rfl,rfl,by simp [aA,aK],?_,?_⟩;·dsimp only; rw [ht]; simp [hb,aJ,aA,aK]
 dsimp only; rw [ht]

section
variable {σ:Type} {M:σ→List bm} {n k kt:Nat}
theorem Q1 (hn:∀ s,(M s).length=n) (hk:k<n) (MT:kt<n) {t:Ex} (h1:∀ s,(M s)[kt]?=some (.box (aH t))) (hb:∀ s,(M s).all (aJ n)=true)
  (step:σ→Ex→σ×Bool) (G:σ→Prop) (hG:∀ s u,G s→(step s u).2=true→G (step s u).1) {B:Nat} (hB:B≤1048576) (Pd:Ex→Prop) (hy:∀ s u,G s→u.cM≤B→Pd u→Ie af k [cK u] (M s) (step s u).2 (M (step s u).1)) (ht:t.cM≤B) (hP:∀ v∈t.nodes,Pd v) (s:σ) (hs:G s) :
  bz af 242 [.ke k,.ptr kt 0] (M s) (.eV []) (M (dF step s t.nodes).1):=by
 have g0:∀ s (l:List bm),(M s++l)[n]?=l[0]?:=fun s l=>by rw [aW (by rw [hn]; exact aw _),hn,cU]
 have g1:∀ s (l:List bm),(M s++l)[n+1]?=l[1]?:=fun s l=>by rw [aW (by rw [hn]; omega),hn,ez]
 have Xe:∀ s (l:List bm),(M s++l)[kt]?=some (.box (aH t)):=fun s l=>by rw [bF (by rw [hn]; exact MT)]; exact h1 s
 have gs:∀ s (l:List bm) X,(M s++l).set (n+1) X=M s++l.set 1 X:=fun s l X=>by rw [dz _ _ (by rw [hn]; omega),hn,ez]
 have gt:∀ s (l:List bm),(M s++l).take n=M s:=fun s l=>by rw [← hn s,qM]
 have hw:∀ s,G s→bz af 243 [cK t,.ptr n 0,.ptr (n+1) 0] (M s++[.box [.ke k],.box [.cX (.func 243) [] [.ptr n 0,.ptr (n+1) 0]]]) (bl (dF step s t.nodes).2) (M (dF step s t.nodes).1++[.box [.ke k],.box [.cX (.func 243) [] [.ptr n 0,.ptr (n+1) 0]]]):=fun s hs=>by refine Q0 (M:=fun s=>M s++[.box [.ke k],.box [.cX (.func 243) [] [.ptr n 0,.ptr (n+1) 0]]]) (n:=n+2) (k:=k) (k1:=n) (k2:=n+1) (fun s=>by simp [hn]) (by omega) (by omega) (by omega) (fun s=>g0 _ _) (fun s=>g1 _ _) (fun s=>?_) step G hG hB Pd (fun s u hg hu hq=>?_) t.cM t s hs hP (aw _) ht;(·rw [Ia,aL];refine⟨qs (by omega) (hb s),?_⟩;simp [aJ,aA,aK]; omega);refine (hy s u hg hu hq).frame (by rw [hn]; exact hk) ?_ (by rw [hn]; exact hb s) (by rw [hn,hn]) (by rw [hn]; exact hb _) _;rw [bj]; simp [aA,aK,aH]
 refine kh tt_ok (fn:=Tryz.f242) n (by rw [hn]; exact aw _) Tryz.func242 rfl Tryz.call242 ?_;simp only [dL,cH,Tryz.ntmps242,ay,aI,zA,zF,aD,aE];have AP:=hw s hs;rw [bj] at AP;simp only [aH] at AP Xe;refine ah tt_ok fun K hK=>?_;simp only [hn,go_sem];refine hK _ ?_;refine ah tt_ok fun K hK=>?_;simp only [hn,aQ,Cq,go_sem];refine hK _ ?_;refine ah tt_ok fun K hK=>?_;simp only [hn,g1,gs,go_sem];refine hK _ ?_;refine a8 tt_ok fun K hK=>?_;simp only [hn,g1,Xe,go_sem];refine .inr <| .inl ⟨_,_,AP,?_⟩
 try simp only [go_sem]
 refine hK _ ?_;refine⟨.inr rfl,rfl,rfl,?_,?_⟩;·dsimp only; rw [gt]; exact hb _
 dsimp only; rw [gt]


theorem AZ {n0:Nat} {st:St} {Q:Exit→St→Prop} {f:Operand} {params:Array Tmp} {assign body:Code} {t:Ex} (pre:σ→List bm) (s0:σ) (n kt:Nat) (pP:st.mem=pre s0) (hn:∀ s,(pre s).length=n) (MT:kt<n)
  (ht:∀ s,(pre s)[kt]?=some (.box (aH t))) (hb:∀ s,(pre s).all (aJ (n+1))=true) (yW:st.fr.all (aA (n+1))=true) (hf:st.eval f = .cX (.func 242) [] [.ptr kt 0]) (hp:params.size=1) (step:σ→Ex→σ×Option Code) {B:Nat} (hB:B≤1048576) (mY:t.cM≤B) (Pd:Ex→Prop) (hPt:∀ v∈t.nodes,Pd v)
  (AV:∀ s u,u.cM≤B→Pd u→∀ (l:Nat) (LR LB:bm),aJ (n+1) LR=true→aJ (n+1) LB=true→eg af (some l) (n+1) assign { fr:=oX params.toList [cK u] st.fr,mem:=pre s++[LR] } fun ex tj=>ex = .normal∧tj.mem[n]?=some LR ∧
   eg af (some l) (n+1) body { tj with mem:=tj.mem.set n LB } fun ex yZ=>rI ex=some (step s u).2∧yZ.mem[n]?=some LB∧yZ.mem.take n=pre (step s u).1)
  (hq:match (jr step s0 t.nodes).2 with
   | none=>Q .normal { st with mem:=pre (jr step s0 t.nodes).1++[.dead] }
   | some c=>eg af none n0 c { st with mem:=pre (jr step s0 t.nodes).1++[.dead] } Q):eg af none n0 (.rangeFunc f params assign body) st Q:=by
 have hlen:st.mem.length=n:=by rw [pP,hn]
 have gn:∀ s X,(pre s++[X])[n]?=some X:=fun s X=>by rw [aW (by rw [hn]; exact aw _),hn,cU]; rfl
 have gk:∀ s X,(pre s++[X])[kt]?=some (.box (aH t)):=fun s X=>by rw [bF (by rw [hn]; exact MT)]; exact ht s
 have GZ:∀ s (X Y:bm),(pre s++[X]).set n Y=pre s++[Y]:=fun s X Y=>by rw [dz _ _ (by rw [hn]; exact aw _),hn,cU]; rfl
 have yr:∀ (s:σ) (a:LoopState) (b:Option Code),(pre s++[bm.loop a b st.fr params assign body]).all (aJ (n+1))=true:=fun s a b=>by rw [Ia,aL];exact⟨hb s,by simp only [cZ,dY,aN,aJ]; exact yW⟩
 have it:=Q1 (M:=fun s:σ×Option Code=>pre s.1++[.loop (if s.2.isNone then .ready else .done) s.2 st.fr params assign body]) (n:=n+1) (k:=n) (kt:=kt) (t:=t) (fun s=>by simp [hn]) (by omega) (by omega) (fun s=>gk _ _) (fun s=>yr _ _ _)
  (vL step) (fun s=>s.2=none) (fun s u hs h=>by simpa [vL] using h) hB Pd (fun s u hs hu hq=>by
   obtain⟨s,j⟩:=s
   simp only at hs; subst hs
   refine rJ (fr:=st.fr) (params:=params) (assign:=assign) (body:=body) (gn _ _) (by simp [hp]) fun l=>?_
   have hl:(pre s++[bm.loop .ready none st.fr params assign body]).length=n+1:=by simp [hn]
   simp only [aaT,if_true,hl]
   refine eg.mono (AV s u hu hq l (.loop .ready none st.fr params assign body) (.loop .busy none st.fr params assign body) yW yW) ?_
   rintro ex tj ⟨h1,h2,h3⟩
   refine⟨h1,h2,eg.mono h3 ?_⟩
   rintro ex yZ ⟨h4,h5,h6⟩
   refine⟨_,h4,rfl,h5,?_,?_⟩
   ·rw [take_set (hn _) h5 h6]; exact yr _ _ _
   rw [take_set (hn _) h5 h6]; rfl) mY hPt (s0,none) rfl
 rw [y9] at it;refine pe (g:=242) (vs:=[.ke n,.ptr kt 0]) (by rw [hf,hlen]; rfl) (by rw [pP]; exact it) ?_;rw [hlen];refine⟨_,_,_,_,_,_,gn _ _,?_,?_⟩;·cases (jr step s0 t.nodes).2 <;> simp
 generalize hj:(jr step s0 t.nodes).2=j at hq;cases j with | none=>dsimp only at hq ⊢; rw [GZ]; exact hq | some c=>dsimp only at hq ⊢; rw [GZ]; exact hq
theorem MZ {n0:Nat} {st:St} {Q:Exit→St→Prop} {f:Operand} {params:Array Tmp} {assign body:Code} {t:Ex} (pre:σ→List bm) (s0:σ) (n kt:Nat) (pP:st.mem=pre s0) (hn:∀ s,(pre s).length=n) (MT:kt<n)
  (ht:∀ s,(pre s)[kt]?=some (.box (aH t))) (hb:∀ s,(pre s).all (aJ (n+1))=true) (yW:st.fr.all (aA (n+1))=true) (hf:st.eval f = .cX (.func 242) [] [.ptr kt 0]) (hp:params.size=1) (step:σ→Ex→σ×Option Code) {B:Nat} (hB:B≤1048576) (mY:t.cM≤B)
  (AV:∀ s u,u.cM≤B→∀ (l:Nat) (LR LB:bm),aJ (n+1) LR=true→aJ (n+1) LB=true→eg af (some l) (n+1) assign { fr:=oX params.toList [cK u] st.fr,mem:=pre s++[LR] } fun ex tj=>ex = .normal∧tj.mem[n]?=some LR ∧
   eg af (some l) (n+1) body { tj with mem:=tj.mem.set n LB } fun ex yZ=>rI ex=some (step s u).2∧yZ.mem[n]?=some LB∧yZ.mem.take n=pre (step s u).1)
  (hq:match (jr step s0 t.nodes).2 with
   | none=>Q .normal { st with mem:=pre (jr step s0 t.nodes).1++[.dead] }
   | some c=>eg af none n0 c { st with mem:=pre (jr step s0 t.nodes).1++[.dead] } Q):eg af none n0 (.rangeFunc f params assign body) st Q :=
 AZ pre s0 n kt pP hn MT ht hb yW hf hp step hB mY (fun _=>True) (fun _ _=>trivial) (fun s u hu _=>AV s u hu) hq
end
end
mutual
def Ty.wt:Ty→Nat
 | .mk _ m n ts fs=>1+m.size+n.size+G7 ts+G8 fs
def G7:List Ty→Nat
 | []=>0
 | t :: r=>t.wt+G7 r
def Fd.wt:Fd→Nat
 | .mk n (.mk _ m n' ts fs) _=>1+n.size+m.size+n'.size+G7 ts+G8 fs
def G8:List Fd→Nat
 | []=>0
 | f :: r=>f.wt+G8 r
end
theorem Fd.kO (f:Fd):f.wt=f.name.size+f.ty.wt:=by obtain⟨n',⟨k,m,n,ts,fs⟩,o⟩:=f;simp only [Fd.wt,Ty.wt,Fd.name,Fd.ty]; omega
theorem M0 (ts:List Ty):G7 ts=bd Ty.wt ts:=by induction ts with | nil=>rfl | cons t r ih=>simp [G7,bd,ih]
theorem M1 (ts:List Fd):G8 ts=bd Fd.wt ts:=by induction ts with | nil=>rfl | cons t r ih=>simp [G8,bd,ih]
theorem Ty.kO (t:Ty):t.wt=1+t.mod.size+t.name.size+bd Ty.wt t.args+bd Fd.wt t.bD:=by obtain⟨k,m,n,ts,fs⟩:=t;simp only [Ty.wt,M0,M1,Ty.mod,Ty.name,Ty.args,Ty.bD]
theorem vS {α:Type} {g h:α→Nat} (hle:∀ a,g a≤h a) (l:List α):bd g l≤bd h l:=by induction l with | nil=>exact aw _ | cons a r ih=>simp only [bd]; have:=hle a; omega
theorem Ty.A0 (t:Ty):1+t.mod.size+t.name.size+bd Ty.wt t.parts≤t.wt:=by rw [t.kO,Ty.parts,kK,gD];have:=vS (g:=fun f:Fd=>f.ty.wt) (h:=Fd.wt) (fun f=>by rw [f.kO]; omega) t.bD;omega
theorem Ty.G9:∀ (N:Nat) (t:Ty),t.size≤N→t.size≤t.wt:=by intro N;induction N with | zero=>intro t h; have:=t.size_pos; omega | succ N ih =>intro t hN;have h1:=t.dj;have h2:=t.A0;(have gen:∀ (l:List Ty),bd Ty.size l≤N→bd Ty.size l≤bd Ty.wt l:=by intro l;induction l with | nil=>intro _; exact aw _ | cons a r UP =>intro hl;simp only [bd] at hl ⊢;have:=ih a (by omega); have:=UP (by omega); omega);have:=gen t.parts (by omega);omega
theorem Ty.ee (t:Ty):t.size≤t.wt:=Ty.G9 _ t (aw _)
theorem Ty.xw:∀ (N:Nat) (t:Ty),t.size≤N→∀ v∈t.nodes,v.wt≤t.wt:=by intro N;induction N with | zero=>intro t h; have:=t.size_pos; omega | succ N ih =>intro t hN v hv;have h1:=t.dj;have h2:=t.A0;rw [t.eD] at hv;(rcases cb.1 hv with rfl | hv);(·exact aw _);obtain⟨p,hp,hv⟩:=eM.1 hv;obtain⟨i,hi⟩:=cq.1 hp;have e1:=cu Ty.size hi;have e2:=cu Ty.wt hi;have:=ih p (by omega) v hv;omega
theorem Ty.A1 {t v:Ty} (hv:v∈t.nodes):v.wt≤t.wt:=Ty.xw _ t (aw _) v hv
theorem Ty.mod_lt (t:Ty):t.mod.size<t.wt:=by rw [t.kO]; omega
theorem Ty.aeb {t:Ty} {n:Nat} (h:t.wt≤n+1):∀ v∈t.nodes,v.mod.size≤n:=fun v hv=>by have:=Ty.A1 hv;have:=v.mod_lt;omega
def Lb.wt (l:Lb):Nat:=1+l.name.size+l.var.size+l.ty.wt
mutual
def Ex.wt:Ex→Nat
 | .mk _ m n t _ ts ls ks=>1+m.size+n.size+t.size+bd Ty.wt ts+bd Lb.wt ls+Lp ks
def Lp:List Ex→Nat
 | []=>0
 | e :: r=>e.wt+Lp r
end
theorem Q3 (ts:List Ex):Lp ts=bd Ex.wt ts:=by induction ts with | nil=>rfl | cons t r ih=>simp [Lp,bd,ih]
theorem Ex.kO (t:Ex):t.wt=1+t.mod.size+t.name.size+t.text.size+bd Ty.wt t.types+bd Lb.wt t.labels+bd Ex.wt t.kids:=by obtain⟨k,m,n,x,i,ts,ls,ks⟩:=t;rw [Ex.wt,Q3]; rfl
theorem Ex.Ha:∀ (N:Nat) (t:Ex),t.cM≤N→t.cM≤t.wt:=by intro N;induction N with | zero=>intro t h; have:=t.fY; omega | succ N ih =>intro t hN;have h1:=t.nX;have h2:=t.kO;(have gen:∀ (l:List Ex),bd Ex.cM l≤N→bd Ex.cM l≤bd Ex.wt l:=by intro l;induction l with | nil=>intro _; exact aw _ | cons a r UP =>intro hl;simp only [bd] at hl ⊢;have:=ih a (by omega); have:=UP (by omega); omega);have h3:=gen t.kids (by omega);have h4:=vS (g:=Ty.size) (h:=Ty.wt) Ty.ee t.types;have h5:=vS (g:=Lb.cM) (h:=Lb.wt) (fun l=>by unfold Lb.cM Lb.wt; have:=l.ty.ee; omega) t.labels;omega
theorem Ex.iW (t:Ex):t.cM≤t.wt:=Ex.Ha _ t (aw _)
theorem Ex.xw:∀ (N:Nat) (t:Ex),t.cM≤N→∀ v∈t.nodes,v.wt≤t.wt:=by intro N;induction N with | zero=>intro t h; have:=t.fY; omega | succ N ih =>intro t hN v hv;have h1:=t.n8;have h2:=t.kO;rw [t.eD] at hv;(rcases cb.1 hv with rfl | hv);(·exact aw _);obtain⟨p,hp,hv⟩:=eM.1 hv;obtain⟨i,hi⟩:=cq.1 hp;have e1:=cu Ex.cM hi;have e2:=cu Ex.wt hi;have:=ih p (by omega) v hv;omega
theorem Ex.A1 {t v:Ex} (hv:v∈t.nodes):v.wt≤t.wt:=Ex.xw _ t (aw _) v hv
theorem Ex.Zs {e:Ex} {p:Ty} (hp:p∈e.own):p.wt<e.wt:=by
 have h:=e.kO;unfold Ex.own at hp;rcases ew.1 hp with hp | hp
 ·obtain⟨i,hi⟩:=cq.1 hp;have:=cu Ty.wt hi;omega
 split at hp;·obtain⟨l,hl,rfl⟩:=dv.1 hp;obtain⟨i,hi⟩:=cq.1 hl;have h1:=cu Lb.wt hi;have h2:l.wt=1+l.name.size+l.var.size+l.ty.wt:=rfl;omega
 cases hp
theorem Ex.mod_lt (t:Ex):t.mod.size<t.wt:=by rw [t.kO]; omega
theorem Ex.M3 (t:Ex):t.labels.length<t.wt:=by have h1:=cx Lb.wt (fun l=>by unfold Lb.wt; omega) t.labels;rw [t.kO]; omega
theorem Lb.Q4 {t:Ex} {l:Lb} (hl:l∈t.labels):l.wt<t.wt:=by obtain⟨i,hi⟩:=cq.1 hl;have h1:=cu Lb.wt hi;rw [t.kO]; omega
def fA (d:Dc):List V:=[num d.kind,str d.name,bl d.exported,bl d.deprecated,str d.note,.slice (d.params.map dT)]++aq d.lower++aq d.upper++aq d.type++aH d.expr++[str d.mod,str d.target]
theorem vT (d:Dc):aR d = .agg (fA d):=rfl
def Dc.cM (d:Dc):Nat:=1+d.params.length+bd (fun p=>p.bound.size) d.params+d.lower.size+d.upper.size+d.type.size+d.expr.cM
theorem Dc.fY (d:Dc):0<d.cM:=by unfold Dc.cM; omega
def Md.cM (m:Md):Nat:=1+m.imports.length+bd Dc.cM m.decls
def qD (m:Md):List V:=[str m.path,.slice (m.imports.map cz),.slice (m.decls.map aR)]
theorem pY (m:Md):kn m = .agg (qD m):=rfl
def Pm.wt (p:Pm):Nat:=1+p.name.size+p.bound.wt
def Im.wt (i:Im):Nat:=1+i.path.size+i.alias.size
def Dc.wt (d:Dc):Nat:=1+d.name.size+d.note.size+bd Pm.wt d.params+d.lower.wt+d.upper.wt+d.type.wt+d.expr.wt+d.mod.size+d.target.size
def Md.wt (m:Md):Nat:=1+m.path.size+bd Im.wt m.imports+bd Dc.wt m.decls
theorem Q5 (l:List Pm):l.length+bd (fun p=>p.bound.size) l≤bd Pm.wt l:=by induction l with | nil=>exact aw _ | cons a r ih=>have:=a.bound.ee; simp only [bd,ay,Pm.wt]; omega
theorem Dc.iW (d:Dc):d.cM≤d.wt:=by have h1:=Q5 d.params;have h2:=d.lower.ee;have h3:=d.upper.ee;have h4:=d.type.ee;have h5:=d.expr.iW;unfold Dc.cM Dc.wt;omega
theorem Md.iW (m:Md):m.cM≤m.wt:=by have h1:=vS (g:=Dc.cM) (h:=Dc.wt) Dc.iW m.decls;have h2:=cx Im.wt (fun l=>by unfold Im.wt; omega) m.imports;unfold Md.cM Md.wt;omega
section
attribute [local irreducible] runM fH nV de lI vl CO
mutual
def Ex.depth:Ex→Nat
 | .mk _ _ _ _ _ _ _ ks=>1+vU ks
def vU:List Ex→Nat
 | []=>0
 | e :: r=>max e.depth (vU r)
end
theorem EA (ts:List Ex):vU ts=ix Ex.depth ts:=by induction ts with | nil=>rfl | cons t r ih=>simp [vU,ix,ih]
theorem Ex.Hb (t:Ex):t.depth=1+ix Ex.depth t.kids:=by obtain⟨k,m,n,x,i,ts,ls,ks⟩:=t;rw [Ex.depth,EA]; rfl
theorem Ex.Ci:∀ (N:Nat) (t:Ex),t.cM≤N→t.depth≤t.cM:=by intro N;induction N with | zero=>intro t h; have:=t.fY; omega | succ N ih =>intro t hN;rw [Ex.Hb];have h1:=t.n8;(have:=AT Ex.depth (l:=t.kids) (B:=bd Ex.cM t.kids) fun i a ha=>by have:=cu Ex.cM ha;have:=ih a (by omega);omega);omega
theorem Hc (x:Ex) (hl:x.kids.length≤1048576) (hd:x.depth≤1048576) (gB:∀ (i:Nat) (k:Ex),x.kids[i]?=some k→bR af 191 [cK k] (num k.depth)):∃ r,(fun v=>v=num x.depth) r∧bR af 191 [cK x] r:=by
 refine CP tt_ok (fn:=Tryz.f191) Tryz.func191 rfl Tryz.call191 ?_;simp only [dL,cH,Tryz.ntmps191,ay,aI,zA,zF,aD,aE];have hde:=x.Hb;simp only [bj,aH];refine bQ tt_ok 20 [0,2,2] [] rfl rfl fun K hK=>?_;simp only [aj,go_sem,ai];refine hK _ _ rfl ?_;simp only [jk,zA,zE];refine bQ tt_ok 20 [0,0,0,2] [] rfl rfl fun K hK=>?_;simp only [aj,go_sem,ai];refine hK _ _ rfl ?_;simp only [jk,zA,zE];refine fc ?_;refine bQ tt_ok 20 [0,0,0,0,0,0,1,2,2,2] [] rfl rfl fun K hK=>?_;simp only [aj,go_sem,ai];refine hK _ _ rfl ?_;simp only [jk,zA,zE];refine eN ?_;refine kl [9,3] [num 0,num 0] 1 [false,false,true,true,false,false,false,true,true,true] (fun vs=>((x.kids.length:Int)-intOf (vs.headD .undef)).toNat) (fun vs=>∃ (i:Nat),vs=[num i,num (ix Ex.depth (x.kids.take i):Nat)]∧i≤x.kids.length) (by omega) (by simp only [aP,aA,aK,aJ,zB,er]) (by simp only [aP,aA,aK,aJ,zB,er]) (by rfl) (⟨0,rfl,by omega⟩) fun vs hI=>?_;obtain⟨i,rfl,hi⟩:=hI;simp only [aP,aA,aK,aJ,zB,eO,bh,bu,er];refine bQ tt_ok 20 (rp 10 0 [2]) [] rfl rfl fun K hK=>?_;simp only [aj,go_sem,ai];refine hK _ _ rfl ?_;simp only [jk,zA,zE];refine fc ?_;refine om rfl (fun qE=>?_) (fun qE=>?_);·(have ca:i<x.kids.length:=by simpa using qE);obtain⟨k,hx⟩:∃ k,x.kids[i]?=some k:=⟨_,ak ca⟩;have hk:=gB i k hx;rw [bj] at hk;simp only [aH] at hk;have hw:=bx i (by omega);refine gU ?_;show Go.Eng.Ex _ _ _ _ _ _;refine fc ?_;refine eN ?_;refine bQ tt_ok 20 [0,0,0,0,0,2,0,0,0,0,0,1,1] [] rfl rfl fun K hK=>?_;simp only [hw,ed,hx,bj,aH,aj,go_sem,ai];refine hK _ _ rfl ?_;simp only [jk,zA,zE];refine cL tt_ok 20 [0,0,0,2,0,0,0,0,0,0,0,0,0,2,2,2,2] [] (by kernel_rfl) rfl rfl fun K hK=>?_;(try simp only [dL]);refine fI 3 fun K1 fq=>?_;simp only [hw,ed,hx,bj,aH,aj,go_sem,ai];refine jm (⟨_,rfl,hk⟩) ?_;rintro _ rfl;(try simp only [hw,ed,hx,bj,aH,aj,go_sem,ai]);refine fq _ ?_;simp only [hw,ed,hx,bj,aH,aj,go_sem,ai];refine hK _ _ rfl ?_;simp only [jk,zA,zE];show Go.Eng.Ex _ _ _ _ _ _;refine cL tt_ok 20 (rp 9 0 [2,0,0,0,0,0,0,0,2]) [] (by kernel_rfl) rfl rfl fun K hK=>?_;simp only [hw,ed,hx,bj,aH,aj,go_sem,ai];refine hK _ _ rfl ?_;simp only [jk,zA,zE];refine⟨[_,_],?_,?_,1,[false,false,true,true,false,false,false,true,true,true],by omega,by simp only [aP,aA,aK,aJ,zB,er],by simp only [aP,aA,aK,aJ,zB,er],by simp only [aP,aA,aK,aJ,zB,eO,bh,bu,er]; rfl⟩;(·refine⟨i+1,?_,ca⟩;rw [nK Ex.depth hx,← Ew]);simp only [intOf,cr]; omega
 have Lq:¬ i<x.kids.length:=by simpa using qE
 have ig:i=x.kids.length:=by omega
 subst ig;try rw [ai]
 have hw:=bx (ix Ex.depth x.kids) (by omega);have hz:((ix Ex.depth x.kids+1:Nat):Int)=(x.depth:Int):=by omega
 refine j8 ?_;show Go.Eng.Ex _ _ _ _ _ _;refine bQ tt_ok 20 (0::0::2::(rp 15 0 [1,1])) [] rfl rfl fun K hK=>?_;simp only [hw,hz,aj,go_sem,ai];refine hK _ _ rfl ?_;simp only [jk,zA,zE];exact lr ⟨.inl rfl,_,rfl,rfl⟩
theorem JJ:∀ (N:Nat) (x:Ex),x.cM≤N→N≤1048576→bR af 191 [cK x] (num x.depth):=by intro N;induction N with | zero=>intro x h; have:=x.fY; omega | succ N ih =>intro x hN hb;have h2:=x.lK;have h4:=Ex.Ci _ x (aw _);obtain⟨_,rfl,h⟩:=Hc x (by omega) (by omega) fun i k hk=>ih k (by have h1:=cu Ex.cM hk;have h3:=x.n8;omega) (by omega);exact h
end

theorem Lr (e:Ex) (hl:e.types.length+e.labels.length≤34359738368):bR af 230 [cK e] (.slice (bc e.own)):=by
 have IA:e.types.length≤34359738368:=by omega
 obtain⟨k,m,n,x,z,ts,ls,ks⟩:=e;simp only [Ex.types,Ex.labels] at hl IA;refine jA tt_ok (fn:=Tryz.f230) Tryz.func230 rfl Tryz.call230 ?_;simp only [dL,cH,Tryz.ntmps230,ay,aI,zA,zF,aD,aE];refine ah tt_ok fun K hK=>?_;simp only [cK,go_sem];refine hK _ ?_;refine ah tt_ok fun K hK=>?_;simp only [cK,go_sem];refine .inr <| .inl ⟨_,_,bz.live (by simp only [cK,ag,go_sem,ai]) (mS (bc ts) (nu ts 0) (by rw [ag]; exact IA)) rfl _,?_⟩
 try simp only [cK,ag,go_sem]
 refine hK _ ?_;refine bC ?_;refine ah tt_ok fun K hK=>?_;simp only [go_sem];refine hK _ ?_;by_cases hk:k=8;·(have hd:decide (k=8)=true:=by simpa using hk);rw [hd];refine aV rfl ?_;refine ah tt_ok fun K hK=>?_;simp only [ab,go_sem];refine hK _ ?_;refine bX (df (fun N st=>∃ (i dV:Nat) (acc:List Ty),N=ls.length-i∧i≤ls.length∧acc=ts++(ls.take i).map Lb.ty ∧ st = { fr:=[.undef,.ptr 0 0,.undef,.ms 1 dV 0 acc.length,.undef,.undef,.undef,.undef,.undef,.undef,.undef,.undef,.undef,.slice (ls.map cg),num ls.length,num i]++List.replicate 10 .undef,mem:=[.box (cK (.mk k m n x z ts ls ks)).cells,.rows dV 5 (bc acc)] }) ls.length ?_ ?_);(·exact⟨2,(false::true::false::true::(rp 9 false [true,true,true])),by omega,by simp only [aP,aA,aK,aJ,zB,er],by simp only [aP,aA,aK,aJ,zB,er],0,1,ts,by omega,by omega,by simp,rfl⟩);rintro N st ⟨i,dV,acc,rfl,hi,nJ,rfl⟩;(have JC:acc.length≤34359738367∨i=ls.length:=by rw [nJ]; simp; omega);simp only [dL,aD,aE,cK,V.cells];by_cases ca:i<ls.length;(·have hd:=iA ca;(have JD:acc.length≤34359738367:=by omega);refine ah tt_ok fun K hK=>?_;simp only [hd,go_sem];refine hK _ ?_;refine bC (aV rfl (cn ?_));refine bC (bX ?_);obtain⟨f,hf⟩:∃ f,ls[i]?=some f:=⟨_,ak ca⟩;(have mg:(ls.take (i+1)).map Lb.ty=(ls.take i).map Lb.ty++[f.ty]:=by rw [br,hf]; simp);refine ah tt_ok fun K hK=>?_;simp only [ae,hf,cg,aq,go_sem];refine hK _ ?_;refine a8 tt_ok fun K hK=>?_;simp only [ag,JD,go_sem];refine hK _ ?_;refine a8 tt_ok fun K hK=>?_;simp only [go_sem];refine hK _ ?_;have hw:=bx i (by omega);rw [hw];refine⟨ls.length-(i+1),by omega,2,(false::true::false::true::(rp 9 false [true,true,true])),by omega,by simp only [aP,aA,aK,aJ,zB,er],by simp only [aP,aA,aK,aJ,zB,er],i+1,dV+1,acc++[f.ty],rfl,ca,by rw [nJ,mg]; simp,?_⟩;simp [rp,aP,dM,aG,aq]);have hd:=iB ca;refine ah tt_ok fun K hK=>?_;simp only [hd,go_sem];refine hK _ ?_;refine bC (aV rfl (eC ?_));(have ju:i=ls.length:=by omega);subst ju;show eg _ _ _ _ _ _;refine ah tt_ok fun K hK=>?_;simp only [go_sem];refine hK _ ?_;refine bW ⟨.inl rfl,?_⟩;rw [ai] at nJ;(have hr:bc (Ex.mk k m n x z ts ls ks).own=bc acc:=by rw [nJ]; simp [Ex.own,Ex.types,Ex.kind,Ex.labels,hk]);rw [hr];simp [nU,lM,mI,Tryz.f230,zS,gP,dC,ag];rw [← ag]; simp
 have hd:decide (k=8)=false:=by simpa using hk
 rw [hd];refine aV rfl (cn ?_);show eg _ _ _ _ _ _;refine ah tt_ok fun K hK=>?_;simp only [go_sem];refine hK _ ?_;refine bW ⟨.inl rfl,?_⟩;have hr:bc (Ex.mk k m n x z ts ls ks).own=bc ts:=by simp [Ex.own,Ex.types,Ex.kind,Ex.labels,hk]
 rw [hr];simp [nU,lM,mI,Tryz.f230,zS,gP,dC,ag];rw [← ag]; simp

theorem Q6 (e:Ex) (hl:e.types.length+e.labels.length≤34359738368):bR af 46 [cK e] (.slice (bc e.own)):=by
 have IA:e.types.length≤34359738368:=by omega
 obtain⟨k,m,n,x,z,ts,ls,ks⟩:=e;simp only [Ex.types,Ex.labels] at hl IA;refine jA tt_ok (fn:=Tryz.f46) Tryz.func46 rfl Tryz.call46 ?_;simp only [dL,cH,Tryz.ntmps46,ay,aI,zA,zF,aD,aE];refine ah tt_ok fun K hK=>?_;simp only [cK,go_sem];refine hK _ ?_;refine ah tt_ok fun K hK=>?_;simp only [cK,nu,ag,IA,go_sem];refine hK _ ?_;refine bC ?_;refine ah tt_ok fun K hK=>?_;simp only [go_sem];refine hK _ ?_;by_cases hk:k=8;·(have hd:decide (k=8)=true:=by simpa using hk);rw [hd];refine aV rfl ?_;refine ah tt_ok fun K hK=>?_;simp only [go_sem];refine hK _ ?_;refine bX (df (fun N st=>∃ (i dV:Nat) (acc:List Ty),N=ls.length-i∧i≤ls.length∧acc=ts++(ls.take i).map Lb.ty ∧ st = { fr:=[.undef,.ptr 0 0,.undef,.ms 1 dV 0 acc.length,num i]++List.replicate 24 .undef,mem:=[.box (cK (.mk k m n x z ts ls ks)).cells,.rows dV 5 (bc acc)] }) ls.length ?_ ?_);(·exact⟨2,[false,true,false,true,true],by omega,by simp only [aP,aA,aK,aJ,zB,er],by simp only [aP,aA,aK,aJ,zB,er],0,1,ts,by omega,by omega,by simp,rfl⟩);rintro N st ⟨i,dV,acc,rfl,hi,nJ,rfl⟩;(have JC:acc.length≤34359738367∨i=ls.length:=by rw [nJ]; simp; omega);simp only [dL,aD,aE,cK,V.cells];refine bC ?_;by_cases ca:i<ls.length;(·have hd:=iA ca;(have JD:acc.length≤34359738367:=by omega);refine ah tt_ok fun K hK=>?_;simp only [ab,hd,go_sem];refine hK _ ?_;refine aV rfl (cn ?_);refine bC (bX ?_);obtain⟨f,hf⟩:∃ f,ls[i]?=some f:=⟨_,ak ca⟩;(have mg:(ls.take (i+1)).map Lb.ty=(ls.take i).map Lb.ty++[f.ty]:=by rw [br,hf]; simp);refine a8 tt_ok fun K hK=>?_;simp only [ae,hf,cg,aq,ag,JD,go_sem];refine hK _ ?_;refine a8 tt_ok fun K hK=>?_;simp only [go_sem];refine hK _ ?_;have hw:=bx i (by omega);rw [hw];refine⟨ls.length-(i+1),by omega,2,[false,true,false,true,true],by omega,by simp only [aP,aA,aK,aJ,zB,er],by simp only [aP,aA,aK,aJ,zB,er],i+1,dV+1,acc++[f.ty],rfl,ca,by rw [nJ,mg]; simp,?_⟩;simp [rp,aP,dM,aG,aq]);have hd:=iB ca;refine ah tt_ok fun K hK=>?_;simp only [ab,hd,go_sem];refine hK _ ?_;refine aV rfl (eC ?_);(have ju:i=ls.length:=by omega);subst ju;show eg _ _ _ _ _ _;refine ah tt_ok fun K hK=>?_;simp only [go_sem];refine hK _ ?_;refine bW ⟨.inl rfl,?_⟩;rw [ai] at nJ;(have hr:bc (Ex.mk k m n x z ts ls ks).own=bc acc:=by rw [nJ]; simp [Ex.own,Ex.types,Ex.kind,Ex.labels,hk]);rw [hr];simp [nU,lM,mI,Tryz.f46,zS,gP,dC,ag];rw [← ag]; simp
 have hd:decide (k=8)=false:=by simpa using hk
 rw [hd];refine aV rfl (cn ?_);show eg _ _ _ _ _ _;refine ah tt_ok fun K hK=>?_;simp only [go_sem];refine hK _ ?_;refine bW ⟨.inl rfl,?_⟩;have hr:bc (Ex.mk k m n x z ts ls ks).own=bc ts:=by simp [Ex.own,Ex.types,Ex.kind,Ex.labels,hk]
 rw [hr];simp [nU,lM,mI,Tryz.f46,zS,gP,dC,ag];rw [← ag]; simp
def JK (s:Int) (u:Ty):Int:=IntKind.i64.wrap (s+(u.size:Int))
def Ls (s:Int) (e:Ex):Int:=e.own.foldl JK (IntKind.i64.wrap (s+1))
theorem C3:∀ (l:List Ty) (a:Nat),a+bd Ty.size l≤1152921504606846976→l.foldl JK (a:Int)=((a+bd Ty.size l:Nat):Int)
 | [],a,_=>rfl
 | u :: r,a,h=>by
  simp only [bd] at h ⊢
  rw [aM,JK,o4 a u.size (by omega),C3 r _ (by omega)]
  congr 1; omega
theorem A2:∀ (l:List Ex) (a:Nat),a+bd (fun e=>1+bd Ty.size e.own) l≤1152921504606846976→l.foldl Ls (a:Int)=((a+bd (fun e=>1+bd Ty.size e.own) l:Nat):Int)
 | [],a,_=>rfl
 | e :: r,a,h=>by
  simp only [bd] at h ⊢
  rw [aM,Ls,bx a (by omega),C3 _ _ (by omega),A2 r _ (by omega)]
  congr 1; omega


theorem C4 (e:Ex) (he:e.cM≤1048576):bR af 177 [cK e] (num e.size):=by
 have mY:=Ex.l8 _ e (aw _);refine jA tt_ok (fn:=Tryz.f177) Tryz.func177 rfl Tryz.call177 ?_;simp only [dL,cH,Tryz.ntmps177,ay,aI,zA,zF,aD,aE];have Zt:=fun B0 B1 h=>G6 e [B0,B1] h;rw [bj] at Zt ⊢;simp only [aH] at Zt ⊢;refine ah tt_ok fun K hK=>?_;simp only [go_sem];refine hK _ ?_;refine ah tt_ok fun K hK=>?_;simp only [go_sem];refine hK _ ?_;refine bC ?_;refine ah tt_ok fun K hK=>?_;simp only [go_sem];refine .inr <| .inl ⟨_,_,Zt _ _ rfl,?_⟩
 try simp only [go_sem]
 refine hK _ ?_;refine bX (MZ (t:=e) (B:=1048576) (fun s:Int=>[.box (aH e),.box [num s],.box (aH e)]) 0 3 2 rfl (fun _=>rfl) (by omega) (fun _=>rfl) (fun _=>rfl) rfl rfl rfl (fun s u=>(Ls s u,none)) (by omega) he ?_ ?_);·intro s u hu l LR LB hLR hLB;rw [bj];simp only [dL,oX,aH,bu,bh];have S2:=u.xv;have ajT:=u.sX;have mv:=Lr u (by omega);have Lq:=cx Ty.size Ty.size_pos u.own;rw [bj] at mv;simp only [aH] at mv;refine a8 tt_ok fun K hK=>?_;simp only [go_sem];refine hK _ ?_;refine⟨rfl,rfl,bX ?_⟩;refine bC ?_;refine a8 tt_ok fun K hK=>?_;simp only [go_sem];refine hK _ ?_;refine bC ?_;refine a8 tt_ok fun K hK=>?_;simp only [go_sem];refine .inl ⟨_,_,by simp only [ag,go_sem,ai],mv,?_⟩;(try simp only [ag,go_sem]);refine hK _ ?_;obtain⟨ps,tL⟩:∃ ps,ps=u.own:=⟨_,rfl⟩;(have hnw:Ls s u=ps.foldl JK (IntKind.i64.wrap (s+1)):=by rw [tL]; rfl);rw [hnw,← tL];rw [← tL] at S2 Lq;refine bX (df (fun N st=>∃ (i:Nat),N=ps.length-i∧i≤ps.length ∧ st = { fr:=[.undef,.undef,.undef,.ptr 1 0,.undef,.undef,.undef,.undef,.undef,.undef,.undef,.undef,.undef,.slice (bc ps),num ps.length,num i]++List.replicate 9 .undef,mem:=[.box (aH e),.box [num ((ps.take i).foldl JK (IntKind.i64.wrap (s+1)))],.box (aH e),LB] }) ps.length ?_ ?_);(·exact⟨4,(false::false::false::true::(rp 9 false [true,true,true])),by omega,by simp only [aP,aA,aK,aJ,zB,er],by have h4:aJ 4 LB=true:=hLB; simp only [dL,cZ,dY,h4]; rfl,0,by omega,by omega,rfl⟩);rintro N st ⟨i,rfl,hi,rfl⟩;simp only [dL,aD,aE];by_cases ca:i<ps.length;(·have hd:=iA ca;refine ah tt_ok fun K hK=>?_;simp only [hd,go_sem];refine hK _ ?_;refine bC (aV rfl (cn ?_));refine bC (bX ?_);obtain⟨v,hv⟩:∃ v,ps[i]?=some v:=⟨_,ak ca⟩;have hvs:=cu Ty.size hv;(have hfo:(ps.take (i+1)).foldl JK (IntKind.i64.wrap (s+1))=IntKind.i64.wrap ((ps.take i).foldl JK (IntKind.i64.wrap (s+1))+(v.size:Int)):=by rw [br,hv,rh]; rfl);have Cx:=n7 v (by omega);rw [aG] at Cx;simp only [aq] at Cx;refine ah tt_ok fun K hK=>?_;simp only [bo,hv,aG,aq,go_sem];refine hK _ ?_;refine l4 tt_ok cy [⟨.r,0,[],[],[]⟩,⟨.r,0,[],[],[]⟩,⟨.n,0,[],[],[]⟩,⟨.n,0,[],[],[]⟩,⟨.w,0,[],[],[]⟩] 1 (by kernel_rfl) fun K hK=>?_;simp only [go_sem,List.replicate];refine⟨_,_,by simp only [go_sem,ai],.inl (Cx),?_⟩;(try simp only [go_sem,List.replicate]);refine hK _ ?_;rw [← hfo];refine a8 tt_ok fun K hK=>?_;simp only [go_sem];refine hK _ ?_;have kZ:=bx i (by omega);rw [kZ];exact⟨ps.length-(i+1),by omega,4,(false::false::false::true::(rp 9 false [true,true,true])),by omega,by simp only [aP,aA,aK,aJ,zB,er],by have h4:aJ 4 LB=true:=hLB; simp only [dL,cZ,dY,h4]; rfl,i+1,rfl,ca,rfl⟩);have hd:=iB ca;refine ah tt_ok fun K hK=>?_;simp only [hd,go_sem];refine hK _ ?_;refine bC (aV rfl (eC ?_));(have ju:i=ps.length:=by omega);subst ju;(try rw [ai]);exact⟨rfl,rfl,rfl⟩
 rw [uz,show (0:Int)=((0:Nat):Int) from rfl,A2 _ _ (by rw [Ex.AY _ e (aw _)]; omega),Ex.AY _ e (aw _),bE];show eg _ _ _ _ _ _;refine ah tt_ok fun K hK=>?_;simp only [go_sem];refine hK _ ?_;exact bW ⟨.inl rfl,rfl⟩
theorem Q7:∀ (N:Nat) (e:Ex),e.cM≤N→N≤1048576→bR af 29 [cK e] (num e.size):=by intro N;induction N with | zero=>intro t h; have:=t.fY; omega | succ N ih =>intro e hN hb;have S2:=e.xv;have ajT:=e.sX;have mY:=e.size_eq;have hsb:=Ex.l8 _ e (aw _);have mv:=Q6 e (by omega);have Lq:=cx Ty.size Ty.size_pos e.own;have IQ:=e.lK;refine jA tt_ok (fn:=Tryz.f29) Tryz.func29 rfl Tryz.call29 ?_;simp only [dL,cH,Tryz.ntmps29,ay,aI,zA,zF,aD,aE];rw [bj] at mv ⊢;simp only [aH] at mv ⊢;refine ah tt_ok fun K hK=>?_;simp only [go_sem];refine hK _ ?_;refine ah tt_ok fun K hK=>?_;simp only [go_sem];refine hK _ ?_;refine ah tt_ok fun K hK=>?_;simp only [go_sem];refine .inl ⟨_,_,by simp only [go_sem,ai],mv,?_⟩;(try simp only [go_sem]);refine hK _ ?_;refine bC ?_;refine ah tt_ok fun K hK=>?_;simp only [go_sem];refine hK _ ?_;obtain⟨ps,tL⟩:∃ ps,ps=e.own:=⟨_,rfl⟩;rw [← tL] at S2 Lq mY ⊢;refine bX (df (fun N st=>∃ (i:Nat),N=ps.length-i∧i≤ps.length ∧ st = { fr:=[.undef,.ptr 0 0,.undef,num ((1+bd Ty.size (ps.take i):Nat)),.slice (bc ps),num i]++List.replicate 32 .undef,mem:=[.box (aH e)] }) ps.length ?_ ?_);(·exact⟨1,[false,true,false,true,true,true],by omega,by simp only [aP,aA,aK,aJ,zB,er],rfl,0,by omega,by omega,rfl⟩);rintro N' st ⟨i,rfl,hi,rfl⟩;simp only [dL,aD,aE];refine bC ?_;by_cases ca:i<ps.length;(·have hd:=iA ca;refine ah tt_ok fun K hK=>?_;simp only [ag,hd,go_sem];refine hK _ ?_;refine aV rfl (cn ?_);refine bC (bX ?_);obtain⟨u,hu⟩:∃ u,ps[i]?=some u:=⟨_,ak ca⟩;have Te:=cu Ty.size hu;have Cx:=fj Ty.size hu;have TQ:=gv Ty.size ps (i+1);have gB:=r9 u.size u (aw _) (by omega);rw [aG] at gB;simp only [aq] at gB;refine a8 tt_ok fun K hK=>?_;simp only [bo,hu,aG,aq,go_sem];refine .inl ⟨_,_,by simp only [go_sem,ai],gB,?_⟩;(try simp only [go_sem]);refine hK _ ?_;(have hw:IntKind.i64.wrap (((1+bd Ty.size (ps.take i):Nat):Int)+(u.size:Int))=((1+bd Ty.size (ps.take (i+1)):Nat):Int):=by rw [o4 _ _ (by omega)]; congr 1; omega);rw [hw];refine a8 tt_ok fun K hK=>?_;simp only [go_sem];refine hK _ ?_;have kZ:=bx i (by omega);rw [kZ];exact⟨ps.length-(i+1),by omega,1,[false,true,false,true,true,true],by omega,by simp only [aP,aA,aK,aJ,zB,er],rfl,i+1,rfl,ca,by simp [rp,aP]⟩);have hd:=iB ca;refine ah tt_ok fun K hK=>?_;simp only [ag,hd,go_sem];refine hK _ ?_;refine aV rfl (eC ?_);(have ju:i=ps.length:=by omega);subst ju;(try rw [ai]);show eg _ _ _ _ _ _;refine bC ?_;refine ah tt_ok fun K hK=>?_;simp only [go_sem];refine hK _ ?_;obtain⟨ks,T1⟩:∃ ks,ks=e.kids:=⟨_,rfl⟩;obtain⟨S,hS⟩:∃ S,S=1+bd Ty.size ps:=⟨_,rfl⟩;rw [← hS];rw [← T1] at S2 mY IQ;refine bX (df (fun N st=>∃ (i:Nat),N=ks.length-i∧i≤ks.length ∧ st = { fr:=[.undef,.ptr 0 0,.undef,num ((S+bd Ex.size (ks.take i):Nat)),.undef,.undef,num i]++List.replicate 31 .undef,mem:=[.box (aH e)] }) ks.length ?_ ?_);(·exact⟨1,[false,true,false,true,false,false,true],by omega,by simp only [aP,aA,aK,aJ,zB,er],rfl,0,by omega,by omega,rfl⟩);rintro N' st ⟨i,rfl,hi,rfl⟩;simp only [aD,aE,au,ax,aH,← T1];refine bC ?_;by_cases ca:i<ks.length;(·have hd:=iA ca;refine ah tt_ok fun K hK=>?_;simp only [aj,hd,go_sem];refine hK _ ?_;refine aV rfl (cn ?_);refine bC (bX ?_);obtain⟨u,hu⟩:∃ u,ks[i]?=some u:=⟨_,ak ca⟩;have Te:=cu Ex.cM hu;have Cx:=fj Ex.size hu;have TQ:=gv Ex.size ks (i+1);have gB:=ih u (by omega) (by omega);rw [bj] at gB;simp only [aH] at gB;refine a8 tt_ok fun K hK=>?_;simp only [ed,hu,bj,aH,go_sem];refine .inl ⟨_,_,by simp only [go_sem,ai],gB,?_⟩;(try simp only [go_sem]);refine hK _ ?_;(have hw:IntKind.i64.wrap (((S+bd Ex.size (ks.take i):Nat):Int)+(u.size:Int))=((S+bd Ex.size (ks.take (i+1)):Nat):Int):=by rw [o4 _ _ (by omega)]; congr 1; omega);rw [hw];refine a8 tt_ok fun K hK=>?_;simp only [go_sem];refine hK _ ?_;have kZ:=bx i (by omega);rw [kZ];exact⟨ks.length-(i+1),by omega,1,[false,true,false,true,false,false,true],by omega,by simp only [aP,aA,aK,aJ,zB,er],rfl,i+1,rfl,ca,by simp [rp,aP,aH,← T1]⟩);have hd:=iB ca;refine ah tt_ok fun K hK=>?_;simp only [aj,hd,go_sem];refine hK _ ?_;refine aV rfl (eC ?_);(have ju:i=ks.length:=by omega);subst ju;(try rw [ai]);show eg _ _ _ _ _ _;refine ah tt_ok fun K hK=>?_;simp only [go_sem];refine hK _ ?_;refine bW ⟨.inl rfl,?_⟩;(have mo:S+bd Ex.size ks=e.size:=by omega);rw [mo];simp [nU,lM,mI,Tryz.f29,zS,gP,dC,lL]
noncomputable def tN {α:Type} (a b:α):Bool:=@decide (a=b) (Classical.propDecidable _)
theorem dU {α:Type} {a b:α} (h:a=b):tN a b=true:=by unfold tN; exact @decide_eq_true _ (Classical.propDecidable _) h
theorem cJ {α:Type} {a b:α} (h:¬ a=b):tN a b=false:=by unfold tN; exact @decide_eq_false _ (Classical.propDecidable _) h
theorem zd {α:Type} {a b:α}:tN a b=true↔a=b:=by refine⟨fun h=>Classical.byContradiction fun hn=>?_,dU⟩;rw [cJ hn] at h; cases h
theorem nw (a b:ByteArray):(a.toList==b.toList)=tN a b:=by
 have inj:a.toList=b.toList→a=b:=fun h=>by rw [ByteArray.toList_eq,ByteArray.toList_eq] at h;exact apM (apA.1 h)
 by_cases h:a=b;·rw [dU h,h]; simp
 rw [cJ h]; simpa using fun e=>h (inj e)

theorem Hd (g:FuncId) (ts us:List Ty) (hl:ts.length≤1048576) (hg:∀ (i:Nat) (t u:Ty),ts[i]?=some t→us[i]?=some u→bR af g [cD t,cD u] (bl (tN t u))) :
  bR af 224 [.slice (bc ts),.slice (bc us),.sc (.func (.func g) #[] #[])] (bl (tN ts us)):=by
 refine jA tt_ok (fn:=Tryz.f224) Tryz.func224 rfl Tryz.call224 ?_;simp only [dL,cH,Tryz.ntmps224,ay,aI,zA,zF,aD,aE];refine ah tt_ok fun K hK=>?_;simp only [go_sem];refine hK _ ?_;refine bC ?_;by_cases hlen:ts.length=us.length;·(have hd:(!decide ((ts.length:Int)=(us.length:Int)))=false:=by simp [hlen]);refine ah tt_ok fun K hK=>?_;simp only [ag,hd,go_sem];refine hK _ ?_;refine aV rfl (cn ?_);show eg _ _ _ _ _ _;refine bC ?_;refine ah tt_ok fun K hK=>?_;simp only [ag,go_sem];refine hK _ ?_;refine bX (df (fun N st=>∃ (i:Nat),N=ts.length-i∧i≤ts.length∧ts.take i=us.take i ∧ st = { fr:=[.undef,.slice (bc us),.sc (.func (.func g) #[] #[]),.undef,.undef,.undef,.undef,.undef,.undef,.undef,.undef,.undef,.undef,.undef,.undef,.slice (bc ts),num ts.length,num i]++List.replicate 14 .undef,mem:=[] }) ts.length ?_ ?_);(·exact⟨0,(false::true::true::(rp 12 false [true,true,true])),by omega,by simp only [aP,aA,aK,aJ,zB,er],rfl,0,by omega,by omega,by simp,rfl⟩);rintro N' st ⟨i,rfl,hi,qU,rfl⟩;simp only [dL,aD,aE];by_cases ca:i<ts.length;(·have hd:=iA ca;refine ah tt_ok fun K hK=>?_;simp only [hd,go_sem];refine hK _ ?_;refine bC (aV rfl (cn ?_));refine bC (bX ?_);obtain⟨t,ht⟩:∃ t,ts[i]?=some t:=⟨_,ak ca⟩;obtain⟨u,hu⟩:∃ u,us[i]?=some u:=⟨_,ak (by omega)⟩;have Q8:=hg i t u ht hu;rw [aG,aG] at Q8;simp only [aq] at Q8;refine ah tt_ok fun K hK=>?_;simp only [bo,ht,aG,aq,go_sem];refine hK _ ?_;refine ah tt_ok fun K hK=>?_;simp only [bo,hu,aG,aq,go_sem];refine hK _ ?_;refine ah tt_ok fun K hK=>?_;simp only [go_sem];refine .inl ⟨_,_,by simp only [go_sem,ai],Q8,?_⟩;(try simp only [go_sem]);refine hK _ ?_;(have Q9:∀ h:t=u,ts.take (i+1)=us.take (i+1):=fun h=>by rw [br,br,qU,ht,hu,h]);by_cases Lt:t=u;(·rw [dU Lt];refine aV rfl (cn ?_);show eg _ _ _ _ _ _;refine a8 tt_ok fun K hK=>?_;simp only [go_sem];refine hK _ ?_;have kZ:=bx i (by omega);rw [kZ];exact⟨ts.length-(i+1),by omega,0,(false::true::true::(rp 12 false [true,true,true])),by omega,by simp only [aP,aA,aK,aJ,zB,er],rfl,i+1,rfl,ca,Q9 Lt,rfl⟩);rw [cJ Lt];refine aV rfl ?_;refine ah tt_ok fun K hK=>?_;simp only [go_sem];refine hK _ ?_;refine bW ⟨.inl rfl,?_⟩;rw [cJ (fun e=>Lt (by rw [e,hu] at ht; exact (kN ht).symm))];rfl);have hd:=iB ca;refine ah tt_ok fun K hK=>?_;simp only [hd,go_sem];refine hK _ ?_;refine bC (aV rfl (eC ?_));(have ju:i=ts.length:=by omega);show eg _ _ _ _ _ _;refine ah tt_ok fun K hK=>?_;simp only [go_sem];refine hK _ ?_;refine bW ⟨.inl rfl,?_⟩;rw [ju,ai,hlen,ai] at qU;rw [dU qU];rfl
 have hd:(!decide ((ts.length:Int)=(us.length:Int)))=true:=by simpa using fun e=>hlen (by omega)
 refine ah tt_ok fun K hK=>?_;simp only [ag,hd,go_sem];refine hK _ ?_;refine aV rfl ?_;refine ah tt_ok fun K hK=>?_;simp only [go_sem];refine hK _ ?_;refine bW ⟨.inl rfl,?_⟩;rw [cJ (fun e=>hlen (by rw [e]))];rfl

theorem He (g:FuncId) (ts us:List Fd) (hl:ts.length≤1048576) (hg:∀ (i:Nat) (t u:Fd),ts[i]?=some t→us[i]?=some u→bR af g [mw t,mw u] (bl (tN t u))) :
  bR af 225 [.slice (cB ts),.slice (cB us),.sc (.func (.func g) #[] #[])] (bl (tN ts us)):=by
 refine jA tt_ok (fn:=Tryz.f225) Tryz.func225 rfl Tryz.call225 ?_;simp only [dL,cH,Tryz.ntmps225,ay,aI,zA,zF,aD,aE];refine ah tt_ok fun K hK=>?_;simp only [go_sem];refine hK _ ?_;refine bC ?_;by_cases hlen:ts.length=us.length;·(have hd:(!decide ((ts.length:Int)=(us.length:Int)))=false:=by simp [hlen]);refine ah tt_ok fun K hK=>?_;simp only [aO,hd,go_sem];refine hK _ ?_;refine aV rfl (cn ?_);show eg _ _ _ _ _ _;refine bC ?_;refine ah tt_ok fun K hK=>?_;simp only [aO,go_sem];refine hK _ ?_;refine bX (df (fun N st=>∃ (i:Nat),N=ts.length-i∧i≤ts.length∧ts.take i=us.take i ∧ st = { fr:=[.undef,.slice (cB us),.sc (.func (.func g) #[] #[]),.undef,.undef,.undef,.undef,.undef,.undef,.undef,.undef,.undef,.undef,.undef,.undef,.slice (cB ts),num ts.length,num i]++List.replicate 14 .undef,mem:=[] }) ts.length ?_ ?_);(·exact⟨0,(false::true::true::(rp 12 false [true,true,true])),by omega,by simp only [aP,aA,aK,aJ,zB,er],rfl,0,by omega,by omega,by simp,rfl⟩);rintro N' st ⟨i,rfl,hi,qU,rfl⟩;simp only [dL,aD,aE];by_cases ca:i<ts.length;(·have hd:=iA ca;refine ah tt_ok fun K hK=>?_;simp only [hd,go_sem];refine hK _ ?_;refine bC (aV rfl (cn ?_));refine bC (bX ?_);obtain⟨t,ht⟩:∃ t,ts[i]?=some t:=⟨_,ak ca⟩;obtain⟨u,hu⟩:∃ u,us[i]?=some u:=⟨_,ak (by omega)⟩;have Q8:=hg i t u ht hu;rw [cp,cp] at Q8;simp only [dL,aq] at Q8;refine ah tt_ok fun K hK=>?_;simp only [bZ,ht,cp,aq,go_sem];refine hK _ ?_;refine ah tt_ok fun K hK=>?_;simp only [bZ,hu,cp,aq,go_sem];refine hK _ ?_;refine ah tt_ok fun K hK=>?_;simp only [go_sem];refine .inl ⟨_,_,by simp only [go_sem,ai],Q8,?_⟩;(try simp only [go_sem]);refine hK _ ?_;(have Q9:∀ h:t=u,ts.take (i+1)=us.take (i+1):=fun h=>by rw [br,br,qU,ht,hu,h]);by_cases Lt:t=u;(·rw [dU Lt];refine aV rfl (cn ?_);show eg _ _ _ _ _ _;refine a8 tt_ok fun K hK=>?_;simp only [go_sem];refine hK _ ?_;have kZ:=bx i (by omega);rw [kZ];exact⟨ts.length-(i+1),by omega,0,(false::true::true::(rp 12 false [true,true,true])),by omega,by simp only [aP,aA,aK,aJ,zB,er],rfl,i+1,rfl,ca,Q9 Lt,rfl⟩);rw [cJ Lt];refine aV rfl ?_;refine ah tt_ok fun K hK=>?_;simp only [go_sem];refine hK _ ?_;refine bW ⟨.inl rfl,?_⟩;rw [cJ (fun e=>Lt (by rw [e,hu] at ht; exact (kN ht).symm))];rfl);have hd:=iB ca;refine ah tt_ok fun K hK=>?_;simp only [hd,go_sem];refine hK _ ?_;refine bC (aV rfl (eC ?_));(have ju:i=ts.length:=by omega);show eg _ _ _ _ _ _;refine ah tt_ok fun K hK=>?_;simp only [go_sem];refine hK _ ?_;refine bW ⟨.inl rfl,?_⟩;rw [ju,ai,hlen,ai] at qU;rw [dU qU];rfl
 have hd:(!decide ((ts.length:Int)=(us.length:Int)))=true:=by simpa using fun e=>hlen (by omega)
 refine ah tt_ok fun K hK=>?_;simp only [aO,hd,go_sem];refine hK _ ?_;refine aV rfl ?_;refine ah tt_ok fun K hK=>?_;simp only [go_sem];refine hK _ ?_;refine bW ⟨.inl rfl,?_⟩;rw [cJ (fun e=>hlen (by rw [e]))];rfl
theorem Ty.ext_iff (t u:Ty):t=u↔t.kind=u.kind∧t.mod=u.mod∧t.name=u.name∧t.args=u.args∧t.bD=u.bD:=by obtain⟨k,m,n,ts,fs⟩:=t;obtain⟨k',m',n',ts',fs'⟩:=u;simp [Ty.kind,Ty.mod,Ty.name,Ty.args,Ty.bD]
theorem Fd.ext_iff (t u:Fd):t=u↔t.name=u.name∧t.opt=u.opt∧t.ty=u.ty:=by obtain⟨n,t,o⟩:=t;obtain⟨n',t',o'⟩:=u;simp only [Fd.name,Fd.opt,Fd.ty,Fd.mk.injEq];exact⟨fun h=>⟨h.1,h.2.2,h.2.1⟩,fun h=>⟨h.1,h.2.2,h.2.1⟩⟩

theorem UX (t u:Fd) (h:bR af 171 [cD t.ty,cD u.ty] (bl (tN t.ty u.ty))):bR af 226 [mw t,mw u] (bl (tN t u)):=by
 refine jA tt_ok (fn:=Tryz.f226) Tryz.func226 rfl Tryz.call226 ?_;simp only [dL,cH,Tryz.ntmps226,ay,aI,zA,zF,aD,aE];rw [aG,aG] at h;rw [cp,cp];simp only [dL,aq] at h ⊢;have e1:=nw t.name u.name;have hT:af.underlying 4=some .bool:=by kernel_rfl
 have e2:=fun x y=>TH (P:=af) (T:=4) x y hT;refine ah tt_ok fun K hK=>?_;simp only [go_sem];refine hK _ ?_;by_cases h1:t.name=u.name;·rw [dU h1] at e1;by_cases h2:t.opt=u.opt;(·(have e3:(t.opt==u.opt)=true:=by simpa using h2);refine ah tt_ok fun K hK=>?_;simp only [e1,e2,e3,go_sem];refine .inl ⟨_,_,by simp only [go_sem,ai],h,?_⟩;(try simp only [go_sem]);refine hK _ ?_;refine bW ⟨.inl rfl,?_⟩;(have hr:tN t u=tN t.ty u.ty:=by by_cases h3:t.ty=u.ty;(·rw [dU h3,dU ((Fd.ext_iff t u).2 ⟨h1,h2,h3⟩)]);rw [cJ h3,cJ fun e=>h3 ((Fd.ext_iff t u).1 e).2.2]);rw [hr]; rfl);(have e3:(t.opt==u.opt)=false:=by simpa using h2);refine ah tt_ok fun K hK=>?_;simp only [e1,e2,e3,go_sem];refine hK _ ?_;refine bW ⟨.inl rfl,?_⟩;rw [cJ fun e=>h2 ((Fd.ext_iff t u).1 e).2.1]; rfl
 rw [cJ h1] at e1;refine ah tt_ok fun K hK=>?_;simp only [e1,go_sem];refine hK _ ?_;refine bW ⟨.inl rfl,?_⟩;rw [cJ fun e=>h1 ((Fd.ext_iff t u).1 e).1]; rfl
theorem Ty.C5 {t a:Ty} {i:Nat} (h:t.args[i]?=some a):a.size<t.size:=by
 have h1:t.parts[i]?=some a:=by unfold Ty.parts;rw [bF (az.1 h).1]; exact h
 have:=cu Ty.size h1; have:=t.dj; omega
theorem Ty.C6 {t:Ty} {f:Fd} {i:Nat} (h:t.bD[i]?=some f):f.ty.size<t.size:=by
 have h1:t.parts[t.args.length+i]?=some f.ty:=by unfold Ty.parts;rw [aW (by omega),ez,ae,h]; rfl
 have:=cu Ty.size h1; have:=t.dj; omega

theorem Hf:∀ (N:Nat) (t u:Ty),t.size≤N→N≤1048576→bR af 171 [cD t,cD u] (bl (tN t u)):=by intro N;induction N with | zero=>intro t u h; have:=t.size_pos; omega | succ N ih =>intro t u hN hb;have y8:=t.fp;have hA:=Hd 171 t.args u.args (by omega) fun i a b ha _=>ih a b (by have:=Ty.C5 ha; omega) (by omega);have hF:=He 226 t.bD u.bD (by omega) fun i a b ha _=>UX a b (ih a.ty b.ty (by have:=Ty.C6 ha; omega) (by omega));refine jA tt_ok (fn:=Tryz.f171) Tryz.func171 rfl Tryz.call171 ?_;simp only [dL,cH,Tryz.ntmps171,ay,aI,zA,zF,aD,aE];rw [aG,aG];simp only [aq];have e2:=nw t.mod u.mod;have e3:=nw t.name u.name;refine ah tt_ok fun K hK=>?_;simp only [go_sem];refine hK _ ?_;by_cases h1:t.kind=u.kind;(·have d1:decide (t.kind=u.kind)=true:=decide_eq_true h1;by_cases h2:t.mod=u.mod;(·rw [dU h2] at e2;by_cases h3:t.name=u.name;(·rw [dU h3] at e3;by_cases h4:t.args=u.args;(·rw [dU h4] at hA;by_cases h5:t.bD=u.bD;(·rw [dU h5] at hF;refine ah tt_ok fun K hK=>?_;simp only [d1,e2,e3,go_sem];refine .inl ⟨_,_,by simp only [go_sem,ai],hA,?_⟩;(try simp only [go_sem]);refine .inl ⟨_,_,by simp only [go_sem,ai],hF,?_⟩;(try simp only [go_sem]);refine hK _ ?_;refine bW ⟨.inl rfl,?_⟩;rw [dU ((Ty.ext_iff t u).2 ⟨h1,h2,h3,h4,h5⟩)]; rfl);rw [cJ h5] at hF;refine ah tt_ok fun K hK=>?_;simp only [d1,e2,e3,go_sem];refine .inl ⟨_,_,by simp only [go_sem,ai],hA,?_⟩;(try simp only [go_sem]);refine .inl ⟨_,_,by simp only [go_sem,ai],hF,?_⟩;(try simp only [go_sem]);refine hK _ ?_;refine bW ⟨.inl rfl,?_⟩;rw [cJ fun e=>h5 ((Ty.ext_iff t u).1 e).2.2.2.2]; rfl);rw [cJ h4] at hA;refine ah tt_ok fun K hK=>?_;simp only [d1,e2,e3,go_sem];refine .inl ⟨_,_,by simp only [go_sem,ai],hA,?_⟩;(try simp only [go_sem]);refine hK _ ?_;refine bW ⟨.inl rfl,?_⟩;rw [cJ fun e=>h4 ((Ty.ext_iff t u).1 e).2.2.2.1]; rfl);rw [cJ h3] at e3;refine ah tt_ok fun K hK=>?_;simp only [d1,e2,e3,go_sem];refine hK _ ?_;refine bW ⟨.inl rfl,?_⟩;rw [cJ fun e=>h3 ((Ty.ext_iff t u).1 e).2.2.1]; rfl);rw [cJ h2] at e2;refine ah tt_ok fun K hK=>?_;simp only [d1,e2,go_sem];refine hK _ ?_;refine bW ⟨.inl rfl,?_⟩;rw [cJ fun e=>h2 ((Ty.ext_iff t u).1 e).2.1]; rfl);have d1:decide (t.kind=u.kind)=false:=decide_eq_false h1;refine ah tt_ok fun K hK=>?_;simp only [d1,go_sem];refine hK _ ?_;refine bW ⟨.inl rfl,?_⟩;rw [cJ fun e=>h1 ((Ty.ext_iff t u).1 e).1]; rfl
section
attribute [local irreducible] runM fH nV
theorem M4 (ts us:List Ty) (hl:ts.length≤1048576) (hg:∀ (i:Nat) (t u:Ty),ts[i]?=some t→us[i]?=some u→bR af 76 [cD t,cD u] (bl (tN t u))) :
  bR af 128 [.slice (bc ts),.slice (bc us)] (bl (tN ts us)):=by
 refine jA tt_ok (fn:=Tryz.f128) Tryz.func128 rfl Tryz.call128 ?_;simp only [dL,cH,Tryz.ntmps128,ay,aI,zA,zF,aD,aE];refine ah tt_ok fun K hK=>?_;simp only [go_sem];refine hK _ ?_;refine bC ?_;by_cases hlen:ts.length=us.length;·(have hd:(!decide ((ts.length:Int)=(us.length:Int)))=false:=by simp [hlen]);refine ah tt_ok fun K hK=>?_;simp only [ag,hd,go_sem];refine hK _ ?_;refine aV rfl (cn ?_);show eg _ _ _ _ _ _;refine bC ?_;refine ah tt_ok fun K hK=>?_;simp only [go_sem];refine hK _ ?_;refine bX (df (fun N st=>∃ (i:Nat),N=ts.length-i∧i≤ts.length∧ts.take i=us.take i ∧ st = { fr:=[.slice (bc ts),.slice (bc us),.undef,.undef,.undef,num i]++List.replicate 21 .undef,mem:=[] }) ts.length ?_ ?_);(·exact⟨0,[true,true,false,false,false,true],by omega,by simp only [aP,aA,aK,aJ,zB,er],rfl,0,by omega,by omega,by simp,rfl⟩);rintro N' st ⟨i,rfl,hi,qU,rfl⟩;simp only [dL,aD,aE];refine bC ?_;by_cases ca:i<ts.length;(·have hd:=iA ca;refine ah tt_ok fun K hK=>?_;simp only [ag,hd,go_sem];refine hK _ ?_;refine aV rfl (cn ?_);refine bC (bX ?_);obtain⟨t,ht⟩:∃ t,ts[i]?=some t:=⟨_,ak ca⟩;obtain⟨u,hu⟩:∃ u,us[i]?=some u:=⟨_,ak (by omega)⟩;have Q8:=hg i t u ht hu;rw [aG,aG] at Q8;simp only [aq] at Q8;refine m7 tt_ok cy [⟨.n,0,[],[],[]⟩,⟨.n,0,[],[],[]⟩,⟨.r,0,[],[],[]⟩,⟨.r,0,[],[],[]⟩,⟨.n,0,[],[],[]⟩,⟨.n,0,[],[],[]⟩,⟨.r,0,[],[],[]⟩,⟨.r,0,[],[],[]⟩,⟨.n,0,[],[],[]⟩,⟨.n,0,[],[],[]⟩] 0 (by kernel_rfl) fun K hK=>?_;simp only [bo,ht,hu,aG,aq,go_sem,List.replicate];refine⟨_,_,by simp only [go_sem,ai],.inl (Q8),?_⟩;(try simp only [go_sem,List.replicate]);refine hK _ ?_;(have Q9:∀ h:t=u,ts.take (i+1)=us.take (i+1):=fun h=>by rw [br,br,qU,ht,hu,h]);by_cases Lt:t=u;(·rw [dU Lt];refine aV rfl (cn ?_);show eg _ _ _ _ _ _;refine a8 tt_ok fun K hK=>?_;simp only [go_sem];refine hK _ ?_;have kZ:=bx i (by omega);rw [kZ];exact⟨ts.length-(i+1),by omega,0,[true,true,false,false,false,true],by omega,by simp only [aP,aA,aK,aJ,zB,er],rfl,i+1,rfl,ca,Q9 Lt,rfl⟩);rw [cJ Lt];refine aV rfl ?_;refine ah tt_ok fun K hK=>?_;simp only [go_sem];refine hK _ ?_;refine bW ⟨.inl rfl,?_⟩;rw [cJ (fun e=>Lt (by rw [e,hu] at ht; exact (kN ht).symm))];rfl);have hd:=iB ca;refine ah tt_ok fun K hK=>?_;simp only [ag,hd,go_sem];refine hK _ ?_;refine aV rfl (eC ?_);(have ju:i=ts.length:=by omega);subst ju;show eg _ _ _ _ _ _;refine ah tt_ok fun K hK=>?_;simp only [go_sem];refine hK _ ?_;refine bW ⟨.inl rfl,?_⟩;(have he:ts=us:=by rw [ai] at qU;rw [qU,hlen,ai]);rw [dU he]; rfl
 have hd:(!decide ((ts.length:Int)=(us.length:Int)))=true:=by simp; omega
 refine ah tt_ok fun K hK=>?_;simp only [ag,hd,go_sem];refine hK _ ?_;refine aV rfl ?_;refine ah tt_ok fun K hK=>?_;simp only [go_sem];refine hK _ ?_;refine bW ⟨.inl rfl,?_⟩;rw [cJ (fun e=>hlen (by rw [e]))]; rfl

def nc (id:Nat):Code→Option (Array Oper)
 | .region j ops _=>if j=id then some ops else none
 | .seq a b=>match nc id a with | some x=>some x | none=>nc id b
 | .cond _ a b=>match nc id a with | some x=>some x | none=>nc id b
 | .block _ c=>nc id c
 | .loop c=>nc id c
 | _=>none
def ze (id:Nat) (fn:Func):Option (Array Oper):=match fn.body with | some b=>nc id b | none=>none
def EB (t u:Ty) (i:Nat) (b:Bool) (K:St→Prop):Prop:=∀ fr:List V,aP ([false,false,true,true,false,true]++List.replicate 78 false++[true]) fr=[.undef,.undef,.ptr 0 0,.ptr 1 0,.undef,num i]++List.replicate 78 .undef++[bl b]++List.replicate 5 .undef →
 K { fr:=fr,mem:=[.box (aq t),.box (aq u)] }
section
variable {t u:Ty} {i:Nat} {f g:Fd} (hf:t.bD[i]?=some f) (hg:u.bD[i]?=some g) {a0 a b c d:V} {K:St→Prop} {ops:Array Oper} (ho:ze 6 Tryz.f76=some ops)
include hf hg ho in
theorem JL (h5:¬ f.name=g.name) (hK:EB t u i true K) :
  runM af tt ops 2 ops.toList [⟨.n,0,[],[],[]⟩,⟨.r,0,[],[],[]⟩,⟨.n,0,[],[],[]⟩,⟨.r,0,[],[],[]⟩,⟨.n,0,[],[],[]⟩,⟨.r,0,[],[],[]⟩,⟨.n,0,[],[],[]⟩,⟨.r,0,[],[],[]⟩,⟨.n,0,[],[],[]⟩,⟨.r,0,[],[],[]⟩,⟨.n,0,[],[],[]⟩,⟨.r,0,[],[],[]⟩,⟨.n,0,[],[],[]⟩,⟨.n,0,[],[],[]⟩,⟨.n,0,[],[],[]⟩,⟨.r,0,[],[],[]⟩,⟨.n,0,[],[],[]⟩,⟨.r,0,[],[],[]⟩,⟨.n,0,[],[],[]⟩,⟨.r,0,[],[],[]⟩,⟨.n,0,[],[],[]⟩,⟨.r,0,[],[],[]⟩,⟨.n,0,[],[],[]⟩,⟨.r,0,[],[],[]⟩,⟨.n,0,[],[],[]⟩,⟨.r,0,[],[],[]⟩,⟨.n,0,[],[],[]⟩,⟨.n,0,[],[],[]⟩,⟨.n,0,[],[],[]⟩,⟨.n,0,[],[],[]⟩,⟨.r,0,[],[],[]⟩,⟨.n,0,[],[],[]⟩,⟨.r,0,[],[],[]⟩,⟨.n,0,[],[],[]⟩,⟨.r,0,[],[],[]⟩,⟨.n,0,[],[],[]⟩,⟨.r,0,[],[],[]⟩,⟨.n,0,[],[],[]⟩,⟨.r,0,[],[],[]⟩,⟨.n,0,[],[],[]⟩,⟨.r,0,[],[],[]⟩,⟨.n,0,[],[],[]⟩,⟨.n,0,[],[],[]⟩,⟨.n,0,[],[],[]⟩] { fr:=[.undef,.undef,.ptr 0 0,.ptr 1 0,.undef,num i]++List.replicate 28 .undef++[a0,a,b,c,d]++List.replicate 51 .undef,mem:=[.box (aq t),.box (aq u)]++List.replicate 0 .hole } K:=by
 simp only [ze,Tryz.f76,nc,zE,if_false,if_true,reduceIte,aF] at ho;subst ho;have e5:=nw f.name g.name;have hT:af.underlying 4=some .bool:=by kernel_rfl
 have e6:=fun x y=>DX (P:=af) (T:=4) x y hT;rw [cJ h5] at e5;simp only [dL,aD,aE,aq];refine c6 5 (by simp) (by simp) fun K1 fq=>?_;simp only [bZ,hf,hg,cp,aq,e5,go_sem,List.replicate];refine fq _ ?_;refine c6 5 (by simp) (by simp) fun K1 fq=>?_;simp only [bZ,hf,hg,cp,aq,e5,go_sem,List.replicate];refine fq _ ?_;refine c6 5 (by simp) (by simp) fun K1 fq=>?_;simp only [bZ,hf,hg,cp,aq,e5,go_sem,List.replicate];refine fq _ ?_;refine c6 5 (by simp) (by simp) fun K1 fq=>?_;simp only [bZ,hf,hg,cp,aq,e5,go_sem,List.replicate];refine fq _ ?_;refine c6 5 (by simp) (by simp) fun K1 fq=>?_;simp only [bZ,hf,hg,cp,aq,e5,go_sem,List.replicate];refine fq _ ?_;refine c6 5 (by simp) (by simp) fun K1 fq=>?_;simp only [bZ,hf,hg,cp,aq,e5,go_sem,List.replicate];refine fq _ ?_;refine c6 5 (by simp) (by simp) fun K1 fq=>?_;simp only [bZ,hf,hg,cp,aq,e5,go_sem,List.replicate];refine fq _ ?_;refine c6 5 (by simp) (by simp) fun K1 fq=>?_;simp only [bZ,hf,hg,cp,aq,e5,go_sem,List.replicate];refine fq _ ?_;simp only [go_sem,List.replicate];exact hK _ (by simp only [aP,aD,aE,au,ax,er])
include hf hg ho in
theorem M5 (h5:f.name=g.name) (h6:¬ f.opt=g.opt) (hK:EB t u i true K) :
  runM af tt ops 2 ops.toList [⟨.n,0,[],[],[]⟩,⟨.r,0,[],[],[]⟩,⟨.n,0,[],[],[]⟩,⟨.r,0,[],[],[]⟩,⟨.n,0,[],[],[]⟩,⟨.r,0,[],[],[]⟩,⟨.n,0,[],[],[]⟩,⟨.r,0,[],[],[]⟩,⟨.n,0,[],[],[]⟩,⟨.r,0,[],[],[]⟩,⟨.n,0,[],[],[]⟩,⟨.r,0,[],[],[]⟩,⟨.n,0,[],[],[]⟩,⟨.n,0,[],[],[]⟩,⟨.n,0,[],[],[]⟩,⟨.r,0,[],[],[]⟩,⟨.n,0,[],[],[]⟩,⟨.r,0,[],[],[]⟩,⟨.n,0,[],[],[]⟩,⟨.r,0,[],[],[]⟩,⟨.n,0,[],[],[]⟩,⟨.r,0,[],[],[]⟩,⟨.n,0,[],[],[]⟩,⟨.r,0,[],[],[]⟩,⟨.n,0,[],[],[]⟩,⟨.r,0,[],[],[]⟩,⟨.n,0,[],[],[]⟩,⟨.n,0,[],[],[]⟩,⟨.n,0,[],[],[]⟩,⟨.n,0,[],[],[]⟩,⟨.r,0,[],[],[]⟩,⟨.n,0,[],[],[]⟩,⟨.r,0,[],[],[]⟩,⟨.n,0,[],[],[]⟩,⟨.r,0,[],[],[]⟩,⟨.n,0,[],[],[]⟩,⟨.r,0,[],[],[]⟩,⟨.n,0,[],[],[]⟩,⟨.r,0,[],[],[]⟩,⟨.n,0,[],[],[]⟩,⟨.r,0,[],[],[]⟩,⟨.n,0,[],[],[]⟩,⟨.n,0,[],[],[]⟩,⟨.n,0,[],[],[]⟩] { fr:=[.undef,.undef,.ptr 0 0,.ptr 1 0,.undef,num i]++List.replicate 28 .undef++[a0,a,b,c,d]++List.replicate 51 .undef,mem:=[.box (aq t),.box (aq u)]++List.replicate 0 .hole } K:=by
 simp only [ze,Tryz.f76,nc,zE,if_false,if_true,reduceIte,aF] at ho;subst ho;have e5:=nw f.name g.name;have hT:af.underlying 4=some .bool:=by kernel_rfl
 have e6:=fun x y=>DX (P:=af) (T:=4) x y hT;rw [dU h5] at e5;have e7:(f.opt==g.opt)=false:=by simpa using h6
 simp only [dL,aD,aE,aq];refine c6 5 (by simp) (by simp) fun K1 fq=>?_;simp only [bZ,hf,hg,cp,aq,e5,e6,e7,go_sem,List.replicate];refine fq _ ?_;refine c6 5 (by simp) (by simp) fun K1 fq=>?_;simp only [bZ,hf,hg,cp,aq,e5,e6,e7,go_sem,List.replicate];refine fq _ ?_;refine c6 5 (by simp) (by simp) fun K1 fq=>?_;simp only [bZ,hf,hg,cp,aq,e5,e6,e7,go_sem,List.replicate];refine fq _ ?_;refine c6 5 (by simp) (by simp) fun K1 fq=>?_;simp only [bZ,hf,hg,cp,aq,e5,e6,e7,go_sem,List.replicate];refine fq _ ?_;refine c6 5 (by simp) (by simp) fun K1 fq=>?_;simp only [bZ,hf,hg,cp,aq,e5,e6,e7,go_sem,List.replicate];refine fq _ ?_;refine c6 5 (by simp) (by simp) fun K1 fq=>?_;simp only [bZ,hf,hg,cp,aq,e5,e6,e7,go_sem,List.replicate];refine fq _ ?_;refine c6 5 (by simp) (by simp) fun K1 fq=>?_;simp only [bZ,hf,hg,cp,aq,e5,e6,e7,go_sem,List.replicate];refine fq _ ?_;refine c6 5 (by simp) (by simp) fun K1 fq=>?_;simp only [bZ,hf,hg,cp,aq,e5,e6,e7,go_sem,List.replicate];refine fq _ ?_;simp only [go_sem,List.replicate];exact hK _ (by simp only [aP,aD,aE,au,ax,er])
include hf hg ho in
theorem Hg (h5:f.name=g.name) (h6:f.opt=g.opt) (r:Bool) (gB:bR af 76 [.agg (aq f.ty),.agg (aq g.ty)] (bl r)) (hK:EB t u i (!r) K) :
  runM af tt ops 2 ops.toList [⟨.n,0,[],[],[]⟩,⟨.r,0,[],[],[]⟩,⟨.n,0,[],[],[]⟩,⟨.r,0,[],[],[]⟩,⟨.n,0,[],[],[]⟩,⟨.r,0,[],[],[]⟩,⟨.n,0,[],[],[]⟩,⟨.r,0,[],[],[]⟩,⟨.n,0,[],[],[]⟩,⟨.r,0,[],[],[]⟩,⟨.n,0,[],[],[]⟩,⟨.r,0,[],[],[]⟩,⟨.n,0,[],[],[]⟩,⟨.n,0,[],[],[]⟩,⟨.n,0,[],[],[]⟩,⟨.r,0,[],[],[]⟩,⟨.n,0,[],[],[]⟩,⟨.r,0,[],[],[]⟩,⟨.n,0,[],[],[]⟩,⟨.r,0,[],[],[]⟩,⟨.n,0,[],[],[]⟩,⟨.r,0,[],[],[]⟩,⟨.n,0,[],[],[]⟩,⟨.r,0,[],[],[]⟩,⟨.n,0,[],[],[]⟩,⟨.r,0,[],[],[]⟩,⟨.n,0,[],[],[]⟩,⟨.n,0,[],[],[]⟩,⟨.n,0,[],[],[]⟩,⟨.n,0,[],[],[]⟩,⟨.r,0,[],[],[]⟩,⟨.n,0,[],[],[]⟩,⟨.r,0,[],[],[]⟩,⟨.n,0,[],[],[]⟩,⟨.r,0,[],[],[]⟩,⟨.n,0,[],[],[]⟩,⟨.r,0,[],[],[]⟩,⟨.n,0,[],[],[]⟩,⟨.r,0,[],[],[]⟩,⟨.n,0,[],[],[]⟩,⟨.r,0,[],[],[]⟩,⟨.n,0,[],[],[]⟩,⟨.n,0,[],[],[]⟩,⟨.n,0,[],[],[]⟩] { fr:=[.undef,.undef,.ptr 0 0,.ptr 1 0,.undef,num i]++List.replicate 28 .undef++[a0,a,b,c,d]++List.replicate 51 .undef,mem:=[.box (aq t),.box (aq u)]++List.replicate 0 .hole } K:=by
 simp only [ze,Tryz.f76,nc,zE,if_false,if_true,reduceIte,aF] at ho;subst ho;have e5:=nw f.name g.name;have hT:af.underlying 4=some .bool:=by kernel_rfl
 have e6:=fun x y=>DX (P:=af) (T:=4) x y hT;rw [dU h5] at e5;have e7:(f.opt==g.opt)=true:=by simpa using h6
 simp only [aq] at gB;simp only [dL,aD,aE,aq];refine c6 5 (by simp) (by simp) fun K1 fq=>?_;simp only [bZ,hf,hg,cp,aq,e5,e6,e7,go_sem,List.replicate];refine fq _ ?_;refine c6 5 (by simp) (by simp) fun K1 fq=>?_;simp only [bZ,hf,hg,cp,aq,e5,e6,e7,go_sem,List.replicate];refine fq _ ?_;refine c6 5 (by simp) (by simp) fun K1 fq=>?_;simp only [bZ,hf,hg,cp,aq,e5,e6,e7,go_sem,List.replicate];refine fq _ ?_;refine c6 5 (by simp) (by simp) fun K1 fq=>?_;simp only [bZ,hf,hg,cp,aq,e5,e6,e7,go_sem,List.replicate];refine fq _ ?_;refine c6 5 (by simp) (by simp) fun K1 fq=>?_;simp only [bZ,hf,hg,cp,aq,e5,e6,e7,go_sem,List.replicate];refine fq _ ?_;refine c6 5 (by simp) (by simp) fun K1 fq=>?_;simp only [bZ,hf,hg,cp,aq,e5,e6,e7,go_sem,List.replicate];refine fq _ ?_;refine c6 5 (by simp) (by simp) fun K1 fq=>?_;simp only [bZ,hf,hg,cp,aq,e5,e6,e7,go_sem,List.replicate];refine fq _ ?_;refine c6 5 (by simp) (by simp) fun K1 fq=>?_;simp only [bZ,hf,hg,cp,aq,e5,e6,e7,go_sem,List.replicate];refine fq _ ?_;simp only [bZ,hf,hg,cp,aq,go_sem,List.replicate];refine⟨_,_,by simp only [go_sem,ai],.inl (gB),?_⟩;try simp only [go_sem,List.replicate]
 exact hK _ (by simp only [aP,aD,aE,au,ax,er])
end

theorem Hh:∀ (N:Nat) (t u:Ty),t.size≤N→N≤1048576→bR af 76 [cD t,cD u] (bl (tN t u)):=by
 intro N
 induction N with
 | zero=>intro t u h; have:=t.size_pos; omega
 | succ N ih =>
  intro t u hN hb
  have y8:=t.fp
  have hA:=M4 t.args u.args (by omega) fun i a b ha _=>ih a b (by have:=Ty.C5 ha; omega) (by omega)
  refine jA tt_ok (fn:=Tryz.f76) Tryz.func76 rfl Tryz.call76 ?_
  simp only [dL,cH,Tryz.ntmps76,ay,aI,zA,zF,aD,aE]
  rw [aG,aG]
  simp only [aq]
  have e2:=nw t.mod u.mod
  have e3:=nw t.name u.name
  refine ah tt_ok fun K hK=>?_
  simp only [go_sem]
  refine hK _ ?_
  refine bC ?_
  by_cases ef:t.kind=u.kind∧t.mod=u.mod∧t.name=u.name∧t.bD.length=u.bD.length
  ·obtain⟨h1,h2,h3,h4⟩:=ef
   have d1:decide (t.kind=u.kind)=true:=decide_eq_true h1
   rw [dU h2] at e2
   rw [dU h3] at e3
   have d4:decide ((t.bD.length:Int)=(u.bD.length:Int))=true:=by simp [h4]
   refine ah tt_ok fun K hK=>?_
   simp only [d1,e2,e3,d4,aO,go_sem]
   refine hK _ ?_
   refine aV rfl (cn ?_)
   show eg _ _ _ _ _ _
   refine bC ?_
   refine ah tt_ok fun K hK=>?_
   simp only [go_sem]
   refine hK _ ?_
   refine bX (df (fun N st=>∃ (i:Nat),N=t.bD.length-i∧i≤t.bD.length∧t.bD.take i=u.bD.take i ∧
    st = { fr:=[.undef,.undef,.ptr 0 0,.ptr 1 0,.undef,num i]++List.replicate 84 .undef,mem:=[.box (aq t),.box (aq u)] }) t.bD.length ?_ ?_)
   ·exact⟨2,[false,false,true,true,false,true],by omega,by simp only [aP,aA,aK,aJ,zB,er],by simp only [aP,aA,aK,aJ,zB,er],0,by omega,by omega,by simp,rfl⟩
   rintro N' st ⟨i,rfl,hi,qU,rfl⟩
   simp only [dL,aD,aE,aq]
   refine bC ?_
   by_cases ca:i<t.bD.length
   ·have hd:=iA ca
    refine ah tt_ok fun K hK=>?_
    simp only [aO,hd,go_sem]
    refine hK _ ?_
    refine aV rfl (cn ?_)
    refine bC (bX ?_)
    obtain⟨f,hf⟩:∃ f,t.bD[i]?=some f:=⟨_,ak ca⟩
    obtain⟨g,hg⟩:∃ g,u.bD[i]?=some g:=⟨_,ak (by omega)⟩
    have gB:=ih f.ty g.ty (by have:=Ty.C6 hf; omega) (by omega)
    rw [aG,aG] at gB
    have no:¬ f=g→¬ t=u:=fun h e=>h (by rw [e,hg] at hf; exact (kN hf).symm)
    refine m7 tt_ok cy [⟨.n,0,[],[],[]⟩,⟨.r,0,[],[],[]⟩,⟨.n,0,[],[],[]⟩,⟨.r,0,[],[],[]⟩,⟨.n,0,[],[],[]⟩,⟨.r,0,[],[],[]⟩,⟨.n,0,[],[],[]⟩,⟨.r,0,[],[],[]⟩,⟨.n,0,[],[],[]⟩,⟨.r,0,[],[],[]⟩,⟨.n,0,[],[],[]⟩,⟨.r,0,[],[],[]⟩,⟨.n,0,[],[],[]⟩,⟨.n,0,[],[],[]⟩,⟨.n,0,[],[],[]⟩,⟨.r,0,[],[],[]⟩,⟨.n,0,[],[],[]⟩,⟨.r,0,[],[],[]⟩,⟨.n,0,[],[],[]⟩,⟨.r,0,[],[],[]⟩,⟨.n,0,[],[],[]⟩,⟨.r,0,[],[],[]⟩,⟨.n,0,[],[],[]⟩,⟨.r,0,[],[],[]⟩,⟨.n,0,[],[],[]⟩,⟨.r,0,[],[],[]⟩,⟨.n,0,[],[],[]⟩,⟨.n,0,[],[],[]⟩,⟨.n,0,[],[],[]⟩,⟨.n,0,[],[],[]⟩,⟨.r,0,[],[],[]⟩,⟨.n,0,[],[],[]⟩,⟨.r,0,[],[],[]⟩,⟨.n,0,[],[],[]⟩,⟨.r,0,[],[],[]⟩,⟨.n,0,[],[],[]⟩,⟨.r,0,[],[],[]⟩,⟨.n,0,[],[],[]⟩,⟨.r,0,[],[],[]⟩,⟨.n,0,[],[],[]⟩,⟨.r,0,[],[],[]⟩,⟨.n,0,[],[],[]⟩,⟨.n,0,[],[],[]⟩,⟨.n,0,[],[],[]⟩] 0 (by kernel_rfl) fun K hK=>?_
    have Ra:¬ t=u→EB t u i true K:=fun ep fr yW=>by
     refine hK _ ?_
     refine oh 2 ([false,false,true,true,false,true]++List.replicate 78 false++[true]) (by omega) (by rw [yW]; simp only [aD,aE,au,ax,aP,aA,aK,aJ,zB,er]) (by simp only [aq,aP,aA,aK,aJ,zB,er]) ?_
     rw [yW]
     simp only [dL,aD,aE]
     refine aV rfl ?_
     refine ah tt_ok fun K hK=>?_
     simp only [go_sem]
     refine hK _ ?_
     refine bW ⟨.inl rfl,?_⟩
     rw [cJ ep]; rfl
    by_cases h5:f.name=g.name
    ·by_cases h6:f.opt=g.opt
     ·by_cases h7:f.ty=g.ty
      ·rw [dU h7] at gB
       refine Hg hf hg rfl h5 h6 true gB fun fr yW=>?_
       refine hK _ ?_
       refine oh 2 ([false,false,true,true,false,true]++List.replicate 78 false++[true]) (by omega) (by rw [yW]; simp only [aD,aE,au,ax,aP,aA,aK,aJ,zB,er]) (by simp only [aq,aP,aA,aK,aJ,zB,er]) ?_
       rw [yW]
       simp only [dL,aD,aE]
       refine aV rfl (cn ?_)
       show eg _ _ _ _ _ _
       refine a8 tt_ok fun K hK=>?_
       simp only [go_sem]
       refine hK _ ?_
       have kZ:=bx i (by omega)
       rw [kZ]
       have hfg:f=g:=(Fd.ext_iff f g).2 ⟨h5,h6,h7⟩
       exact⟨t.bD.length-(i+1),by omega,2,[false,false,true,true,false,true],by omega,by simp only [aP,aA,aK,aJ,zB,er],by simp only [aq,aP,aA,aK,aJ,zB,er],i+1,rfl,ca,by rw [br,br,qU,hf,hg,hfg],rfl⟩
      rw [cJ h7] at gB
      exact Hg hf hg rfl h5 h6 false gB (Ra (no fun e=>h7 ((Fd.ext_iff f g).1 e).2.2))
     exact M5 hf hg rfl h5 h6 (Ra (no fun e=>h6 ((Fd.ext_iff f g).1 e).2.1))
    exact JL hf hg rfl h5 (Ra (no fun e=>h5 ((Fd.ext_iff f g).1 e).1))
   have hd:=iB ca
   refine ah tt_ok fun K hK=>?_
   simp only [aO,hd,go_sem]
   refine hK _ ?_
   refine aV rfl (eC ?_)
   have ju:i=t.bD.length:=by omega
   subst ju
   show eg _ _ _ _ _ _
   refine ah tt_ok fun K hK=>?_
   simp only [go_sem]
   refine .inl ⟨_,_,by simp only [go_sem,ai],hA,?_⟩
   try simp only [go_sem]
   refine hK _ ?_
   refine bW ⟨.inl rfl,?_⟩
   have S3:t.bD=u.bD:=by
    rw [ai] at qU
    rw [qU,h4,ai]
   by_cases h8:t.args=u.args
   ·rw [dU h8,dU ((Ty.ext_iff t u).2 ⟨h1,h2,h3,h8,S3⟩)]; rfl
   rw [cJ h8,cJ fun e=>h8 ((Ty.ext_iff t u).1 e).2.2.2.1]; rfl
  have fin:∀ x,x=false→tN t u=x:=fun x hx=>by
   rw [hx]
   refine cJ fun e=>ef ?_
   obtain⟨h1,h2,h3,-,h5⟩:=(Ty.ext_iff t u).1 e
   exact⟨h1,h2,h3,by rw [h5]⟩
  rw [fin false rfl]
  have no:decide (t.kind=u.kind)=true→tN t.mod u.mod=true→tN t.name u.name=true→decide ((t.bD.length:Int)=(u.bD.length:Int))=true→False:=fun a b c d =>
   ef ⟨of_decide_eq_true a,zd.1 b,zd.1 c,by have:=of_decide_eq_true d; omega⟩
  cases d1:decide (t.kind=u.kind) with
  | false =>
   refine ah tt_ok fun K hK=>?_
   simp only [d1,go_sem]
   refine hK _ ?_
   refine aV rfl ?_
   refine ah tt_ok fun K hK=>?_
   simp only [go_sem]
   refine hK _ ?_
   exact bW ⟨.inl rfl,rfl⟩
  | true =>
   cases d2:tN t.mod u.mod with
   | false =>
    rw [d2] at e2
    refine ah tt_ok fun K hK=>?_
    simp only [d1,e2,go_sem]
    refine hK _ ?_
    refine aV rfl ?_
    refine ah tt_ok fun K hK=>?_
    simp only [go_sem]
    refine hK _ ?_
    exact bW ⟨.inl rfl,rfl⟩
   | true =>
    rw [d2] at e2
    cases d3:tN t.name u.name with
    | false =>
     rw [d3] at e3
     refine ah tt_ok fun K hK=>?_
     simp only [d1,e2,e3,go_sem]
     refine hK _ ?_
     refine aV rfl ?_
     refine ah tt_ok fun K hK=>?_
     simp only [go_sem]
     refine hK _ ?_
     exact bW ⟨.inl rfl,rfl⟩
    | true =>
     rw [d3] at e3
     cases d4:decide ((t.bD.length:Int)=(u.bD.length:Int)) with
     | false =>
      refine ah tt_ok fun K hK=>?_
      simp only [d1,e2,e3,d4,aO,go_sem]
      refine hK _ ?_
      refine aV rfl ?_
      refine ah tt_ok fun K hK=>?_
      simp only [go_sem]
      refine hK _ ?_
      exact bW ⟨.inl rfl,rfl⟩
     | true=>exact (no d1 d2 d3 d4).elim
end
section
attribute [local irreducible] runM fH nV
noncomputable def Dc.clear (d:Dc):Bool:=tN d.lower d.upper&&tN d.upper d.type
theorem Dc.M6 (d:Dc):(tN d.lower d.type&&tN d.upper d.type)=d.clear:=by rw [mB];simp only [Dc.clear,aL,zd];exact⟨fun h=>⟨h.1.trans h.2.symm,h.2⟩,fun h=>⟨h.1.trans h.2,h.2⟩⟩
noncomputable def Dc.size (d:Dc):Nat :=
 1+d.params.length+(if d.kind=0 then d.type.size+(if d.clear=true then 0 else d.lower.size+d.upper.size)
  else if d.kind=1 then d.type.size+d.expr.size+bd (fun p=>p.bound.size) d.params else 0)
theorem Dc.size_le (d:Dc):d.size≤d.cM:=by
 have:=Ex.l8 _ d.expr (aw _);unfold Dc.size Dc.cM;split;·split <;> omega
 split <;> omega
noncomputable def Md.size (m:Md):Nat:=1+m.imports.length+bd Dc.size m.decls

theorem M7 (d:Dc) (hd:d.cM≤1048576):bR af 176 [aR d] (bl d.clear):=by unfold Dc.cM at hd;have hA:=Hf d.lower.size d.lower d.upper (aw _) (by omega);have hB:=Hf d.upper.size d.upper d.type (aw _) (by omega);rw [aG,aG] at hA hB;simp only [aq] at hA hB;refine jA tt_ok (fn:=Tryz.f176) Tryz.func176 rfl Tryz.call176 ?_;simp only [dL,cH,Tryz.ntmps176,ay,aI,zA,zF,aD,aE];rw [vT];simp only [dL,fA,aq,aH];refine ah tt_ok fun K hK=>?_;simp only [go_sem];refine hK _ ?_;unfold Dc.clear;cases h1:tN d.lower d.upper with | false =>rw [h1] at hA;refine ah tt_ok fun K hK=>?_;simp only [go_sem];refine .inl ⟨_,_,by simp only [go_sem,ai],hA,?_⟩;(try simp only [go_sem]);refine hK _ ?_;exact bW ⟨.inl rfl,rfl⟩ | true =>rw [h1] at hA;refine ah tt_ok fun K hK=>?_;simp only [go_sem];refine .inl ⟨_,_,by simp only [go_sem,ai],hA,?_⟩;(try simp only [go_sem]);refine .inl ⟨_,_,by simp only [go_sem,ai],hB,?_⟩;(try simp only [go_sem]);refine hK _ ?_;exact bW ⟨.inl rfl,rfl⟩
theorem M8 (d:Dc) (hd:d.cM≤1048576):bR af 30 [aR d] (bl d.clear):=by unfold Dc.cM at hd;have hA:=Hh d.lower.size d.lower d.type (aw _) (by omega);have hB:=Hh d.upper.size d.upper d.type (aw _) (by omega);rw [aG,aG] at hA hB;simp only [aq] at hA hB;rw [← Dc.M6];refine jA tt_ok (fn:=Tryz.f30) Tryz.func30 rfl Tryz.call30 ?_;simp only [dL,cH,Tryz.ntmps30,ay,aI,zA,zF,aD,aE];rw [vT];simp only [dL,fA,aq,aH];refine ah tt_ok fun K hK=>?_;simp only [go_sem];refine hK _ ?_;cases h1:tN d.lower d.type with | false =>rw [h1] at hA;refine ah tt_ok fun K hK=>?_;simp only [go_sem];refine .inl ⟨_,_,by simp only [go_sem,ai],hA,?_⟩;(try simp only [go_sem]);refine hK _ ?_;exact bW ⟨.inl rfl,rfl⟩ | true =>rw [h1] at hA;refine ah tt_ok fun K hK=>?_;simp only [go_sem];refine .inl ⟨_,_,by simp only [go_sem,ai],hA,?_⟩;(try simp only [go_sem]);refine .inl ⟨_,_,by simp only [go_sem,ai],hB,?_⟩;(try simp only [go_sem]);refine hK _ ?_;exact bW ⟨.inl rfl,rfl⟩
end
structure Fo where
  fl:ByteArray
  ty:Int
  lb:Bool
  kd:Int
def oB (k:Int):Option Fo :=
  if k=0 then some ⟨⟨#[98]⟩,0,false,0⟩ else if k=1 then some ⟨⟨#[120]⟩,0,false,0⟩ else if k=2 then some ⟨⟨#[98]⟩,0,false,0⟩ else if k=3 then some ⟨⟨#[110]⟩,0,false,0⟩
  else if k=4 then some ⟨⟨#[109,110]⟩,-1,false,0⟩ else if k=5 then some ⟨⟨#[]⟩,0,true,0⟩ else if k=6 then some ⟨⟨#[110]⟩,0,false,1⟩ else if k=7 then some ⟨⟨#[110]⟩,0,false,1⟩
  else if k=8 then some ⟨⟨#[116,111]⟩,0,true,1⟩ else if k=9 then some ⟨⟨#[]⟩,0,true,1⟩ else if k=10 then some ⟨⟨#[110]⟩,0,false,2⟩ else if k=11 then some ⟨⟨#[]⟩,1,false,1⟩
  else if k=12 then some ⟨⟨#[]⟩,1,false,3⟩ else if k=13 then some ⟨⟨#[118]⟩,1,true,1⟩ else if k=14 then some ⟨⟨#[]⟩,1,false,-1⟩ else if k=15 then some ⟨⟨#[110,120]⟩,1,false,3⟩
  else if k=16 then some ⟨⟨#[110]⟩,0,false,-1⟩ else none
def tp (fl s:ByteArray):Bool:=Lib.contains fl.data.toList s.data.toList
def vV:List ByteArray:=[⟨#[43]⟩,⟨#[45]⟩,⟨#[42]⟩,⟨#[60]⟩,⟨#[61,61]⟩,⟨#[61,61,61]⟩,⟨#[43,43]⟩,⟨#[97,110,100]⟩,⟨#[111,114]⟩]
def JM:List ByteArray:=[⟨#[110,111,116]⟩,⟨#[108,101,110,103,116,104]⟩]
def opN (s:ByteArray):Int:=if jg s vV=true then 2 else if jg s JM=true then 1 else 0
def tq (l:List Lb):Nat:=(l.filter Lb.opt).length
def A3 (x:Ex) (kd:Int):Int:=if x.kind=16 then opN x.name else if x.kind=8 then 1+tq x.labels else if kd<0 then -1 else kd+x.labels.length
def nx (fl:ByteArray) (l:Lb):Bool:=!jB l.var && !tp fl ⟨#[118]⟩ || !jc l.ty && !tp fl ⟨#[116]⟩||l.opt && !tp fl ⟨#[111]⟩
def q1 (x:Ex) (fl:ByteArray):Bool:=!jB x.mod && !tp fl ⟨#[109]⟩
def q2 (x:Ex) (fl:ByteArray):Bool:=!jB x.name && !tp fl ⟨#[110]⟩
def q3 (x:Ex) (fl:ByteArray):Bool:=!jB x.text && !tp fl ⟨#[120]⟩
def q4 (x:Ex) (fl:ByteArray):Bool:=!decide (x.num=0) && !tp fl ⟨#[98]⟩
def q5 (x:Ex):Bool:=decide (x.kind=2) && !decide (x.num=0) && !decide (x.num=1)
def q6 (x:Ex) (kd:Int):Bool:=decide (x.kind=16)&&decide (A3 x kd=0)
def q7 (x:Ex) (ty:Int):Bool:=decide (0≤ty) && !decide ((x.types.length:Int)=ty)
def q8 (x:Ex) (lb:Bool):Bool:=decide (0<x.labels.length) && !lb
def q9 (x:Ex) (kd:Int):Bool:=decide (0≤A3 x kd) && !decide ((x.kids.length:Int)=A3 x kd)
def sj (x:Ex) (fl:ByteArray) (ty:Int) (lb:Bool) (kd:Int):Bool :=
  !q1 x fl && !q2 x fl && !q3 x fl && !q4 x fl && !q5 x && !q6 x kd && !q7 x ty && !q8 x lb && !q9 x kd && !(x.labels.any (nx fl))
def vW (fl:ByteArray) (l:Lb):Bool:=!gy l.name||tp fl ⟨#[118]⟩ && !gy l.var
def m1 (x:Ex) (fl:ByteArray):Bool:=tp fl ⟨#[109]⟩ && !vH x.mod
def m2 (x:Ex) (fl:ByteArray):Bool:=tp fl ⟨#[110]⟩ && !decide (x.kind=16) && !gy x.name
def m3 (x:Ex):Bool:=decide (x.kind=15) && !gy x.text
def A4 (x:Ex) (fl:ByteArray):Bool:=m1 x fl||m2 x fl||m3 x||x.labels.any (vW fl)
def yL (x:Ex):Int:=match oB x.kind with
  | none=>1
  | some f=>if sj x f.fl f.ty f.lb f.kd=false then 1
    else if 32<x.labels.length∨8<x.types.length∨65536<x.text.size then 7
    else if A4 x f.fl=true then 4
    else if l7 (x.labels.map Lb.name)≠0 then l7 (x.labels.map Lb.name)
    else if x.kind=15∧x.name=x.text then 5
    else fh vM x.own
noncomputable def Tf (e:Ex):Int:=if 4096<e.size∨32<e.depth then 7 else fh yL e.nodes
def qV (x:Ex):Bool:=decide (x.kind=0)&&jB x.mod&&jB x.name&&jB x.text&&decide (x.num=0)&&decide (x.types.length=0)&&decide (x.labels.length=0)&&decide (x.kids.length=0)
def Hi (d:Dc):Bool :=
  !(d.deprecated && !d.exported) && !(!jB d.note && !d.deprecated) &&
  (if d.kind=0 then !(d.params.any fun p=>!jc p.bound) && !(d.params.any fun p=>decide (p.gz<0)||decide (2<p.gz))&&qV d.expr&&jB d.mod&&jB d.target
   else if d.kind=1 then !(d.params.any fun p=>!decide (p.gz=0))&&jc d.lower&&jc d.upper&&jB d.mod&&jB d.target
   else if d.kind=2 then decide (d.params.length=0)&&jc d.lower&&jc d.upper&&jc d.type&&qV d.expr else false)
def Rb (d:Dc):Bool :=
  !(d.params.any fun p=>!pn p.name) &&
  (if d.kind=0 then pn d.name else if d.kind=1 then gy d.name
   else (gy d.name&&gy d.target||pn d.name&&pn d.target) && !jB d.mod&&vH d.mod)
noncomputable def wO (before:List Dc) (d:Dc):Int :=
  if Hi d=false then 1
  else if 8<d.params.length∨65536<d.note.size then 7
  else if Rb d=false then 4
  else if (before.any fun x=>decide (x.name=d.name))=true then 5
  else if yK (d.params.map Pm.name)=true then 5
  else if fh vM ([d.lower,d.upper,d.type]++d.params.map Pm.bound)≠0 then fh vM ([d.lower,d.upper,d.type]++d.params.map Pm.bound)
  else Tf d.expr
def Cj (path:ByteArray) (before:List Im) (x:Im):Int :=
  if ec x.path=false∨gy x.alias=false then 4
  else if x.path=path then 14
  else if (before.any fun y=>decide (y.path=x.path)||decide (y.alias=x.alias))=true then 5 else 0
def kz {α:Type} (f:List α→α→Int):List α→List α→Nat×Int
  | _,[]=>(0,0)
  | b,x :: r=>if f b x=0 then (if (kz f (b++[x]) r).2=0 then (0,0) else ((kz f (b++[x]) r).1+1,(kz f (b++[x]) r).2)) else (0,f b x)
noncomputable def xk (m:Md):Int :=
  if ec m.path=false then 4
  else if 16<m.imports.length∨64<m.decls.length∨4096<m.size then 7
  else (kz (Cj m.path) [] m.imports).2
noncomputable def rU (m:Md):Int×Int:=if xk m≠0 then (-1,xk m) else (((kz wO [] m.decls).1:Nat),(kz wO [] m.decls).2)
section
mutual
def Ty.res (g:Ty→Option ByteArray):Ty→Ty
 | .mk k m n ar fs=>match (if k=10∨k=9 then g (.mk k m n ar fs) else some m) with
  | some m'=>.mk k m' n (EC g ar) (ED g fs)
  | none=>.mk 9 ⟨#[]⟩ n [] []
def EC (g:Ty→Option ByteArray):List Ty→List Ty
 | []=>[]
 | t :: r=>t.res g :: EC g r
def Fd.res (g:Ty→Option ByteArray):Fd→Fd
 | .mk n t o=>.mk n (t.res g) o
def ED (g:Ty→Option ByteArray):List Fd→List Fd
 | []=>[]
 | f :: r=>f.res g :: ED g r
end
section
variable {S:Type}
mutual
def Ty.fold (g:Ty→Option ByteArray) (s:S→Ty→S):Ty→S→S
 | .mk k m n ar fs,a=>match (if k=10∨k=9 then g (.mk k m n ar fs) else some m) with
  | some _=>vX g s fs (vY g s ar (if k=10∨k=9 then s a (.mk k m n ar fs) else a))
  | none=>s a (.mk k m n ar fs)
def vY (g:Ty→Option ByteArray) (s:S→Ty→S):List Ty→S→S
 | [],a=>a
 | t :: r,a=>vY g s r (t.fold g s a)
def Fd.fold (g:Ty→Option ByteArray) (s:S→Ty→S):Fd→S→S
 | .mk _ t _,a=>t.fold g s a
def vX (g:Ty→Option ByteArray) (s:S→Ty→S):List Fd→S→S
 | [],a=>a
 | f :: r,a=>vX g s r (f.fold g s a)
end
theorem JN (g:Ty→Option ByteArray) (ts:List Ty):EC g ts=ts.map (Ty.res g):=by induction ts with | nil=>rfl | cons t r ih=>simp [EC,ih]
theorem JO (g:Ty→Option ByteArray) (ts:List Fd):ED g ts=ts.map (Fd.res g):=by induction ts with | nil=>rfl | cons t r ih=>simp [ED,ih]
theorem A5 (g:Ty→Option ByteArray) (s:S→Ty→S):∀ (ts:List Ty) (a:S),vY g s ts a=ts.foldl (fun a t=>t.fold g s a) a
 | [],_=>by rw [vY]; rfl
 | t :: r,a=>by rw [vY,A5 g s r,aM]
theorem A6 (g:Ty→Option ByteArray) (s:S→Ty→S):∀ (ts:List Fd) (a:S),vX g s ts a=ts.foldl (fun a f=>f.ty.fold g s a) a
 | [],_=>by rw [vX]; rfl
 | .mk n t o :: r,a=>by rw [vX,A6 g s r,Fd.fold,aM]; rfl
def vZ (g:Ty→Option ByteArray) (t:Ty):Option ByteArray:=if t.kind=10∨t.kind=9 then g t else some t.mod
theorem Ty.l9 (g:Ty→Option ByteArray) (t:Ty):t.res g=match vZ g t with
  | some m'=>.mk t.kind m' t.name (t.args.map (Ty.res g)) (t.bD.map (Fd.res g))
  | none=>.mk 9 ⟨#[]⟩ t.name [] []:=by obtain⟨k,m,n,ar,fs⟩:=t;rw [Ty.res,JN,JO]; rfl
theorem Ty.fold_eq (g:Ty→Option ByteArray) (s:S→Ty→S) (t:Ty) (a:S):t.fold g s a=match vZ g t with
  | some _=>t.bD.foldl (fun a f=>f.ty.fold g s a) (t.args.foldl (fun a t=>t.fold g s a) (if t.kind=10∨t.kind=9 then s a t else a))
  | none=>s a t:=by obtain⟨k,m,n,ar,fs⟩:=t;rw [Ty.fold,A5,A6]; rfl
theorem Fd.l9 (g:Ty→Option ByteArray) (f:Fd):f.res g = .mk f.name (f.ty.res g) f.opt:=by obtain⟨n,t,o⟩:=f; rw [Fd.res]; rfl
theorem Fd.A7 (g:Ty→Option ByteArray) (f:Fd):(f.res g).name=f.name:=by rw [Fd.l9]; rfl
theorem Fd.A8 (g:Ty→Option ByteArray) (f:Fd):(f.res g).ty=f.ty.res g:=by rw [Fd.l9]; rfl
theorem Fd.Lu (g:Ty→Option ByteArray) (f:Fd):(f.res g).opt=f.opt:=by rw [Fd.l9]; rfl
def Lb.res (g:Ty→Option ByteArray) (l:Lb):Lb := { l with ty:=l.ty.res g }
def oH (k:Int) (ls:List Lb) (name text:ByteArray) (nk:Nat) (loc:List ByteArray) (i:Nat):List ByteArray :=
 if k=8∧i+1=nk then (ls.map Lb.name).reverse++loc
 else if k=10∧i=1 then name :: loc
 else if k=13∧0<i then ((ls[i-1]?).elim ⟨#[]⟩ Lb.var) :: loc
 else if k=15∧i=2 then text :: name :: loc
 else loc
abbrev C7:=List ByteArray→Ex→Int×ByteArray
mutual
def Ex.res (g:Ty→Option ByteArray) (h:C7):Ex→List ByteArray→Ex
 | .mk k m n t i ts ls ks,loc=>.mk (if k=3∨k=4 then h loc (.mk k m n t i ts ls ks) else (k,m)).1 (if k=3∨k=4 then h loc (.mk k m n t i ts ls ks) else (k,m)).2 n t i (ts.map (Ty.res g))
   (if (if k=3∨k=4 then h loc (.mk k m n t i ts ls ks) else (k,m)).1=8 then ls.map (Lb.res g) else ls)
   (dW g h (oH (if k=3∨k=4 then h loc (.mk k m n t i ts ls ks) else (k,m)).1 ls n t ks.length loc) 0 ks)
def dW (g:Ty→Option ByteArray) (h:C7) (lo:Nat→List ByteArray):Nat→List Ex→List Ex
 | _,[]=>[]
 | i,x :: r=>x.res g h (lo i) :: dW g h lo (i+1) r
end
mutual
def Ex.fold (g:Ty→Option ByteArray) (h:C7) (s:S→Ty→S) (v:List ByteArray→S→Ex→S):Ex→List ByteArray→S→S
 | .mk k m n t i ts ls ks,loc,a =>
  eS g h s v (oH (if k=3∨k=4 then h loc (.mk k m n t i ts ls ks) else (k,m)).1 ls n t ks.length loc) 0 ks
   ((if (if k=3∨k=4 then h loc (.mk k m n t i ts ls ks) else (k,m)).1=8 then ls else []).foldl (fun a l=>l.ty.fold g s a)
    (ts.foldl (fun a t=>t.fold g s a) (if k=3∨k=4 then v loc a (.mk k m n t i ts ls ks) else a)))
def eS (g:Ty→Option ByteArray) (h:C7) (s:S→Ty→S) (v:List ByteArray→S→Ex→S) (lo:Nat→List ByteArray):Nat→List Ex→S→S
 | _,[],a=>a
 | i,x :: r,a=>eS g h s v lo (i+1) r (x.fold g h s v (lo i) a)
end
def mq (h:C7) (loc:List ByteArray) (x:Ex):Int×ByteArray:=if x.kind=3∨x.kind=4 then h loc x else (x.kind,x.mod)
def Tg (g:Ty→Option ByteArray) (k:Int) (ls:List Lb):List Lb:=if k=8 then ls.map (Lb.res g) else ls
def Th (h:C7) (x:Ex) (loc:List ByteArray):Nat→List ByteArray:=oH (mq h loc x).1 x.labels x.name x.text x.kids.length loc
theorem Ex.l9 (g:Ty→Option ByteArray) (h:C7) (x:Ex) (loc:List ByteArray) :
  x.res g h loc = .mk (mq h loc x).1 (mq h loc x).2 x.name x.text x.num (x.types.map (Ty.res g)) (Tg g (mq h loc x).1 x.labels) (dW g h (Th h x loc) 0 x.kids):=by obtain⟨k,m,n,t,i,ts,ls,ks⟩:=x;rw [Ex.res]; rfl
theorem Ex.fold_eq (g:Ty→Option ByteArray) (h:C7) (s:S→Ty→S) (v:List ByteArray→S→Ex→S) (x:Ex) (loc:List ByteArray) (a:S) :
  x.fold g h s v loc a=eS g h s v (Th h x loc) 0 x.kids ((if (mq h loc x).1=8 then x.labels else []).foldl (fun a l=>l.ty.fold g s a)
   (x.types.foldl (fun a t=>t.fold g s a) (if x.kind=3∨x.kind=4 then v loc a x else a))):=by obtain⟨k,m,n,t,i,ts,ls,ks⟩:=x;rw [Ex.fold]; rfl
theorem jV (g:Ty→Option ByteArray) (h:C7) (lo:Nat→List ByteArray):∀ (ks:List Ex) (i:Nat),(dW g h lo i ks).length=ks.length
 | [],i=>by rw [dW]
 | x :: r,i=>by rw [dW,ay,jV g h lo r,ay]
theorem yu (g:Ty→Option ByteArray) (h:C7) (lo:Nat→List ByteArray) (x:Ex):∀ (ks:List Ex) (i:Nat),dW g h lo i (ks++[x])=dW g h lo i ks++[x.res g h (lo (i+ks.length))]
 | [],i=>by simp [dW]
 | y :: r,i=>by
  rw [au,dW,yu g h lo x r (i+1),dW,ay,show i+1+r.length=i+(r.length+1) by omega]; rfl
theorem v7 (g:Ty→Option ByteArray) (h:C7) (s:S→Ty→S) (v:List ByteArray→S→Ex→S) (lo:Nat→List ByteArray) (x:Ex):∀ (ks:List Ex) (i:Nat) (a:S),eS g h s v lo i (ks++[x]) a=x.fold g h s v (lo (i+ks.length)) (eS g h s v lo i ks a)
 | [],i,a=>by simp [eS]
 | y :: r,i,a=>by
  rw [au,eS,v7 g h s v lo x r (i+1),eS,ay,show i+1+r.length=i+(r.length+1) by omega]
theorem Hj {g:Ty→Option ByteArray} {h:C7} {lo:Nat→List ByteArray} {ks:List Ex} {i:Nat} {x:Ex} (hx:ks[i]?=some x):dW g h lo 0 (ks.take (i+1))=dW g h lo 0 (ks.take i)++[x.res g h (lo i)]:=by have ca:=(az.1 hx).1;rw [br,hx,mX,yu,cd,apG (by omega),bE]
theorem v8 {g:Ty→Option ByteArray} {h:C7} {s:S→Ty→S} {v:List ByteArray→S→Ex→S} {lo:Nat→List ByteArray} {ks:List Ex} {i:Nat} {x:Ex} {a:S} (hx:ks[i]?=some x):eS g h s v lo 0 (ks.take (i+1)) a=x.fold g h s v (lo i) (eS g h s v lo 0 (ks.take i) a):=by have ca:=(az.1 hx).1;rw [br,hx,mX,v7,cd,apG (by omega),bE]
theorem iX {α:Type} {f:S→α→S} {l:List α} {i:Nat} {x:α} {a:S} (hx:l[i]?=some x):(l.take (i+1)).foldl f a=f ((l.take i).foldl f a) x:=by rw [br,hx,mX,rh]; rfl
end
def fK (G:List ByteArray→Ty→Option ByteArray):List ByteArray→List Pm→List Pm
 | _,[]=>[]
 | vs,p :: r => { p with bound:=p.bound.res (G vs) } :: fK G (vs++[p.name]) r
section
variable {S:Type}
def gW (G:List ByteArray→Ty→Option ByteArray) (s:List ByteArray→S→Ty→S):List ByteArray→List Pm→S→S
 | _,[],a=>a
 | vs,p :: r,a=>gW G s (vs++[p.name]) r (p.bound.fold (G vs) (s vs) a)
theorem yv (G:List ByteArray→Ty→Option ByteArray) (p:Pm):∀ (l:List Pm) (vs:List ByteArray),fK G vs (l++[p])=fK G vs l++[{ p with bound:=p.bound.res (G (vs++l.map Pm.name)) }]
 | [],vs=>by simp [fK]
 | q :: r,vs=>by simp [fK,yv G p r]
theorem wa (G:List ByteArray→Ty→Option ByteArray) (s:List ByteArray→S→Ty→S) (p:Pm):∀ (l:List Pm) (vs:List ByteArray) (a:S),gW G s vs (l++[p]) a=p.bound.fold (G (vs++l.map Pm.name)) (s (vs++l.map Pm.name)) (gW G s vs l a)
 | [],vs,a=>by simp [gW]
 | q :: r,vs,a=>by simp [gW,wa G s p r]
theorem jW (G:List ByteArray→Ty→Option ByteArray):∀ (l:List Pm) (vs:List ByteArray),(fK G vs l).length=l.length
 | [],_=>rfl
 | p :: r,vs=>by rw [fK,ay,jW G r,ay]
theorem Hk {G:List ByteArray→Ty→Option ByteArray} {l:List Pm} {i:Nat} {p:Pm} (hx:l[i]?=some p):fK G [] (l.take (i+1))=fK G [] (l.take i)++[{ p with bound:=p.bound.res (G ((l.take i).map Pm.name)) }]:=by rw [br,hx,mX,yv,ax]
theorem wb {G:List ByteArray→Ty→Option ByteArray} {s:List ByteArray→S→Ty→S} {l:List Pm} {i:Nat} {p:Pm} {a:S} (hx:l[i]?=some p):gW G s [] (l.take (i+1)) a=p.bound.fold (G ((l.take i).map Pm.name)) (s ((l.take i).map Pm.name)) (gW G s [] (l.take i) a):=by rw [br,hx,mX,wa,ax]
end
end
def uB (a b:Int):Int:=if a=0 then b else a
theorem we (a:Int):uB a 0=a:=by unfold uB; split <;> simp_all
theorem Rc (a:Int):uB 0 a=a:=by unfold uB; simp
def nL (a:ByteArray):List (ByteArray×ByteArray)→Option ByteArray
 | []=>none
 | e :: r=>if e.1=a then some e.2 else nL a r
theorem sY (a:ByteArray) (e:ByteArray×ByteArray) (r:List (ByteArray×ByteArray)):nL a (e :: r)=if e.1=a then some e.2 else nL a r:=by rw [nL]
def dt (g:List (ByteArray×ByteArray)):List (ByteArray×V):=g.map fun e=>(e.1,str e.2)
theorem Hl (a:ByteArray):∀ g:List (ByteArray×ByteArray),getM a (dt g)=(nL a g).map str
 | []=>rfl
 | e :: r=>by
  show getM a ((e.1,str e.2) :: dt r)=_
  unfold getM nL
  dsimp only
  split
  ·rfl
  exact Hl a r
def A9 (a:ByteArray):List (ByteArray×ByteArray)→Nat→Option Nat
 | [],_=>none
 | e :: r,i=>if e.1=a then some i else A9 a r (i+1)
def JP (a v:ByteArray) (g:List (ByteArray×ByteArray)):List (ByteArray×ByteArray):=match A9 a g 0 with
 | none=>g++[(a,v)]
 | some i=>g.set i (a,v)
theorem C8 (a:ByteArray):∀ (g:List (ByteArray×ByteArray)) (n:Nat),(k7 a (dt g) n).map (fun p=>p.1)=A9 a g n
 | [],_=>rfl
 | e :: r,n=>by
  show (k7 a ((e.1,str e.2) :: dt r) n).map _=_
  unfold k7 A9
  dsimp only
  split
  ·rfl
  exact C8 a r (n+1)
theorem Re (a v:ByteArray) (g:List (ByteArray×ByteArray)):G1 a (str v) (dt g)=dt (JP a v g):=by unfold G1 JP;rw [← C8];cases k7 a (dt g) 0 with | none=>simp [dt] | some p=>simp [dt,gh]
theorem C9 {a:ByteArray}:∀ {g:List (ByteArray×ByteArray)} {n:Nat},A9 a g n=none→nL a g=none
 | [],_,_=>rfl
 | e :: r,n,h=>by
  unfold A9 at h
  unfold nL
  split at h
  ·cases h
  rename_i ep; rw [if_neg ep]; exact C9 h
theorem Hm (a:ByteArray) (g g':List (ByteArray×ByteArray)):nL a (g++g')=(nL a g).or (nL a g'):=by induction g with | nil=>rfl | cons e r ih =>rw [au,sY,sY];split;(·rfl);exact ih
theorem Hn {b a v:ByteArray}:∀ {g:List (ByteArray×ByteArray)} {n i:Nat},A9 a g n=some i→nL b (g.set (i-n) (a,v))=if a=b then some v else nL b g
 | [],_,_,h=>by cases h
 | e :: r,n,i,h=>by
  unfold A9 at h
  split at h
  ·rename_i he
   cases h
   rw [cU,bh]
   unfold nL
   dsimp only
   rw [he]
   split <;> rfl
  rename_i he
  have hle:n+1≤i:=by
   clear he
   have key:∀ (g:List (ByteArray×ByteArray)) (n i:Nat),A9 a g n=some i→n≤i:=by
    intro g
    induction g with
    | nil=>intro n i h; cases h
    | cons e r ih =>
     intro n i h
     unfold A9 at h
     split at h
     ·cases h; exact aw _
     have:=ih _ _ h; omega
   exact key _ _ _ h
  rw [show i-n=(i-(n+1))+1 by omega,bu]
  have ih:=Hn (b:=b) (v:=v) h
  rw [sY,sY,ih]
  by_cases hb:e.1=b
  ·rw [if_pos hb,if_pos hb,if_neg fun h:a=b=>he (hb.trans h.symm)]
  rw [if_neg hb,if_neg hb]
theorem Rf (a v b:ByteArray) (g:List (ByteArray×ByteArray)):nL b (JP a v g)=if a=b then some v else nL b g:=by unfold JP;cases h:A9 a g 0 with | none =>dsimp only;rw [Hm];have h1:=C9 h;have e1:nL b [(a,v)]=if a=b then some v else none:=rfl;rw [e1];by_cases hb:a=b;(·subst hb; rw [h1,if_pos rfl]; rfl);rw [if_neg hb,if_neg hb,Option.or_none] | some i =>dsimp only;have:=Hn (b:=b) (v:=v) h;rw [SP] at this;exact this
def dw (l:List Im):List (ByteArray×ByteArray):=l.foldl (fun g x=>JP x.alias x.path g) []
theorem M9 {l:List Im} {i:Nat} {x:Im} (h:l[i]?=some x):dw (l.take (i+1))=JP x.alias x.path (dw (l.take i)):=by unfold dw;rw [br,h,mX,rh]; rfl
structure Rv where
 mp:ByteArray
 cE:List Im
 decls:List Dc
 idx:Nat
def Da (X:Rv) (s:ByteArray):ByteArray:=(nL s (dw X.cE)).getD ⟨#[]⟩
def Ff (X:Rv) (s:ByteArray):Int:=if (nL s (dw X.cE)).isSome then 0 else 6
def yM:List Dc→ByteArray→Int
 | [],_ => -1
 | d :: r,s=>if d.name=s then 0 else if yM r s<0 then -1 else yM r s+1
def gR (X:Rv) (vs:List ByteArray) (t:Ty):Option ByteArray:=if t.mod=⟨#[]⟩ then (if jg t.name vs=true then none else some X.mp) else some (Da X t.mod)
def tE (X:Rv) (vs:List ByteArray) (t:Ty):Int:=if t.mod=⟨#[]⟩ then (if jg t.name vs=true then (if 0<t.args.length then 11 else 0) else if yM X.decls t.name<0 then 6 else 0) else Ff X t.mod
def sR (X:Rv) (vs:List ByteArray) (e:Int) (t:Ty):Int:=uB e (tE X vs t)
def yN (X:Rv) (s:ByteArray):Int:=if yM X.decls s<0 then 6 else if (X.idx:Int)≤yM X.decls s then 14 else 0
def hR (X:Rv) (loc:List ByteArray) (x:Ex):Int×ByteArray:=if x.mod=⟨#[]⟩ then (if jg x.name loc=true then (x.kind,x.mod) else (4,X.mp)) else (x.kind,Da X x.mod)
def vE (X:Rv) (loc:List ByteArray) (x:Ex):Int:=if x.mod=⟨#[]⟩ then (if jg x.name loc=true then (if x.kind=4 then 11 else 0) else yN X x.name) else Ff X x.mod
def vR (X:Rv) (loc:List ByteArray) (e:Int) (x:Ex):Int:=uB e (vE X loc x)
def eX (d:Dc):List ByteArray:=d.params.map Pm.name
noncomputable def eE (X:Rv) (d:Dc):Dc :=
 { d with mod:=(if d.kind=2 then Da X d.mod else d.mod),params:=fK (gR X) [] d.params,lower:=d.lower.res (gR X (eX d)),upper:=d.upper.res (gR X (eX d)),type:=d.type.res (gR X (eX d)),expr:=d.expr.res (gR X (eX d)) (hR X) [] }
noncomputable def sk (X:Rv) (d:Dc):Int :=
 d.expr.fold (gR X (eX d)) (hR X) (sR X (eX d)) (vR X) [] (d.type.fold (gR X (eX d)) (sR X (eX d)) (d.upper.fold (gR X (eX d)) (sR X (eX d)) (d.lower.fold (gR X (eX d)) (sR X (eX d)) (gW (gR X) (sR X) [] d.params (if d.kind=2 then Ff X d.mod else 0)))))
section
def gw:List ByteArray→V
 | []=>.sc (.pointer none)
 | s :: r=>.fa [str s,gw r]
theorem iN:gw [] = .sc (.pointer none):=rfl
theorem sZ (s:ByteArray) (r:List ByteArray):gw (s :: r) = .fa [str s,gw r]:=rfl
theorem Db (l:List ByteArray):iH (gw l)=true:=by cases l <;> rfl
theorem Zu:af.underlying 170=some (.pointer 208):=by kernel_rfl
theorem Zv (x y:Operand):eR af (re .neq 170 x y) (.sc (.pointer none)) (.sc (.pointer none))=some (bl false):=by kernel_rfl
theorem aC (l:List ByteArray) (n:Nat):aA n (gw l)=true:=by cases l <;> simp [gw,aA]
theorem Ho (s x:ByteArray) (r:List ByteArray):jg s (x :: r)=(decide (s=x)||jg s r):=rfl
theorem Rg {l:List ByteArray} {i:Nat} {x:ByteArray} {r:List ByteArray} (h:l[i]?=some x):(l.take (i+1)).reverse++r=x :: ((l.take i).reverse++r):=by rw [br,h]; simp
theorem Xi (l:List Lb) (a:Lb):(l++[a]).map (fun x=>str x.name)=l.map (fun x=>str x.name)++[str a.name]:=by simp
theorem bO (l:List Lb) (n:Nat):c5 (l.map fun x=>str x.name) n 1=true:=by
 unfold c5; split;·rename_i h; simp at h; obtain⟨t,-,rfl⟩:=h; rfl
 rfl
theorem aed {α:Type} (l:List α) (a:α):(l++[a]).length=l.length+1:=by simp
section
attribute [local go_sem] aC bN iN sZ Zv Zu
theorem UY (l:List ByteArray) (s:ByteArray):∃ r_,(fun w=>w=bl (jg s l)) r_∧bR af 143 [gw l,str s] r_:=by
 refine j3 tt_ok [] 17 [.tmp 4] (fn:=Tryz.f143) Tryz.func143 rfl Tryz.call143 ⟨rfl,rfl,by simp⟩ fun K hK=>?_;simp only [go_sem];refine ja tt_ok [] (fun a:List ByteArray=>[(0,gw a),(1,str s)]) (fun a:List ByteArray=>[]) (fun a=>a.length) (fun a=>jg s l=jg s a) (l) 0 (ea (by omega) (by simp only [ct,go_sem] <;> rfl)) (rfl) ?_;intro a hI;intro Z1 eh;rcases a with _ | ⟨x,r⟩
 ·simp only [go_sem];first | exact hK _ (congrArg bl bU) | exact hK _ (congrArg bl (hI ▸ rfl))
 simp only [go_sem];refine bY (fun fg=>?_) (fun fg=>?_);·(have bU:true=jg s l:=by rw [hI,Ho,decide_eq_true (of_decide_eq_true fg).symm]; rfl);simp only [go_sem];first | exact hK _ (congrArg bl bU) | exact hK _ (congrArg bl (hI ▸ rfl))
 have ep:decide (s=x)=false:=decide_eq_false fun h=>of_decide_eq_false fg h.symm;simp only [go_sem];refine eh _ ⟨r,?_,?_,ea (by omega) (by simp only [go_sem])⟩;·rw [hI,Ho,ep]; rfl
 exact lR _
end
section
attribute [local go_sem] aC sZ
theorem Ba (l ns:List ByteArray) (hl:ns.length≤1048576):∃ r_,(fun w=>w=gw (ns.reverse++l)) r_∧bR af 200 [gw l,.slice (ns.map str)] r_:=by
 refine j3 tt_ok [5] 19 [.tmp 4] (fn:=Tryz.f200) Tryz.func200 rfl Tryz.call200 ⟨rfl,rfl,by simp⟩ fun K hK=>?_;simp only [ab,iN,go_sem];refine ja tt_ok [5] (fun i:Nat=>[(0,gw ((ns.take i).reverse++l)),(7,.slice (ns.map str)),(8,num ns.length),(9,num i)]) (fun i:Nat=>[]) (fun i=>ns.length-i) (fun i=>i≤ns.length) (0) 0 (ea (by omega) (by simp only [dL,ab,iN,List.reverse_nil,ct,go_sem] <;> rfl)) (bn _) ?_;intro i hi;intro Z1 eh;simp only [ab,iN,go_sem];refine bY (fun qE=>?_) (fun qE=>?_);·(have qF:i<ns.length:=by simpa using qE);have gL:=bx i (by omega);obtain⟨x,hx⟩:∃ x,ns[i]?=some x:=⟨_,ak qF⟩;have hrv:=Rg (r:=l) hx;(obtain⟨L,hL⟩:∃ L,(ns.take i).reverse++l=L:=⟨_,rfl⟩; rw [hL] at hrv ⊢; rcases L with _ | ⟨y,r⟩);(·simp only [gL,hx,ae,ab,iN,go_sem];refine Le 0 (by decide) rfl rfl (by simp [iH,Db,iN,sZ]) ?_;refine l5 tt_ok ?_;simp only [gL,hx,ae,ab,iN,go_sem];refine eh _ ⟨i+1,?_,?_,ea (by omega) (by (simp only [gL,hrv,iN,go_sem]))⟩;(·exact qF);omega);simp only [gL,hx,ae,ab,iN,go_sem];refine Le 0 (by decide) rfl rfl (by simp [iH,Db,iN,sZ]) ?_;refine l5 tt_ok ?_;simp only [gL,hx,ae,ab,iN,go_sem];refine eh _ ⟨i+1,?_,?_,ea (by omega) (by (simp only [gL,hrv,iN,go_sem]))⟩;(·exact qF);omega
 have JQ:i=ns.length:=by have h_:¬ i<ns.length:=(by simpa using qE); omega
 rw [JQ,ai];obtain⟨L,hL⟩:∃ L,ns.reverse++l=L:=⟨_,rfl⟩; rw [hL] at hK ⊢; rcases L with _ | ⟨y,r⟩
 ·simp only [ab,iN,go_sem];exact hK _ rfl
 simp only [ab,iN,go_sem];exact hK _ rfl
end
end
section
theorem wg (mem:List bm) (l:List ByteArray):gP mem (gw l)=some (gw l):=by cases l <;> rfl
theorem wh (l:List ByteArray):fb (gw l)=[]:=by cases l <;> rfl
theorem Lv {s:ByteArray} {l:List ByteArray} (h:s∈l):jg s l=true:=nW.2 h
theorem Rh {s:ByteArray} {l:List ByteArray} (h:¬ s∈l):jg s l=false:=apT.2 fun e=>h (nW.1 e)
theorem bS (g:List (ByteArray×ByteArray)) (n:Nat):((js strVal 0 (dt g)).all fun e=>aA n e.2.2)=true:=by rw [Ez strVal (aA n),a7];intro e he;obtain⟨p,-,rfl⟩:=dv.1 he;rfl
theorem oC (g:List (ByteArray×ByteArray)) (n:Nat) (a:Value) (b:Nat) (c:V) (h:(a,b,c)∈js strVal 0 (dt g)):aA n c=true:=a7.1 (bS g n) _ h
theorem Bb (σ:Nat→Nat) (g:List (ByteArray×ByteArray)) (c:Nat):nG σ (.map (js strVal 0 (dt g)) c) = .map (js strVal 0 (dt g)) c:=by
 have key:∀ (g:List (ByteArray×ByteArray)) (n:Nat),(js strVal n (dt g)).map (fun e=>(e.1,e.2.1,fR σ e.2.2))=js strVal n (dt g):=by intro g;induction g with | nil=>intro n; rfl | cons e r ih =>intro n;show _ :: (js strVal (n+1) (dt r)).map _=_ :: js strVal (n+1) (dt r);rw [ih]; rfl
 simp only [nG];rw [key]
theorem k8 (σ:Nat→Nat) (l:List ByteArray):fR σ (gw l)=gw l:=by cases l <;> rfl
def Lw (X:Rv) (n v:Nat) (e:Int) (k1 k3:Nat):List V:=[str X.mp,.slice (X.cE.map cz),.slice (X.decls.map aR),num X.idx,.ms k3 v 0 n,num e,.sc (.func (.func 85) #[] #[]),.sc (.func (.func 86) #[] #[]),.cX (.func 83) [] [.ptr k1 0]]
def L4 (X:Rv) (vs:List ByteArray) (v:Nat) (e:Int):List bm:=[.box (Lw X vs.length v e 1 3),.box [.mp 2],.map (js strVal 0 (dt (dw X.cE))) (dt (dw X.cE)).length,.rows v 1 (vs.map str)]
structure Fg (M:List bm) (X:Rv) (vs:List ByteArray) (v:Nat) (e:Int) (k0 k1 k2 k3:Nat):Prop where
 h0:M[k0]?=some (.box (Lw X vs.length v e k1 k3))
 h1:M[k1]?=some (.box [.mp k2])
 h2:M[k2]?=some (.map (js strVal 0 (dt (dw X.cE))) (dt (dw X.cE)).length)
 h3:M[k3]?=some (.rows v 1 (vs.map str))
 nd:[k0,k1,k2,k3].Nodup
theorem Tj {f:FuncId} {args:List V} {r:V} {X:Rv} {vs:List ByteArray} {v:Nat} {e e':Int} (h:bz af f args (L4 X vs v e) r (L4 X vs v e')) (ha:args.all (aA 4)=true) (hr:aA 4 r=true)
  {M:List bm} {k0 k1 k2 k3:Nat} (hM:Fg M X vs v e k0 k1 k2 k3):bz af f (j9 (n5 [k0,k1,k2,k3] M.length) args) M (fR (n5 [k0,k1,k2,k3] M.length) r) (M.set k0 (.box (Lw X vs.length v e' k1 k3))):=by
 refine bz.keys (mem:=L4 X vs v e) (B:=.box (Lw X vs.length v e' 1 3)) (j0:=0) h M [k0,k1,k2,k3] rfl hM.nd (by simp [L4]) ha ?_ ?_ hr ?_;·have hb:=bS (dw X.cE) 4;simp only [L4,cZ,dY,ay,aI,aJ,Lw,aA,aK,hb]; rfl
 ·simp only [L4,ay,aI,aJ,Lw,cZ,dY,aA,aK]; rfl
 intro i B hi;rcases i with _ | _ | _ | _ | i
 ·cases hi; exact hM.h0
 ·cases hi; exact hM.h1
 ·cases hi; rw [Bb]; exact hM.h2
 ·cases hi; exact hM.h3
 simp [L4] at hi
def Hp (o:Option ByteArray) (t:Ty):Ty:=match o with
 | some m=>.mk t.kind m t.name t.args t.bD
 | none=>.mk 9 ⟨#[]⟩ t.name [] []
def ndX (p:Int×ByteArray) (x:Ex):Ex:=.mk p.1 p.2 x.name x.text x.num x.types x.labels x.kids
theorem Ri {s:ByteArray}:∀ {l:List Dc} {i:Nat} {x:Dc},l[i]?=some x→x.name=s→(∀ j<i,∀ y,l[j]?=some y→decide (y.name=s)=false)→(i:Int)=yM l s
 | [],_,_,h,_,_=>by simp at h
 | d :: r,0,x,h,hn,_=>by
  simp only [dk,aF] at h
  subst h
  unfold yM; rw [if_pos hn]; rfl
 | d :: r,i+1,x,h,hn,ef=>by
  have h1:=of_decide_eq_false (ef 0 (by omega) d rfl)
  have h2:=Ri (l:=r) (i:=i) (x:=x) (by simpa using h) hn fun j hj y hy=>ef (j+1) (by omega) y (by simpa using hy)
  unfold yM; rw [if_neg h1,← h2,if_neg (by omega)]; rfl
theorem Hq {s:ByteArray}:∀ {l:List Dc},(∀ j<l.length,∀ y,l[j]?=some y→decide (y.name=s)=false)→(-1:Int)=yM l s
 | [],_=>rfl
 | d :: r,ef=>by
  have h1:=of_decide_eq_false (ef 0 (by simp) d rfl)
  have h2:=Hq (l:=r) fun j hj y hy=>ef (j+1) (by simpa using hj) y (by simpa using hy)
  unfold yM; rw [if_neg h1,← h2,if_pos (by decide)]
section
attribute [local go_sem] ab
theorem UZ (ns:List ByteArray) (s:ByteArray) (hl:ns.length≤1048576):∃ r_,(fun w=>∃ n:Int,w=num n∧decide (n≥0)=jg s ns) r_∧bR af 102 [.slice (ns.map str),str s] r_:=by
 refine j3 tt_ok [] 19 [.tmp 4] (fn:=Tryz.f102) Tryz.func102 rfl Tryz.call102 ⟨rfl,rfl,by simp⟩ fun K hK=>?_;simp only [go_sem];refine fQ tt_ok [] [8] 0 [0,1,7] (fun vs=>((ns.length:Int)-Go.Eng.intOf (vs.headD .undef)).toNat) (fun vs=>∃ i:Nat,vs=[num i]∧i≤ns.length∧∀ j<i,∀ b,ns[j]?=some b→s≠b) (by omega) (by simp only [go_sem]) (⟨0,rfl,bn _,fun j hj=>absurd hj (du j)⟩) fun vs hI Z1 eh=>?_;obtain⟨i,rfl,hi,jt⟩:=hI;simp only [go_sem];refine bY (fun ka=>?_) (fun ka=>?_);·(have ca:i<ns.length:=by simpa using ka);obtain⟨m,hx⟩:∃ m,ns[i]?=some m:=⟨_,ak ca⟩;have hw:=bx i (by omega);simp only [ae,hx,hw,go_sem];refine bY (fun fg=>?_) (fun fg=>?_);(·(have heq:s=m:=by rw [bN] at fg; simpa using fg);(have bU:decide ((i:Int)≥0)=jg s ns:=by rw [decide_eq_true (by omega:(i:Int)≥0),Lv (heq ▸ aB hx)]);simp only [ae,hx,hw,go_sem];exact hK _ ⟨_,rfl,bU⟩);(have ep:s≠m:=by rw [bN] at fg; simpa using fg);simp only [ae,hx,hw,go_sem];refine eh _ (lO (by omega) (by simp only [ae,hx,hw,go_sem]) ?_ ?_) <;> simp only [eW,lk,reduceIte,zE];(·refine⟨i+1,rfl,ca,fun j hj b hb=>?_⟩;(rcases bL j i with h | h);(·exact jt j h b hb);(obtain rfl:j=i:=by omega);rw [hx] at hb; cases hb; exact ep);simp only [Go.Eng.intOf,cr]; omega
 have ig:¬ i<ns.length:=by simpa using ka
 have bU:decide ((-1:Int)≥0)=jg s ns:=by rw [decide_eq_false (by decide:¬ ((-1:Int)≥0)),Rh];intro hm;obtain⟨j,hj⟩:=aqA hm;exact jt j (by have:=(az.1 hj).1; omega) s hj rfl
 simp only [go_sem];exact hK _ ⟨_,rfl,bU⟩
end
theorem Bc (ns:List ByteArray) (s:ByteArray) (hl:ns.length≤1048576):∃ r_,(fun w=>w=bl (jg s ns)) r_∧bR af 45 [.slice (ns.map str),str s] r_:=by refine j3 tt_ok [] 9 [.tmp 4] (fn:=Tryz.f45) Tryz.func45 rfl Tryz.call45 ⟨rfl,rfl,by simp⟩ fun K hK=>?_;simp only [go_sem];refine cF (UZ ns s hl) ?_;rintro _ ⟨n,rfl,hn⟩;simp only [go_sem];exact hK _ (congrArg bl hn)
theorem Rj (ns:List ByteArray) (s:ByteArray) (hl:ns.length≤1048576):bR af 45 [.slice (ns.map str),str s] (bl (jg s ns)):=by obtain⟨_,rfl,h⟩:=Bc ns s hl;exact h
theorem U0 (X:Rv) (vs:List ByteArray) (v:Nat) (e:Int) (c:Int):∃ r_ m_,(fun r m=>r = .eV []∧m=[.box [str X.mp,.slice (X.cE.map cz),.slice (X.decls.map aR),num X.idx,.ms 3 v 0 vs.length,num (uB e c),.sc (.func (.func 85) #[] #[]),.sc (.func (.func 86) #[] #[]),.cX (.func 83) [] [.ptr 1 0]],.box [.mp 2],.map (js strVal 0 (dt (dw X.cE))) (dt (dw X.cE)).length,.rows v 1 (vs.map str)]) r_ m_∧bz af 84 [.ptr 0 0,num c] ([.box [str X.mp,.slice (X.cE.map cz),.slice (X.decls.map aR),num X.idx,.ms 3 v 0 vs.length,num (e),.sc (.func (.func 85) #[] #[]),.sc (.func (.func 86) #[] #[]),.cX (.func 83) [] [.ptr 1 0]],.box [.mp 2],.map (js strVal 0 (dt (dw X.cE))) (dt (dw X.cE)).length,.rows v 1 (vs.map str)]) r_ m_:=by
 refine Ld tt_ok [] 13 [] (4) (by simp) (fn:=Tryz.f84) Tryz.func84 rfl Tryz.call84 ⟨rfl,rfl,by simp⟩ fun K hK=>?_;simp only [bS,go_sem];refine bY (fun hc8=>?_) (fun hc8=>?_);·(have yI:uB e c=c:=by unfold uB; rw [if_pos (of_decide_eq_true hc8)]);simp only [bS,go_sem];exact hK _ _ ⟨rfl,by rw [yI]⟩
 have yI:uB e c=e:=by unfold uB; rw [if_neg (of_decide_eq_false hc8)]
 simp only [bS,go_sem];exact hK _ _ ⟨rfl,by rw [yI]⟩
theorem U1 (X:Rv) (vs:List ByteArray) (v:Nat) (e:Int) (c:Int):bz af 84 [.ptr 0 0,num c] (L4 X vs v e) (.eV []) (L4 X vs v (uB e c)):=by obtain⟨r,m,⟨rfl,rfl⟩,h⟩:=U0 X vs v e c;exact h
theorem U2 (X:Rv) (vs:List ByteArray) (v:Nat) (e:Int) (c:Int) {M:List bm} {k0 k1 k2 k3:Nat} (hM:Fg M X vs v e k0 k1 k2 k3):bz af 84 [.ptr k0 0,num c] M (.eV []) (M.set k0 (.box (Lw X vs.length v (uB e c) k1 k3))):=by have h:=Tj (U1 X vs v e c) (by simp [aA,aK,aG,aq,bj,aH,aC]) (by simp [aA,aK,aG,aq,bj,aH,aC]) hM;simpa [j9,fR,n5,aG,aq,bj,aH,k8] using h
theorem Bd (X:Rv) (vs:List ByteArray) (v:Nat) (e:Int) (c:Int) {M:List bm} (hM:Fg M X vs v e 0 1 2 3):∃ r_ m_,(fun r m=>r = .eV []∧m=M.set 0 (.box [str X.mp,.slice (X.cE.map cz),.slice (X.decls.map aR),num X.idx,.ms 3 v 0 vs.length,num (uB e c),.sc (.func (.func 85) #[] #[]),.sc (.func (.func 86) #[] #[]),.cX (.func 83) [] [.ptr 1 0]])) r_ m_∧bz af 84 [.ptr 0 0,num c] M r_ m_:=⟨_,_,⟨rfl,rfl⟩,U2 X vs v e c hM⟩
theorem Zw (X:Rv) (vs:List ByteArray) (v:Nat) (e:Int) (s:ByteArray):∃ r_ m_,(fun r m=>r=str (Da X s)∧m=[.box [str X.mp,.slice (X.cE.map cz),.slice (X.decls.map aR),num X.idx,.ms 3 v 0 vs.length,num (uB e (Ff X s)),.sc (.func (.func 85) #[] #[]),.sc (.func (.func 86) #[] #[]),.cX (.func 83) [] [.ptr 1 0]],.box [.mp 2],.map (js strVal 0 (dt (dw X.cE))) (dt (dw X.cE)).length,.rows v 1 (vs.map str)]) r_ m_∧bz af 83 [.ptr 0 0,str s,.ptr 1 0] ([.box [str X.mp,.slice (X.cE.map cz),.slice (X.decls.map aR),num X.idx,.ms 3 v 0 vs.length,num (e),.sc (.func (.func 85) #[] #[]),.sc (.func (.func 86) #[] #[]),.cX (.func 83) [] [.ptr 1 0]],.box [.mp 2],.map (js strVal 0 (dt (dw X.cE))) (dt (dw X.cE)).length,.rows v 1 (vs.map str)]) r_ m_:=by
 refine Ld tt_ok [] 19 [.tmp 5] (4) (by simp) (fn:=Tryz.f83) Tryz.func83 rfl Tryz.call83 ⟨rfl,rfl,by simp⟩ fun K hK=>?_;have j1:=ktS.get s (dt (dw X.cE)) (mem:=[.box [str X.mp,.slice (X.cE.map cz),.slice (X.decls.map aR),num X.idx,.ms 3 v 0 vs.length,num (e),.sc (.func (.func 85) #[] #[]),.sc (.func (.func 86) #[] #[]),.cX (.func 83) [] [.ptr 1 0]],.box [.mp 2],.map (js strVal 0 (dt (dw X.cE))) (dt (dw X.cE)).length,.rows v 1 (vs.map str)]) (b:=2) rfl (z:=str ⟨#[]⟩) (by kernel_rfl) true;rw [Hl] at j1;rcases qZ:nL s (dw X.cE) with _ | p
 ·simp only [qZ,apx,aqm,apQ,SS] at j1;(have hlr:Da X s=⟨#[]⟩:=by unfold Da; rw [qZ]; rfl);(have hle:uB e (Ff X s)=uB e 6:=by unfold Ff; rw [qZ]; rfl);simp only [bS,j1,go_sem];refine cW (Bd X vs v e 6 ⟨rfl,rfl,rfl,rfl,by decide⟩) ?_;rintro _ _ ⟨rfl,rfl⟩;simp only [bS,j1,go_sem];exact hK _ _ ⟨by rw [hlr],by rw [hle]⟩
 simp only [qZ,cA,aqn,agG,SS] at j1;have hlr:Da X s=p:=by unfold Da; rw [qZ]; rfl
 have hle:uB e (Ff X s)=e:=by unfold Ff; rw [qZ]; exact we e
 simp only [bS,j1,go_sem];exact hK _ _ ⟨by rw [hlr],by rw [hle]⟩
theorem Zx (X:Rv) (vs:List ByteArray) (v:Nat) (e:Int) (s:ByteArray):bz af 83 [.ptr 0 0,str s,.ptr 1 0] (L4 X vs v e) (str (Da X s)) (L4 X vs v (uB e (Ff X s))):=by obtain⟨r,m,⟨rfl,rfl⟩,h⟩:=Zw X vs v e s;exact h
theorem Rk (X:Rv) (vs:List ByteArray) (v:Nat) (e:Int) (s:ByteArray) {M:List bm} {k0 k1 k2 k3:Nat} (hM:Fg M X vs v e k0 k1 k2 k3):bz af 83 [.ptr k0 0,str s,.ptr k1 0] M (str (Da X s)) (M.set k0 (.box (Lw X vs.length v (uB e (Ff X s)) k1 k3))):=by have h:=Tj (Zx X vs v e s) (by simp [aA,aK,aG,aq,bj,aH,aC]) (by simp [aA,aK,aG,aq,bj,aH,aC]) hM;simpa [j9,fR,n5,aG,aq,bj,aH,k8] using h
theorem Xj (X:Rv) (vs:List ByteArray) (v:Nat) (e:Int) (s:ByteArray) {M:List bm} (hM:Fg M X vs v e 0 1 2 3):∃ r_ B_,(fun r B=>r=str (Da X s)∧B=bm.box [str X.mp,.slice (X.cE.map cz),.slice (X.decls.map aR),num X.idx,.ms 3 v 0 vs.length,num (uB e (Ff X s)),.sc (.func (.func 85) #[] #[]),.sc (.func (.func 86) #[] #[]),.cX (.func 83) [] [.ptr 1 0]]) r_ B_∧B_.dV=0∧bz af 83 [.ptr 0 0,str s,.ptr 1 0] M r_ (M.set 0 B_):=⟨_,_,⟨rfl,rfl⟩,rfl,Rk X vs v e s hM⟩
theorem Zy (s:ByteArray) (d:Dc):∃ r_,(fun w=>w=bl (decide (d.name=s))) r_∧bz af 199 [aR d,.ptr 0 0] ([.box [str s]]) r_ ([.box [str s]]):=by refine yh tt_ok [] 8 [.tmp 3] (fn:=Tryz.f199) Tryz.func199 rfl Tryz.call199 ⟨rfl,rfl,by simp⟩ fun K hK=>?_;simp only [dL,aR,aq,aH];simp only [bN,go_sem];exact hK _ _ ⟨rfl,rfl⟩
section
attribute [local go_sem] ab
theorem U3 (s:ByteArray) (l:List Dc) (hl:l.length≤1048576):∃ r_,(fun w=>w=num (yM l s)) r_∧bz af 32 [.slice (l.map aR),.cX (.func 199) [] [.ptr 0 0]] ([.box [str s]]) r_ ([.box [str s]]):=by
 refine yh tt_ok [] 19 [.tmp 4] (fn:=Tryz.f32) Tryz.func32 rfl Tryz.call32 ⟨rfl,rfl,by simp⟩ fun K hK=>?_;simp only [go_sem];refine fQ tt_ok [] [8] 1 [0,1,7] (fun vs=>((l.length:Int)-Go.Eng.intOf (vs.headD .undef)).toNat) (fun vs=>∃ i:Nat,vs=[num i]∧i≤l.length∧∀ j<i,∀ x,l[j]?=some x→decide (x.name=s)=false) (by omega) (by simp only [go_sem]) (⟨0,rfl,bn _,fun j hj=>absurd hj (du j)⟩) fun vs hI Z1 eh=>?_;obtain⟨i,rfl,hi,ef⟩:=hI;simp only [go_sem];refine bY (fun ka=>?_) (fun ka=>?_);·(have ca:i<l.length:=by simpa using ka);have hw:=bx i (by omega);obtain⟨x,hx⟩:∃ x,l[i]?=some x:=⟨_,ak ca⟩;simp only [hw,ae,hx,aR,aq,aH,au,ax,go_sem];refine cS (by have h:=Zy s x; simp only [dL,aR,aq,aH] at h; exact h) ?_;rintro _ rfl;simp only [hw,ae,hx,aR,aq,aH,au,ax,go_sem];refine bY (fun fg=>?_) (fun fg=>?_);(·have bU:(i:Int)=yM l s:=Ri hx (of_decide_eq_true fg) ef;simp only [hw,ae,hx,aR,aq,aH,au,ax,go_sem];exact hK _ _ ⟨congrArg num bU,rfl⟩);simp only [hw,ae,hx,aR,aq,aH,au,ax,go_sem];refine eh _ (lO (by omega) (by simp only [hw,ae,hx,aR,aq,aH,au,ax,go_sem]) ?_ ?_) <;> simp only [eW,lk,reduceIte,zE];(·refine⟨i+1,rfl,ca,fun j hj=>?_⟩;(rcases bL j i with h | h);(·exact ef j h);(obtain rfl:j=i:=by omega);intro y hy;rw [hx] at hy; cases hy; exact fg);simp only [Go.Eng.intOf,cr]; omega
 have ig:¬ i<l.length:=by simpa using ka
 have bU:(-1:Int)=yM l s:=Hq fun j hj=>ef j (by omega);simp only [go_sem];exact hK _ _ ⟨congrArg num bU,rfl⟩
end
theorem U4 (s:ByteArray) (l:List Dc) (hl:l.length≤1048576) {M:List bm} {k:Nat} (hM:M[k]?=some (.box [str s])):∃ r_,(fun w=>w=num (yM l s)) r_∧bz af 32 [.slice (l.map aR),.cX (.func 199) [] [.ptr k 0]] M r_ M:=by obtain⟨_,rfl,h⟩:=U3 s l hl;have h2:=bz.keys (mem:=[.box [str s]]) (B:=.box [str s]) (j0:=0) h M [k] rfl (by simp) (by simp) (by simp [aA,aK]) rfl rfl rfl (fun i B hi=>by (rcases i with _ | i);(·cases hi; exact hM);simp at hi);have e:M.set (n5 [k] M.length 0) (nG (n5 [k] M.length) (.box [str s]))=M:=qA hM;rw [e] at h2;exact⟨_,rfl,h2⟩
theorem wi (X:Rv) (vs:List ByteArray) (v:Nat) (e:Int) (lf:X.decls.length≤1048576) (s:ByteArray):∃ r_,(fun w=>w=num (yM X.decls s)) r_∧bz af 142 [.ptr 0 0,str s] ([.box [str X.mp,.slice (X.cE.map cz),.slice (X.decls.map aR),num X.idx,.ms 3 v 0 vs.length,num (e),.sc (.func (.func 85) #[] #[]),.sc (.func (.func 86) #[] #[]),.cX (.func 83) [] [.ptr 1 0]],.box [.mp 2],.map (js strVal 0 (dt (dw X.cE))) (dt (dw X.cE)).length,.rows v 1 (vs.map str)]) r_ ([.box [str X.mp,.slice (X.cE.map cz),.slice (X.decls.map aR),num X.idx,.ms 3 v 0 vs.length,num (e),.sc (.func (.func 85) #[] #[]),.sc (.func (.func 86) #[] #[]),.cX (.func 83) [] [.ptr 1 0]],.box [.mp 2],.map (js strVal 0 (dt (dw X.cE))) (dt (dw X.cE)).length,.rows v 1 (vs.map str)]):=by refine yh tt_ok [] 12 [.tmp 4] (fn:=Tryz.f142) Tryz.func142 rfl Tryz.call142 ⟨rfl,rfl,by simp⟩ fun K hK=>?_;simp only [bS,go_sem];refine cS (U4 s X.decls lf rfl) ?_;rintro _ rfl;simp only [bS,go_sem];exact hK _ _ ⟨rfl,rfl⟩
theorem U5 (X:Rv) (vs:List ByteArray) (v:Nat) (e:Int) (lf:X.decls.length≤1048576) (s:ByteArray):∃ r_,(fun w=>w=num (yN X s)) r_∧bz af 144 [.ptr 0 0,str s] ([.box [str X.mp,.slice (X.cE.map cz),.slice (X.decls.map aR),num X.idx,.ms 3 v 0 vs.length,num (e),.sc (.func (.func 85) #[] #[]),.sc (.func (.func 86) #[] #[]),.cX (.func 83) [] [.ptr 1 0]],.box [.mp 2],.map (js strVal 0 (dt (dw X.cE))) (dt (dw X.cE)).length,.rows v 1 (vs.map str)]) r_ ([.box [str X.mp,.slice (X.cE.map cz),.slice (X.decls.map aR),num X.idx,.ms 3 v 0 vs.length,num (e),.sc (.func (.func 85) #[] #[]),.sc (.func (.func 86) #[] #[]),.cX (.func 83) [] [.ptr 1 0]],.box [.mp 2],.map (js strVal 0 (dt (dw X.cE))) (dt (dw X.cE)).length,.rows v 1 (vs.map str)]):=by
 refine yh tt_ok [] 19 [.tmp 4] (fn:=Tryz.f144) Tryz.func144 rfl Tryz.call144 ⟨rfl,rfl,by simp⟩ fun K hK=>?_;simp only [bS,go_sem];refine cS (wi X vs v e lf s) ?_;rintro _ rfl;simp only [bS,go_sem];refine bY (fun ka=>?_) (fun ka=>?_);·(have bU:6=yN X s:=by unfold yN; rw [if_pos (of_decide_eq_true ka)]);simp only [bS,go_sem];exact hK _ _ ⟨congrArg num bU,rfl⟩
 have hn9:=of_decide_eq_false ka;simp only [bS,go_sem];refine bY (fun Na=>?_) (fun Na=>?_);·(have bU:14=yN X s:=by unfold yN; rw [if_neg hn9,if_pos (of_decide_eq_true Na)]);simp only [bS,go_sem];exact hK _ _ ⟨congrArg num bU,rfl⟩
 have bU:0=yN X s:=by unfold yN; rw [if_neg hn9,if_neg (of_decide_eq_false Na)]
 simp only [bS,go_sem];exact hK _ _ ⟨congrArg num bU,rfl⟩
theorem Hr (X:Rv) (vs:List ByteArray) (v:Nat) (e:Int) (lf:X.decls.length≤1048576) (s:ByteArray) {M:List bm} (hM:Fg M X vs v e 0 1 2 3):∃ r_,(fun w=>w=num (yM X.decls s)) r_∧bz af 142 [.ptr 0 0,str s] M r_ M:=by obtain⟨_,rfl,h⟩:=wi X vs v e lf s;have h2:=Tj (e':=e) h rfl rfl hM;rw [qA hM.h0] at h2;exact⟨_,rfl,h2⟩
theorem Zz (X:Rv) (vs:List ByteArray) (v:Nat) (e:Int) (lf:X.decls.length≤1048576) (s:ByteArray) {M:List bm} (hM:Fg M X vs v e 0 1 2 3):∃ r_,(fun w=>w=num (yN X s)) r_∧bz af 144 [.ptr 0 0,str s] M r_ M:=by obtain⟨_,rfl,h⟩:=U5 X vs v e lf s;have h2:=Tj (e':=e) h rfl rfl hM;rw [qA hM.h0] at h2;exact⟨_,rfl,h2⟩
end
section
theorem Rm (mem:List bm) (ks:List (Nat×Nat)) (b:Bool):bT mem ks (bl b)=mem:=rfl
theorem Ij (l:List ByteArray):(l.map str).take l.length=l.map str:=aX (by simp)
section
attribute [local go_sem] bS ag aO bN ab aw Rm
theorem Nb (X:Rv) (vs:List ByteArray) (v:Nat) (e:Int) (lf:X.decls.length≤1048576) (jC:vs.length≤1048576) (t:Ty):∃ r_ m_,(fun r m=>Iv r=cD (Hp (gR X vs t) t)∧m=[.box [str X.mp,.slice (X.cE.map cz),.slice (X.decls.map aR),num X.idx,.ms 3 v 0 vs.length,num (sR X vs e t),.sc (.func (.func 85) #[] #[]),.sc (.func (.func 86) #[] #[]),.cX (.func 83) [] [.ptr 1 0]],.box [.mp 2],.map (js strVal 0 (dt (dw X.cE))) (dt (dw X.cE)).length,.rows v 1 (vs.map str)]) r_ m_∧bz af 85 [.ptr 0 0,cD t] ([.box [str X.mp,.slice (X.cE.map cz),.slice (X.decls.map aR),num X.idx,.ms 3 v 0 vs.length,num (e),.sc (.func (.func 85) #[] #[]),.sc (.func (.func 86) #[] #[]),.cX (.func 83) [] [.ptr 1 0]],.box [.mp 2],.map (js strVal 0 (dt (dw X.cE))) (dt (dw X.cE)).length,.rows v 1 (vs.map str)]) r_ m_:=by
 refine Ld tt_ok [] 49 [.cell 4 41] (4) (by simp) (fn:=Tryz.f85) Tryz.func85 rfl Tryz.call85 ⟨rfl,rfl,by simp⟩ fun K hK=>?_;simp only [aG,aq];simp only [Ij vs,go_sem];refine bY (fun pq=>?_) (fun pq=>?_);·(have hm:¬ t.mod=⟨#[]⟩:=by simpa using pq);(have mf:gR X vs t=some (Da X t.mod):=by unfold gR; rw [if_neg hm]);(have Hs:sR X vs e t=uB e (Ff X t.mod):=by unfold sR tE; rw [if_neg hm]);simp only [Ij vs,go_sem];refine fO tt_ok cy [⟨.n,0,[],[],[]⟩,⟨.n,0,[],[0],[]⟩,⟨.n,0,[],[0,1],[]⟩,⟨.r,0,[],[0,1,2],[]⟩,⟨.n,0,[],[],[]⟩,⟨.n,0,[],[],[]⟩,⟨.r,0,[],[5],[]⟩,⟨.e,0,[],[0,1,2,3,4,5,6],[]⟩,⟨.n,0,[],[0,1,2,3,4,5,6,7],[]⟩,⟨.w,0,[],[0,1,2,3,4,5,6,7,8],[]⟩] 1 (by kernel_rfl) ?_;simp only [Ij vs,go_sem];refine wN rfl rfl (Xj X vs v e t.mod ⟨rfl,rfl,rfl,rfl,by decide⟩) ?_;rintro _ _ ⟨rfl,rfl⟩;simp only [Ij vs,go_sem];exact hK _ _ ⟨by rw [mf]; rfl,by rw [Hs]⟩
 have hm:t.mod=⟨#[]⟩:=by simpa using pq
 simp only [Ij vs,go_sem];refine fO tt_ok cy [⟨.n,0,[],[],[]⟩,⟨.n,0,[],[0],[]⟩,⟨.n,0,[],[0,1],[]⟩,⟨.r,0,[],[0,1,2],[]⟩,⟨.n,0,[],[],[]⟩,⟨.r,0,[],[4],[]⟩,⟨.z,0,[],[0,1,2,3,4,5],[]⟩,⟨.n,0,[],[0,1,2,3,4,5,6],[]⟩] 0 (by kernel_rfl) ?_;simp only [Ij vs,go_sem];refine cGZ (Rj vs t.name jC) ?_;simp only [Ij vs,go_sem];refine bY (fun oA=>?_) (fun oA=>?_);·(have mf:gR X vs t=none:=by unfold gR; rw [if_pos hm,if_pos oA]);simp only [Ij vs,go_sem];refine bY (fun Be=>?_) (fun Be=>?_);(·(have Hs:sR X vs e t=uB e 11:=by unfold sR tE; rw [if_pos hm,if_pos oA,if_pos (by have h_:=of_decide_eq_true Be; (try rw [ag] at h_); omega)]);simp only [Ij vs,go_sem];refine cW (Bd X vs v e _ ⟨rfl,rfl,rfl,rfl,by decide⟩) ?_;rintro _ _ ⟨rfl,rfl⟩;simp only [Ij vs,go_sem];exact hK _ _ ⟨by rw [mf]; rfl,by rw [Hs]⟩);(have Hs:sR X vs e t=e:=by unfold sR tE; rw [if_pos hm,if_pos oA,if_neg (by have h_:=of_decide_eq_false Be; (try rw [ag] at h_); omega),we]);simp only [Ij vs,go_sem];exact hK _ _ ⟨by rw [mf]; rfl,by rw [Hs]⟩
 have mf:gR X vs t=some X.mp:=by unfold gR; rw [if_pos hm,if_neg (by rw [oA]; simp)]
 simp only [Ij vs,go_sem];refine cS (Hr X vs v e lf t.name ⟨rfl,rfl,rfl,rfl,by decide⟩) ?_;rintro _ rfl;simp only [Ij vs,go_sem];refine bY (fun ka=>?_) (fun ka=>?_);·(have Hs:sR X vs e t=uB e 6:=by unfold sR tE; rw [if_pos hm,if_neg (by rw [oA]; simp),if_pos (of_decide_eq_true ka)]);simp only [Ij vs,go_sem];refine cW (Bd X vs v e _ ⟨rfl,rfl,rfl,rfl,by decide⟩) ?_;rintro _ _ ⟨rfl,rfl⟩;simp only [Ij vs,go_sem];exact hK _ _ ⟨by rw [mf]; rfl,by rw [Hs]⟩
 have Hs:sR X vs e t=e:=by unfold sR tE; rw [if_pos hm,if_neg (by rw [oA]; simp),if_neg (of_decide_eq_false ka),we]
 simp only [Ij vs,go_sem];exact hK _ _ ⟨by rw [mf]; rfl,by rw [Hs]⟩
end
theorem Rn (X:Rv) (vs:List ByteArray) (v:Nat) (e:Int) (lf:X.decls.length≤1048576) (jC:vs.length≤1048576) (t:Ty):∃ r_ m_,(fun r m=>r=cD (Hp (gR X vs t) t)∧m=[.box [str X.mp,.slice (X.cE.map cz),.slice (X.decls.map aR),num X.idx,.ms 3 v 0 vs.length,num (sR X vs e t),.sc (.func (.func 85) #[] #[]),.sc (.func (.func 86) #[] #[]),.cX (.func 83) [] [.ptr 1 0]],.box [.mp 2],.map (js strVal 0 (dt (dw X.cE))) (dt (dw X.cE)).length,.rows v 1 (vs.map str)]) r_ m_∧bz af 85 [.ptr 0 0,cD t] ([.box [str X.mp,.slice (X.cE.map cz),.slice (X.decls.map aR),num X.idx,.ms 3 v 0 vs.length,num (e),.sc (.func (.func 85) #[] #[]),.sc (.func (.func 86) #[] #[]),.cX (.func 83) [] [.ptr 1 0]],.box [.mp 2],.map (js strVal 0 (dt (dw X.cE))) (dt (dw X.cE)).length,.rows v 1 (vs.map str)]) r_ m_:=by obtain⟨r,m,⟨h1,rfl⟩,h⟩:=Nb X vs v e lf jC t;exact⟨_,_,⟨h1,rfl⟩,h.row⟩
theorem Ro (X:Rv) (vs:List ByteArray) (v:Nat) (e:Int) (lf:X.decls.length≤1048576) (jC:vs.length≤1048576) (t:Ty):bz af 85 [.ptr 0 0,cD t] (L4 X vs v e) (cD (Hp (gR X vs t) t)) (L4 X vs v (sR X vs e t)):=by obtain⟨r,m,⟨rfl,rfl⟩,h⟩:=Rn X vs v e lf jC t;exact h
theorem Rp (X:Rv) (vs:List ByteArray) (v:Nat) (e:Int) (lf:X.decls.length≤1048576) (jC:vs.length≤1048576) (t:Ty) {M:List bm} {k0 k1 k2 k3:Nat} (hM:Fg M X vs v e k0 k1 k2 k3):bz af 85 [.ptr k0 0,cD t] M (cD (Hp (gR X vs t) t)) (M.set k0 (.box (Lw X vs.length v (sR X vs e t) k1 k3))):=by have h:=Tj (Ro X vs v e lf jC t) (by simp [aA,aK,aG,aq,bj,aH,aC]) (by simp [aA,aK,aG,aq,bj,aH,aC]) hM;simpa [j9,fR,n5,aG,aq,bj,aH,k8] using h
theorem U6 (X:Rv) (vs:List ByteArray) (v:Nat) (e:Int) (lf:X.decls.length≤1048576) (jC:vs.length≤1048576) (t:Ty) {M:List bm} (hM:Fg M X vs v e 0 1 2 3):∃ r_ B_,(fun r B=>r=cD (Hp (gR X vs t) t)∧B=bm.box [str X.mp,.slice (X.cE.map cz),.slice (X.decls.map aR),num X.idx,.ms 3 v 0 vs.length,num (sR X vs e t),.sc (.func (.func 85) #[] #[]),.sc (.func (.func 86) #[] #[]),.cX (.func 83) [] [.ptr 1 0]]) r_ B_∧B_.dV=0∧bz af 85 [.ptr 0 0,cD t] M r_ (M.set 0 B_):=⟨_,_,⟨rfl,rfl⟩,rfl,Rp X vs v e lf jC t hM⟩
section
attribute [local go_sem] bS aC ag aj ab bN Rm
attribute [local go_sem ↓] wg wh
theorem Nc (X:Rv) (vs:List ByteArray) (v:Nat) (e:Int) (lf:X.decls.length≤1048576) (jC:vs.length≤1048576) (loc:List ByteArray) (x:Ex):∃ r_ m_,(fun r m=>r=cK (ndX (hR X loc x) x)∧m=[.box [str X.mp,.slice (X.cE.map cz),.slice (X.decls.map aR),num X.idx,.ms 3 v 0 vs.length,num (vR X loc e x),.sc (.func (.func 85) #[] #[]),.sc (.func (.func 86) #[] #[]),.cX (.func 83) [] [.ptr 1 0]],.box [.mp 2],.map (js strVal 0 (dt (dw X.cE))) (dt (dw X.cE)).length,.rows v 1 (vs.map str)]) r_ m_∧bz af 86 [.ptr 0 0,gw loc,cK x] ([.box [str X.mp,.slice (X.cE.map cz),.slice (X.decls.map aR),num X.idx,.ms 3 v 0 vs.length,num (e),.sc (.func (.func 85) #[] #[]),.sc (.func (.func 86) #[] #[]),.cX (.func 83) [] [.ptr 1 0]],.box [.mp 2],.map (js strVal 0 (dt (dw X.cE))) (dt (dw X.cE)).length,.rows v 1 (vs.map str)]) r_ m_:=by
 refine Ld tt_ok [] 46 [.cell 6 45] (4) (by simp) (fn:=Tryz.f86) Tryz.func86 rfl Tryz.call86 ⟨rfl,rfl,by simp⟩ fun K hK=>?_;simp only [bj,aH];simp only [go_sem];refine bY (fun AJ=>?_) (fun AJ=>?_);·(have hm:¬ x.mod=⟨#[]⟩:=by simpa using AJ);(have mf:hR X loc x=(x.kind,Da X x.mod):=by unfold hR; rw [if_neg hm]);(have Hs:vR X loc e x=uB e (Ff X x.mod):=by unfold vR vE; rw [if_neg hm]);simp only [go_sem];refine fO tt_ok cy [⟨.n,0,[],[],[]⟩,⟨.n,0,[],[0],[]⟩,⟨.n,0,[],[0,1],[]⟩,⟨.r,0,[],[0,1,2],[]⟩,⟨.n,0,[],[],[]⟩,⟨.n,0,[],[],[]⟩,⟨.r,0,[],[5],[]⟩,⟨.e,0,[],[0,1,2,3,4,5,6],[]⟩,⟨.n,0,[],[0,1,2,3,4,5,6,7],[]⟩,⟨.w,0,[],[0,1,2,3,4,5,6,7,8],[]⟩] 1 (by kernel_rfl) ?_;simp only [go_sem];refine wN rfl rfl (Xj X vs v e x.mod ⟨rfl,rfl,rfl,rfl,by decide⟩) ?_;rintro _ _ ⟨rfl,rfl⟩;simp only [go_sem];exact hK _ _ ⟨by rw [mf]; rfl,by rw [Hs]⟩
 have hm:x.mod=⟨#[]⟩:=by simpa using AJ
 simp only [go_sem];refine cF (UY loc x.name) ?_;rintro _ rfl;simp only [go_sem];refine bY (fun GJ=>?_) (fun GJ=>?_);·(have mf:hR X loc x=(x.kind,x.mod):=by unfold hR; rw [if_pos hm,if_pos GJ]);simp only [go_sem];refine bY (fun Bf=>?_) (fun Bf=>?_);(·(have Hs:vR X loc e x=uB e 11:=by unfold vR vE; rw [if_pos hm,if_pos GJ,if_pos (of_decide_eq_true Bf)]);simp only [go_sem];refine cW (Bd X vs v e _ ⟨rfl,rfl,rfl,rfl,by decide⟩) ?_;rintro _ _ ⟨rfl,rfl⟩;simp only [go_sem];exact hK _ _ ⟨by rw [mf]; rfl,by rw [Hs]⟩);(have Hs:vR X loc e x=e:=by unfold vR vE; rw [if_pos hm,if_pos GJ,if_neg (of_decide_eq_false Bf),we]);simp only [go_sem];exact hK _ _ ⟨by rw [mf]; rfl,by rw [Hs]⟩
 have mf:hR X loc x=(4,X.mp):=by unfold hR; rw [if_pos hm,if_neg (by rw [GJ]; simp)]
 have Hs:vR X loc e x=uB e (yN X x.name):=by unfold vR vE; rw [if_pos hm,if_neg (by rw [GJ]; simp)]
 simp only [go_sem];refine cS (Zz X vs v e lf x.name ⟨rfl,rfl,rfl,rfl,by decide⟩) ?_;rintro _ rfl;simp only [go_sem];refine cW (Bd X vs v e _ ⟨rfl,rfl,rfl,rfl,by decide⟩) ?_;rintro _ _ ⟨rfl,rfl⟩;simp only [go_sem];refine fO tt_ok cy [⟨.n,0,[],[],[]⟩,⟨.n,0,[],[0],[]⟩,⟨.n,0,[],[0,1],[]⟩,⟨.n,0,[],[0,1,2],[]⟩,⟨.r,0,[],[0,1,2,3],[4]⟩,⟨.n,0,[],[],[]⟩,⟨.e,4,[],[5],[]⟩,⟨.n,0,[],[0,1,2,3,4,5,6],[]⟩,⟨.e,4,[],[0,1,2,3,4,5,6,7],[]⟩] 0 (by kernel_rfl) ?_;simp only [go_sem];exact hK _ _ ⟨by rw [mf]; rfl,by rw [Hs]⟩
end
theorem Nd (X:Rv) (vs:List ByteArray) (v:Nat) (e:Int) (lf:X.decls.length≤1048576) (jC:vs.length≤1048576) (loc:List ByteArray) (x:Ex):bz af 86 [.ptr 0 0,gw loc,cK x] (L4 X vs v e) (cK (ndX (hR X loc x) x)) (L4 X vs v (vR X loc e x)):=by obtain⟨r,m,⟨rfl,rfl⟩,h⟩:=Nc X vs v e lf jC loc x;exact h
theorem Nf (X:Rv) (vs:List ByteArray) (v:Nat) (e:Int) (lf:X.decls.length≤1048576) (jC:vs.length≤1048576) (loc:List ByteArray) (x:Ex) {M:List bm} {k0 k1 k2 k3:Nat} (hM:Fg M X vs v e k0 k1 k2 k3):bz af 86 [.ptr k0 0,gw loc,cK x] M (cK (ndX (hR X loc x) x)) (M.set k0 (.box (Lw X vs.length v (vR X loc e x) k1 k3))):=by have h:=Tj (Nd X vs v e lf jC loc x) (by simp [aA,aK,aG,aq,bj,aH,aC]) (by simp [aA,aK,aG,aq,bj,aH,aC]) hM;simpa [j9,fR,n5,aG,aq,bj,aH,k8] using h
theorem Rr (X:Rv) (vs:List ByteArray) (v:Nat) (e:Int) (lf:X.decls.length≤1048576) (jC:vs.length≤1048576) (loc:List ByteArray) (x:Ex) {M:List bm} (hM:Fg M X vs v e 0 1 2 3):∃ r_ B_,(fun r B=>r=cK (ndX (hR X loc x) x)∧B=bm.box [str X.mp,.slice (X.cE.map cz),.slice (X.decls.map aR),num X.idx,.ms 3 v 0 vs.length,num (vR X loc e x),.sc (.func (.func 85) #[] #[]),.sc (.func (.func 86) #[] #[]),.cX (.func 83) [] [.ptr 1 0]]) r_ B_∧B_.dV=0∧bz af 86 [.ptr 0 0,gw loc,cK x] M r_ (M.set 0 B_):=⟨_,_,⟨rfl,rfl⟩,rfl,Nf X vs v e lf jC loc x hM⟩
end
theorem Ht (l:List Fd) (n:Nat):c5 (cB l) n 7=true:=by
 unfold c5; split;·rename_i h; simp [kx] at h; obtain⟨t,-,rfl⟩:=h; simp [MQ]
 rfl
theorem Hu (l:List Lb) (n:Nat):c5 (l.map cg) n 8=true:=by
 unfold c5; split;·rename_i h; simp at h; obtain⟨t,-,rfl⟩:=h; simp [cg,aq,V.cells]
 rfl
theorem Hv (l:List Ex) (n:Nat):c5 (c8 l) n 8=true:=by
 unfold c5; split;·rename_i h; simp [lB] at h; obtain⟨t,-,rfl⟩:=h; simp [MR]
 rfl
theorem Rs (l:List Pm) (n:Nat):c5 (l.map dT) n 7=true:=by
 unfold c5; split;·rename_i h; simp at h; obtain⟨t,-,rfl⟩:=h; simp [dT,aq,V.cells]
 rfl
theorem Rt (l:List Im) (n:Nat):c5 (l.map cz) n 2=true:=by
 unfold c5; split;·rename_i h; simp at h; obtain⟨t,-,rfl⟩:=h; simp [cz,V.cells]
 rfl
theorem Bg (rows:List V) (h1:c5 rows 0 7=true) (hl:rows.length≤34359738368):bz af 54 [.slice rows] [] (.ms 0 1 0 rows.length) [.rows 1 7 rows]:=by refine kh tt_ok (fn:=Tryz.f54) 1 (by simp) Tryz.func54 rfl Tryz.call54 ?_;simp only [dL,cH,Tryz.ntmps54,ay,aI,zA,zF,aD,aE];refine ah tt_ok fun K hK=>?_;simp only [go_sem];refine hK _ ?_;refine bC ?_;refine ah tt_ok fun K hK=>?_;simp only [go_sem];intro b hb;refine hK _ ?_;cases b with | true =>((have h0:rows=[]:=by cases rows with | nil=>rfl | cons a r=>have:=hb (by simp); cases this);subst h0;refine aV rfl ?_;refine ah tt_ok fun K hK=>?_;simp only [go_sem];refine hK _ ?_;refine mK 2 1 7 rfl ?_;exact bW ⟨.inl rfl,rfl,rfl,rfl,rfl⟩) | false =>refine aV rfl (cn ?_);show eg _ _ _ _ _ _;refine ah tt_ok fun K hK=>?_;simp only [h1,hl,go_sem];refine hK _ ?_;refine bW ⟨.inl rfl,?_⟩;simp [kQ,lM,mI,Tryz.f54,aA,aJ,aK]
theorem Bh (rows:List V) (h1:c5 rows 0 8=true) (hl:rows.length≤34359738368):bz af 55 [.slice rows] [] (.ms 0 1 0 rows.length) [.rows 1 8 rows]:=by refine kh tt_ok (fn:=Tryz.f55) 1 (by simp) Tryz.func55 rfl Tryz.call55 ?_;simp only [dL,cH,Tryz.ntmps55,ay,aI,zA,zF,aD,aE];refine ah tt_ok fun K hK=>?_;simp only [go_sem];refine hK _ ?_;refine bC ?_;refine ah tt_ok fun K hK=>?_;simp only [go_sem];intro b hb;refine hK _ ?_;cases b with | true =>((have h0:rows=[]:=by cases rows with | nil=>rfl | cons a r=>have:=hb (by simp); cases this);subst h0;refine aV rfl ?_;refine ah tt_ok fun K hK=>?_;simp only [go_sem];refine hK _ ?_;refine mK 2 1 8 rfl ?_;exact bW ⟨.inl rfl,rfl,rfl,rfl,rfl⟩) | false =>refine aV rfl (cn ?_);show eg _ _ _ _ _ _;refine ah tt_ok fun K hK=>?_;simp only [h1,hl,go_sem];refine hK _ ?_;refine bW ⟨.inl rfl,?_⟩;simp [kQ,lM,mI,Tryz.f55,aA,aJ,aK]
theorem Bi (rows:List V) (h1:c5 rows 0 8=true) (hl:rows.length≤34359738368):bz af 56 [.slice rows] [] (.ms 0 1 0 rows.length) [.rows 1 8 rows]:=by refine kh tt_ok (fn:=Tryz.f56) 1 (by simp) Tryz.func56 rfl Tryz.call56 ?_;simp only [dL,cH,Tryz.ntmps56,ay,aI,zA,zF,aD,aE];refine ah tt_ok fun K hK=>?_;simp only [go_sem];refine hK _ ?_;refine bC ?_;refine ah tt_ok fun K hK=>?_;simp only [go_sem];intro b hb;refine hK _ ?_;cases b with | true =>((have h0:rows=[]:=by cases rows with | nil=>rfl | cons a r=>have:=hb (by simp); cases this);subst h0;refine aV rfl ?_;refine ah tt_ok fun K hK=>?_;simp only [go_sem];refine hK _ ?_;refine mK 2 1 8 rfl ?_;exact bW ⟨.inl rfl,rfl,rfl,rfl,rfl⟩) | false =>refine aV rfl (cn ?_);show eg _ _ _ _ _ _;refine ah tt_ok fun K hK=>?_;simp only [h1,hl,go_sem];refine hK _ ?_;refine bW ⟨.inl rfl,?_⟩;simp [kQ,lM,mI,Tryz.f56,aA,aJ,aK]
theorem JR (rows:List V) (h1:c5 rows 0 7=true) (hl:rows.length≤34359738368):bz af 21 [.slice rows] [] (.ms 0 1 0 rows.length) [.rows 1 7 rows]:=by refine kh tt_ok (fn:=Tryz.f21) 1 (by simp) Tryz.func21 rfl Tryz.call21 ?_;simp only [dL,cH,Tryz.ntmps21,ay,aI,zA,zF,aD,aE];refine ah tt_ok fun K hK=>?_;simp only [go_sem];refine hK _ ?_;refine bC ?_;refine ah tt_ok fun K hK=>?_;simp only [go_sem];intro b hb;refine hK _ ?_;cases b with | true =>((have h0:rows=[]:=by cases rows with | nil=>rfl | cons a r=>have:=hb (by simp); cases this);subst h0;refine aV rfl ?_;refine ah tt_ok fun K hK=>?_;simp only [go_sem];refine hK _ ?_;refine mK 2 1 7 rfl ?_;exact bW ⟨.inl rfl,rfl,rfl,rfl,rfl⟩) | false =>refine aV rfl (cn ?_);show eg _ _ _ _ _ _;refine ah tt_ok fun K hK=>?_;simp only [h1,hl,go_sem];refine hK _ ?_;refine bW ⟨.inl rfl,?_⟩;simp [kQ,lM,mI,Tryz.f21,aA,aJ,aK]
theorem JS (rows:List V) (h1:c5 rows 0 2=true) (hl:rows.length≤34359738368):bz af 19 [.slice rows] [] (.ms 0 1 0 rows.length) [.rows 1 2 rows]:=by refine kh tt_ok (fn:=Tryz.f19) 1 (by simp) Tryz.func19 rfl Tryz.call19 ?_;simp only [dL,cH,Tryz.ntmps19,ay,aI,zA,zF,aD,aE];refine ah tt_ok fun K hK=>?_;simp only [go_sem];refine hK _ ?_;refine bC ?_;refine ah tt_ok fun K hK=>?_;simp only [go_sem];intro b hb;refine hK _ ?_;cases b with | true =>((have h0:rows=[]:=by cases rows with | nil=>rfl | cons a r=>have:=hb (by simp); cases this);subst h0;refine aV rfl ?_;refine ah tt_ok fun K hK=>?_;simp only [go_sem];refine hK _ ?_;refine mK 2 1 2 rfl ?_;exact bW ⟨.inl rfl,rfl,rfl,rfl,rfl⟩) | false =>refine aV rfl (cn ?_);show eg _ _ _ _ _ _;refine ah tt_ok fun K hK=>?_;simp only [h1,hl,go_sem];refine hK _ ?_;refine bW ⟨.inl rfl,?_⟩;simp [kQ,lM,mI,Tryz.f19,aA,aJ,aK]
theorem Ty.eta (t:Ty):Ty.mk t.kind t.mod t.name t.args t.bD=t:=by obtain⟨k,m,n,ts,fs⟩:=t; rfl
theorem Fd.eta (f:Fd):Fd.mk f.name f.ty f.opt=f:=by obtain⟨n,t,o⟩:=f; rfl
theorem Ty.induct {p:Ty→Prop} (h:∀ t:Ty,(∀ u∈t.parts,p u)→p t):∀ t,p t:=by
 have key:∀ (N:Nat) (t:Ty),t.size≤N→p t:=by intro N;induction N with | zero=>intro t ht; have:=t.size_pos; omega | succ N ih =>intro t ht;refine h t fun u hu=>ih u ?_;obtain⟨i,hi⟩:=cq.1 hu;have e1:=cu Ty.size hi;have e2:=t.dj;omega
 exact fun t=>key t.size t (aw _)
theorem Ty.Hw {t u:Ty} (h:u∈t.args):u∈t.parts:=hX _ h
theorem Ty.Hx {t:Ty} {f:Fd} (h:f∈t.bD):f.ty∈t.parts:=gC _ (dv.2 ⟨f,h,rfl⟩)
def Ty.vars (t:Ty):List ByteArray:=(t.nodes.filter fun u=>decide (u.kind=9)).map Ty.name
section
theorem aef {g:Ty→Option ByteArray} {t u:Ty} (hu:u=if t.kind=10∨t.kind=9 then Hp (g t) t else t):t.res g = .mk u.kind u.mod u.name (u.args.map (Ty.res g)) (u.bD.map (Fd.res g)):=by
 rw [Ty.l9];unfold vZ;by_cases hk:t.kind=10∨t.kind=9;·rw [if_pos hk] at hu ⊢;cases hg:g t with | some m=>rw [hg] at hu; subst hu; rfl | none=>rw [hg] at hu; subst hu; rfl
 rw [if_neg hk] at hu ⊢;subst hu; rfl
theorem Xk {S:Type} {g:Ty→Option ByteArray} {s:S→Ty→S} {t u:Ty} (a:S) (hu:u=if t.kind=10∨t.kind=9 then Hp (g t) t else t) :
  t.fold g s a=u.bD.foldl (fun a f=>f.ty.fold g s a) (u.args.foldl (fun a t=>t.fold g s a) (if t.kind=10∨t.kind=9 then s a t else a)):=by
 rw [Ty.fold_eq];unfold vZ;by_cases hk:t.kind=10∨t.kind=9;·rw [if_pos hk] at hu;simp only [if_pos hk];cases hg:g t with | some m=>rw [hg] at hu; subst hu; rfl | none=>rw [hg] at hu; subst hu; rfl
 rw [if_neg hk] at hu;simp only [if_neg hk];subst hu; rfl
theorem ZA {g:Ty→Option ByteArray} {t u:Ty} (hu:u=if t.kind=10∨t.kind=9 then Hp (g t) t else t):(u.args=t.args∧u.bD=t.bD)∨(u.args=[]∧u.bD=[]):=by
 by_cases hk:t.kind=10∨t.kind=9;·rw [if_pos hk] at hu;cases hg:g t with | some m=>rw [hg] at hu; subst hu; exact .inl ⟨rfl,rfl⟩ | none=>rw [hg] at hu; subst hu; exact .inr ⟨rfl,rfl⟩
 rw [if_neg hk] at hu;subst hu; exact .inl ⟨rfl,rfl⟩
theorem aeg {g:Ty→Option ByteArray} {t u:Ty} (hu:u=if t.kind=10∨t.kind=9 then Hp (g t) t else t):u.args.length≤t.args.length∧u.bD.length≤t.bD.length∧(∀ x∈u.args,x∈t.parts)∧∀ f∈u.bD,f.ty∈t.parts:=by
 rcases ZA hu with ⟨h1,h2⟩ | ⟨h1,h2⟩
 ·rw [h1,h2]; exact⟨aw _,aw _,fun x hx=>Ty.Hw hx,fun f hf=>Ty.Hx hf⟩
 rw [h1,h2]; exact⟨bn _,bn _,fun x hx=>(by cases hx),fun f hf=>(by cases hf)⟩
theorem jX {α:Type} {g:α→α} {l al:List α} {i:Nat} {x:α} (has:al=(l.take i).map g++l.drop i) (hx:l[i]?=some x):al.set i (g x)=(l.take (i+1)).map g++l.drop (i+1):=by
 have ca:=(az.1 hx).1;have hg:=(az.1 hx).2;have hl:((l.take i).map g).length=i:=by simp; omega
 rw [has,dz _ _ (by omega),hl,cU,dp ca,bh,br,hx];simp
theorem ny {α:Type} {g:α→α} {l al:List α} {i:Nat} {x:α} (has:al=(l.take i).map g++l.drop i) (hx:l[i]?=some x):al[i]?=some x∧al.length=l.length:=by
 have ca:=(az.1 hx).1;have hl:((l.take i).map g).length=i:=by simp; omega
 constructor;·rw [has,aW (by omega),hl,cU,BU]; simpa using hx
 rw [has]; simp; omega
theorem tkl {α β:Type} (h:α→β) (l:List α) (n:Nat) (hn:l.length=n):(l.map h).take n=l.map h:=aX (by simp [hn])
theorem Ru (X:Rv) (vs:List ByteArray) (v:Nat) (e:Int) (lf:X.decls.length≤1048576) (jC:vs.length≤1048576) (t u:Ty) (hu:u=Hp (gR X vs t) t) (e1:Int) (he:e1=sR X vs e t) {M:List bm} (hM:Fg M X vs v e 0 1 2 3):∃ r_ B_,(fun r B=>r = .agg [num u.kind,str u.mod,str u.name,.slice (bc u.args),.slice (cB u.bD)]∧B=bm.box [str X.mp,.slice (X.cE.map cz),.slice (X.decls.map aR),num X.idx,.ms 3 v 0 vs.length,num (e1),.sc (.func (.func 85) #[] #[]),.sc (.func (.func 86) #[] #[]),.cX (.func 83) [] [.ptr 1 0]]) r_ B_∧B_.dV=0∧bz af 85 [.ptr 0 0,.agg [num t.kind,str t.mod,str t.name,.slice (bc t.args),.slice (cB t.bD)]] M r_ (M.set 0 B_):=by subst hu; subst he;have h:=U6 X vs v e lf jC t hM;rw [aG,aG] at h;exact h
theorem s5 {X:Rv} {vs:List ByteArray} {v:Nat} {x y:Ty} {e1 e2:Int} (h:bz af 87 [.ptr 0 0,cD x] (L4 X vs v e1) (cD y) (L4 X vs v e2)) {M:List bm} (hM:Fg M X vs v e1 0 1 2 3):∃ r_ B_,(fun r B=>r = .agg [num y.kind,str y.mod,str y.name,.slice (bc y.args),.slice (cB y.bD)]∧B=bm.box [str X.mp,.slice (X.cE.map cz),.slice (X.decls.map aR),num X.idx,.ms 3 v 0 vs.length,num (e2),.sc (.func (.func 85) #[] #[]),.sc (.func (.func 86) #[] #[]),.cX (.func 83) [] [.ptr 1 0]]) r_ B_∧B_.dV=0∧bz af 87 [.ptr 0 0,.agg [num x.kind,str x.mod,str x.name,.slice (bc x.args),.slice (cB x.bD)]] M r_ (M.set 0 B_):=by have h2:=Tj h (by simp [aA,aK,aG,aq]) (by simp [aA,aK,aG,aq]) hM;refine⟨_,_,⟨rfl,rfl⟩,rfl,?_⟩;simpa [j9,fR,n5,aG,aq,Lw] using h2
section
attribute [local go_sem] bS aC ag aO
theorem JT (X:Rv) (vs:List ByteArray) (v:Nat) (e:Int) (lf:X.decls.length≤1048576) (jC:vs.length≤1048576) (t:Ty) (JC:t.args.length≤1048576) (S3:t.bD.length≤1048576) (gB:∀ p∈t.parts,∀ e,bz af 87 [.ptr 0 0,cD p] (L4 X vs v e) (cD (p.res (gR X vs))) (L4 X vs v (p.fold (gR X vs) (sR X vs) e))):∃ r_ m_,(fun r m=>r=cD (t.res (gR X vs))∧m=[.box [str X.mp,.slice (X.cE.map cz),.slice (X.decls.map aR),num X.idx,.ms 3 v 0 vs.length,num (t.fold (gR X vs) (sR X vs) e),.sc (.func (.func 85) #[] #[]),.sc (.func (.func 86) #[] #[]),.cX (.func 83) [] [.ptr 1 0]],.box [.mp 2],.map (js strVal 0 (dt (dw X.cE))) (dt (dw X.cE)).length,.rows v 1 (vs.map str)]) r_ m_∧bz af 87 [.ptr 0 0,cD t] ([.box [str X.mp,.slice (X.cE.map cz),.slice (X.decls.map aR),num X.idx,.ms 3 v 0 vs.length,num (e),.sc (.func (.func 85) #[] #[]),.sc (.func (.func 86) #[] #[]),.cX (.func 83) [] [.ptr 1 0]],.box [.mp 2],.map (js strVal 0 (dt (dw X.cE))) (dt (dw X.cE)).length,.rows v 1 (vs.map str)]) r_ m_:=by
 refine Ld tt_ok [1,14,30000] 67 [.cell 4 41] (4) (by simp) (fn:=Tryz.f87) Tryz.func87 rfl Tryz.call87 ⟨rfl,rfl,by simp⟩ fun K hK=>?_;obtain⟨u,hu⟩:∃ u,u=(if t.kind=10∨t.kind=9 then Hp ((gR X vs) t) t else t):=⟨_,rfl⟩;obtain⟨e1,JU⟩:∃ x,x=(if t.kind=10∨t.kind=9 then (sR X vs) e t else e):=⟨_,rfl⟩;obtain⟨hul,huf,Me,Rw⟩:=aeg hu;have Rx:=aef hu;have Bj:=Xk (s:=(sR X vs)) e hu;rw [← JU] at Bj;simp only [aG,aq];simp only [go_sem];refine ph (n:=67) tt_ok [1,14,30000] (fun _:Unit=>[(0,.ptr 0 0),(3,.ptr 4 0),(4,.ptr 5 0)]) (fun _:Unit=>[.box [str X.mp,.slice (X.cE.map cz),.slice (X.decls.map aR),num X.idx,.ms 3 v 0 vs.length,num (e1),.sc (.func (.func 85) #[] #[]),.sc (.func (.func 86) #[] #[]),.cX (.func 83) [] [.ptr 1 0]],.box [.mp 2],.map (js strVal 0 (dt (dw X.cE))) (dt (dw X.cE)).length,.rows v 1 (vs.map str),.box [num u.kind,str u.mod,str u.name,.slice (bc u.args),.slice (cB u.bD)],.box [num 0,str ⟨#[]⟩,str ⟨#[]⟩,.sc (.slice none 0 0),.sc (.slice none 0 0)]]) 6 (fun _=>True) (fun Z1 eh=>?_) ?_;·simp only [go_sem];refine ia tt_ok [1,14,30000] [16] 6 [0,1,3,4] (fun vs=>vs=[bl (decide (t.kind=10)||decide (t.kind=9))]) (fun Z2 mR=>?_) ?_;(·simp only [go_sem];refine l5 tt_ok ?_;simp only [go_sem];refine bY (fun fP=>?_) (fun fP=>?_);(·simp only [go_sem];refine mR _ (dG (by omega) (by simp only [go_sem]) ?_);simp only [eW,lk,reduceIte,zE];exact congrArg (fun b=>[bl b]) (by rw [fP]; first | rfl | simp));simp only [go_sem];refine mR _ (dG (by omega) (by simp only [go_sem]) ?_);simp only [eW,lk,reduceIte,zE];exact congrArg (fun b=>[bl b]) (by rw [fP]; first | rfl | simp));intro vs hJ;obtain rfl:=hJ;simp only [go_sem];refine bY (fun fg=>?_) (fun fg=>?_);(·(have hk:t.kind=10∨t.kind=9:=by simpa using fg);(have Ck:u=Hp ((gR X vs) t) t:=by rw [hu,if_pos hk]);(have EE:e1=(sR X vs) e t:=by rw [JU,if_pos hk]);simp only [go_sem];refine fO tt_ok cy [⟨.n,0,[],[],[]⟩,⟨.n,0,[],[0],[]⟩,⟨.n,0,[],[0,1],[]⟩,⟨.r,0,[],[0,1,2],[]⟩,⟨.n,0,[],[],[]⟩,⟨.r,0,[],[],[]⟩,⟨.e,0,[],[0,1,2,3,4,5],[]⟩,⟨.w,0,[],[0,1,2,3,4,5,6],[]⟩] 1 (by kernel_rfl) ?_;simp only [go_sem];refine wN rfl rfl (Ru X vs v e lf jC t u Ck e1 EE ⟨rfl,rfl,rfl,rfl,by decide⟩) ?_;rintro _ _ ⟨rfl,rfl⟩;simp only [go_sem];(try rw [← Ck,← EE]);refine eh _ ⟨(),?_,ea (by omega) (by simp only [go_sem])⟩;exact trivial);(have hk:¬ (t.kind=10∨t.kind=9):=by simpa using fg);(have Ck:u=t:=by rw [hu,if_neg hk]);(have EE:e1=e:=by rw [JU,if_neg hk]);simp only [go_sem];(try rw [← Ck,← EE]);refine eh _ ⟨(),?_,ea (by omega) (by simp only [go_sem])⟩;exact trivial
 intro _ _;simp only [go_sem];refine fO tt_ok cy [⟨.n,0,[],[],[]⟩,⟨.r,0,[],[0],[]⟩,⟨.a,0,[],[0,1],[]⟩,⟨.n,0,[],[],[]⟩,⟨.r,0,[0],[3],[]⟩,⟨.a,1,[],[0,1,2,3,4],[]⟩,⟨.n,0,[],[0,1,2,3,4],[]⟩,⟨.w,2,[],[0,1,2,3,4,5,6],[]⟩,⟨.n,0,[],[0,1,2,3,4,5,6,7],[]⟩,⟨.w,3,[],[0,1,2,3,4,5,6,7,8],[]⟩] 4 (by kernel_rfl) ?_;simp only [go_sem];refine N4 ⟨_,mS (bc u.args) (nu u.args 0) (by rw [ag]; omega)⟩ ?_;simp only [go_sem];refine N4 ⟨_,Bg (cB u.bD) (Ht u.bD 0) (by rw [aO]; omega)⟩ ?_;simp only [go_sem];refine sq tt_ok [1,14,30000] ?_;simp only [go_sem];refine ja tt_ok [1,14,30000] (fun a:Nat×List Ty×Int=>[(0,.ptr 0 0),(3,.ptr 4 0),(4,.ptr 5 0),(33,.ms 6 0 0 u.args.length),(34,num u.args.length),(35,num a.1)]) (fun a:Nat×List Ty×Int=>[.box [str X.mp,.slice (X.cE.map cz),.slice (X.decls.map aR),num X.idx,.ms 3 v 0 vs.length,num (a.2.2),.sc (.func (.func 85) #[] #[]),.sc (.func (.func 86) #[] #[]),.cX (.func 83) [] [.ptr 1 0]],.box [.mp 2],.map (js strVal 0 (dt (dw X.cE))) (dt (dw X.cE)).length,.rows v 1 (vs.map str),.box [num u.kind,str u.mod,str u.name,.ms 6 0 0 u.args.length,.ms 7 0 0 u.bD.length],.box [num 0,str ⟨#[]⟩,str ⟨#[]⟩,.sc (.slice none 0 0),.sc (.slice none 0 0)],.rows 0 5 (bc a.2.1),.rows 0 7 (cB u.bD),.hole,.hole]) (fun a=>u.args.length-a.1) (fun a=>a.1≤u.args.length∧a.2.1=(u.args.take a.1).map (Ty.res (gR X vs))++u.args.drop a.1∧a.2.2=(u.args.take a.1).foldl (fun a t=>t.fold (gR X vs) (sR X vs) a) e1) ((0,u.args,e1)) 10 (ea (by omega) (by simp only [ct,go_sem] <;> rfl)) (⟨bn _,by simp,rfl⟩) ?_;rintro⟨i,al,ei⟩ ⟨hi,has,mr⟩;try dsimp only at hi has mr
 try dsimp only
 intro Z3 xx;simp only [go_sem];refine bY (fun nI=>?_) (fun nI=>?_);·(have ca:i<u.args.length:=by simpa using nI);rw [nI];obtain⟨x,hx⟩:∃ x,u.args[i]?=some x:=⟨_,ak ca⟩;obtain⟨ma,fS⟩:=ny has hx;(have ga:((i:Nat):Int)<((u.args.length:Nat):Int):=by omega);have hw:=bx i (by omega);simp only [ga,bo,ma,aG,aq,hw,setRow,fS,go_sem];refine fO tt_ok cy [⟨.n,0,[],[],[]⟩,⟨.r,0,[],[0],[0]⟩,⟨.n,0,[],[],[]⟩,⟨.n,0,[],[],[]⟩,⟨.r,0,[],[],[]⟩,⟨.e,0,[],[3,4],[]⟩,⟨.r,0,[],[0,1,2,3,4,5],[]⟩,⟨.w,0,[],[0,1,2,3,4,5,6],[]⟩] 1 (by kernel_rfl) ?_;simp only [ga,bo,ma,aG,aq,hw,setRow,fS,go_sem];refine wN rfl rfl (s5 (gB x (Me x (aB hx)) ei) ⟨rfl,rfl,rfl,rfl,by decide⟩) ?_;rintro _ _ ⟨rfl,rfl⟩;simp only [ga,bo,ma,aG,aq,hw,setRow,fS,go_sem];refine xx _ ⟨(i+1,al.set i (x.res (gR X vs)),x.fold (gR X vs) (sR X vs) ei),?_,?_,ea (by omega) (by (simp [vt,lk,fX,iw,aA,aJ,aK,dM,gh,aG,aG,aq]; exact fun a b c h=>oC _ _ a b c h))⟩;(·exact⟨ca,jX has hx,by rw [iX hx,← mr]⟩);dsimp only; omega
 have ig:¬ i<u.args.length:=by simpa using nI
 have ju:i=u.args.length:=by omega
 have oD:al=u.args.map (Ty.res (gR X vs)):=by rw [has,ju]; simp
 subst oD;obtain⟨ej,Bk⟩:∃ y,y=ei:=⟨_,rfl⟩;have Bl:ej=u.args.foldl (fun a t=>t.fold (gR X vs) (sR X vs) a) e1:=by rw [Bk,mr,ju,ai]
 rw [← Bk];clear Bk mr;simp only [go_sem];refine sq tt_ok [1,14,30000] ?_;simp only [go_sem];refine ja tt_ok [1,14,30000] (fun a:Nat×List Fd×Int=>[(0,.ptr 0 0),(3,.ptr 4 0),(4,.ptr 5 0),(49,.ms 7 0 0 u.bD.length),(50,num u.bD.length),(51,num a.1)]) (fun a:Nat×List Fd×Int=>[.box [str X.mp,.slice (X.cE.map cz),.slice (X.decls.map aR),num X.idx,.ms 3 v 0 vs.length,num (a.2.2),.sc (.func (.func 85) #[] #[]),.sc (.func (.func 86) #[] #[]),.cX (.func 83) [] [.ptr 1 0]],.box [.mp 2],.map (js strVal 0 (dt (dw X.cE))) (dt (dw X.cE)).length,.rows v 1 (vs.map str),.box [num u.kind,str u.mod,str u.name,.ms 6 0 0 u.args.length,.ms 7 0 0 u.bD.length],.box [num 0,str ⟨#[]⟩,str ⟨#[]⟩,.sc (.slice none 0 0),.sc (.slice none 0 0)],.rows 0 5 (bc (u.args.map (Ty.res (gR X vs)))),.rows 0 7 (cB a.2.1),.hole,.hole]) (fun a=>u.bD.length-a.1) (fun a=>a.1≤u.bD.length∧a.2.1=(u.bD.take a.1).map (Fd.res (gR X vs))++u.bD.drop a.1∧a.2.2=(u.bD.take a.1).foldl (fun a f=>f.ty.fold (gR X vs) (sR X vs) a) ej) ((0,u.bD,ej)) 10 (ea (by omega) (by simp only [ct,go_sem] <;> rfl)) (⟨bn _,by simp,rfl⟩) ?_;rintro⟨i,al,ei⟩ ⟨hi,has,mr⟩;try dsimp only at hi has mr
 try dsimp only
 intro Z4 uC;simp only [go_sem];refine bY (fun xy=>?_) (fun xy=>?_);·(have ca:i<u.bD.length:=by simpa using xy);rw [xy];obtain⟨x,hx⟩:∃ x,u.bD[i]?=some x:=⟨_,ak ca⟩;obtain⟨ma,fS⟩:=ny has hx;(have ga:((i:Nat):Int)<((u.bD.length:Nat):Int):=by omega);have hw:=bx i (by omega);simp only [ga,bZ,ma,aG,aq,hw,setRow,fS,cp,go_sem];refine fO tt_ok cy [⟨.n,0,[],[],[]⟩,⟨.r,0,[],[0],[0]⟩,⟨.n,0,[],[],[]⟩,⟨.n,0,[],[],[]⟩,⟨.n,0,[],[],[]⟩,⟨.r,0,[],[4],[]⟩,⟨.e,0,[],[3,4,5],[]⟩,⟨.r,0,[],[0,1,2,3,4,5,6],[]⟩,⟨.n,0,[],[0,1,2,3,4,5,6,7],[]⟩,⟨.w,0,[],[0,1,2,3,4,5,6,7,8],[]⟩] 1 (by kernel_rfl) ?_;simp only [ga,bZ,ma,aG,aq,hw,setRow,fS,cp,go_sem];refine wN rfl rfl (s5 (gB x.ty (Rw x (aB hx)) ei) ⟨rfl,rfl,rfl,rfl,by decide⟩) ?_;rintro _ _ ⟨rfl,rfl⟩;simp only [ga,bZ,ma,aG,aq,hw,setRow,fS,cp,go_sem];refine uC _ ⟨(i+1,al.set i (x.res (gR X vs)),x.ty.fold (gR X vs) (sR X vs) ei),?_,?_,ea (by omega) (by (simp [vt,lk,fX,iw,aA,aJ,aK,kx,gh,cp,aG,aq,Fd.A7,Fd.A8,Fd.Lu]; exact fun a b c h=>oC _ _ a b c h))⟩;(·exact⟨ca,jX has hx,by rw [iX hx,← mr]⟩);dsimp only; omega
 have ZB:¬ i<u.bD.length:=by simpa using xy
 have ju:i=u.bD.length:=by omega
 have oD:al=u.bD.map (Fd.res (gR X vs)):=by rw [has,ju]; simp
 subst oD;have JV:ei=u.bD.foldl (fun a f=>f.ty.fold (gR X vs) (sR X vs) a) ej:=by rw [mr,ju,ai]
 rw [Bj,← Bl,← JV,Rx] at hK;simp only [go_sem];refine n4 (k:=4) (vs':=[num u.kind,str u.mod,str u.name,.slice (bc (u.args.map (Ty.res (gR X vs)))),.slice (cB (u.bD.map (Fd.res (gR X vs))))]) rfl (by simp [gx,gP,dC,lL,dM,kx,tkl]) ?_;refine N3 tt_ok [1,14,30000] ?_;simp only [go_sem];exact hK _ _ ⟨rfl,rfl⟩
end
theorem mT (X:Rv) (vs:List ByteArray) (v:Nat) (lf:X.decls.length≤1048576) (jC:vs.length≤1048576):∀ (N:Nat) (t:Ty),t.size≤N→N≤1048576→∀ e,bz af 87 [.ptr 0 0,cD t] (L4 X vs v e) (cD (t.res (gR X vs))) (L4 X vs v (t.fold (gR X vs) (sR X vs) e)):=by intro N;induction N with | zero=>intro t h; have:=t.size_pos; omega | succ N ih =>intro t hN hb e;have y8:=t.fp;(obtain⟨_,_,⟨rfl,rfl⟩,h⟩:=JT X vs v e lf jC t (by omega) (by omega) fun p hp=>by obtain⟨i,hi⟩:=cq.1 hp;have e1:=cu Ty.size hi;have e2:=t.dj;exact ih p (by omega) (by omega));exact h
end
section
theorem ZC (mem:List bm) (ks:List (Nat×Nat)) (cs:List V):bT mem ks (.fa cs)=ck mem ks:=rfl
theorem Ry (loc:List ByteArray) (n:ByteArray):bR af 200 [gw loc,.slice [str n]] (.fa [str n,gw loc]):=by obtain⟨_,rfl,h⟩:=Ba loc [n] (by simp);exact h
theorem ZD (loc:List ByteArray) (n t:ByteArray):bR af 200 [gw loc,.slice [str n,str t]] (.fa [str t,.fa [str n,gw loc]]):=by obtain⟨_,rfl,h⟩:=Ba loc [n,t] (by simp);exact h
theorem aeh {k:Int} {ls:List Lb} {n t:ByteArray} {nk:Nat} {loc:List ByteArray} {i:Nat} (h:(decide (k=8)&&decide ((i:Int)=(nk:Int)-1))=true):oH k ls n t nk loc i=(ls.map Lb.name).reverse++loc:=by simp only [aL,decide_eq_true_eq] at h;unfold oH; rw [if_pos ⟨h.1,by omega⟩]
theorem ZE {k:Int} {ls:List Lb} {n t:ByteArray} {nk:Nat} {loc:List ByteArray} {i:Nat} (h:(decide (k=8)&&decide ((i:Int)=(nk:Int)-1))=false):oH k ls n t nk loc i =
  if k=10∧i=1 then n :: loc else if k=13∧0<i then ((ls[i-1]?).elim ⟨#[]⟩ Lb.var) :: loc else if k=15∧i=2 then t :: n :: loc else loc:=by
 have:¬ (k=8∧i+1=nk):=fun ⟨h1,h2⟩=>by rw [decide_eq_true h1,decide_eq_true (by omega)] at h; cases h
 unfold oH; rw [if_neg this]
theorem Rz {p q:Prop} [Decidable p] [Decidable q] (h:(decide p&&decide q)=true):p∧q:=by simpa using h
theorem RA {p q:Prop} [Decidable p] [Decidable q] (h:(decide p&&decide q)=false):¬ (p∧q):=by simpa using h
theorem ajW (n:Nat):((n:Int)=1)=(n=1):=by rw [eq_iff_iff]; omega
theorem ajX (n:Nat):((n:Int)=2)=(n=2):=by rw [eq_iff_iff]; omega
theorem ajY (n:Nat):(0<(n:Int))=(0<n):=by rw [eq_iff_iff]; omega
section
attribute [local go_sem] ab
theorem JW (ls:List Lb) (nl:Nat) (Lq:ls.length=nl) (hl:ls.length≤1048576):∃ r_,(fun w=>w = .slice ((ls.map Lb.name).map str)) r_∧bz af 201 [.ms 0 0 0 nl] ([.rows 0 8 (ls.map cg)]) r_ ([.rows 0 8 (ls.map cg)]):=by
 refine yh tt_ok [2,7] 19 [.tmp 2] (fn:=Tryz.f201) Tryz.func201 rfl Tryz.call201 ⟨rfl,rfl,by simp⟩ fun K hK=>?_;subst Lq;simp only [bO,go_sem];refine Y4 3 0 1 (by decide) rfl ?_;refine N3 tt_ok [2,7] ?_;simp only [bO,go_sem];refine ja tt_ok [2,7] (fun a:Nat×Nat=>[(3,.ms 1 a.2 0 (ls.take a.1).length),(6,.ms 0 0 0 ls.length),(7,num ls.length),(8,num a.1)]) (fun a:Nat×Nat=>[.rows 0 8 (ls.map cg),.rows a.2 1 ((ls.take a.1).map fun x=>str x.name)]) (fun a=>ls.length-a.1) (fun a=>a.1≤ls.length) ((0,0)) 2 (ea (by omega) (by simp only [bO,e8,cP,aI,ct,go_sem] <;> rfl)) (bn _) ?_;intro ⟨i,w⟩ hi;try dsimp only at hi
 try dsimp only
 intro Z1 eh;simp only [bO,go_sem];refine bY (fun ka=>?_) (fun ka=>?_);·(have qF:i<ls.length:=by simpa using ka);have gL:=bx i (by omega);obtain⟨x,hx⟩:∃ x,ls[i]?=some x:=⟨_,ak qF⟩;(have qU:ls.take (i+1)=ls.take i++[x]:=by rw [br,hx]; rfl);(have gK:(ls.take i).length+1≤34359738368:=by rw [cd]; omega);(have ga:((i:Nat):Int)<((ls.length:Nat):Int):=by omega);simp only [ga,gL,hx,ae,gK,cg,aq,au,ax,bO,go_sem];refine eh _ ⟨(i+1,w+1),?_,?_,ea (by omega) (by (simp only [gL,qU,aed,Xi,go_sem]))⟩;(·exact qF);dsimp only; omega
 have JQ:i=ls.length:=by have h_:¬ i<ls.length:=(by simpa using ka); omega
 rw [JQ,ai];simp only [bO,go_sem];refine aiJ (v':=.slice ((ls.map Lb.name).map str)) 3 (by decide) rfl (by simp [lk,gP,dC,lL,aX]) ?_;refine N3 tt_ok [2,7] ?_;simp only [bO,go_sem];exact hK _ _ ⟨rfl,rfl⟩
end
theorem JX (ls:List Lb) (nl:Nat) (Lq:ls.length=nl) (hl:ls.length≤1048576) {M:List bm} {k:Nat} (hM:M[k]?=some (.rows 0 8 (ls.map cg))):∃ r_,(fun w=>w = .slice ((ls.map Lb.name).map str)) r_∧bz af 201 [.ms k 0 0 nl] M r_ M:=by obtain⟨_,rfl,h⟩:=JW ls nl Lq hl;have h2:=bz.keys (mem:=[.rows 0 8 (ls.map cg)]) (B:=.rows 0 8 (ls.map cg)) (j0:=0) h M [k] rfl (by simp) (by simp) (by simp [aA]) rfl rfl rfl (fun i B hi=>by (rcases i with _ | i);(·cases hi; exact hM);simp at hi);have e:M.set (n5 [k] M.length 0) (nG (n5 [k] M.length) (.rows 0 8 (ls.map cg)))=M:=qA hM;rw [e] at h2;exact⟨_,rfl,h2⟩
section
attribute [local go_sem] aC ab qo ZC ck eU
attribute [local go_sem ↓] wg wh
theorem JY (k:Int) (m n tx:ByteArray) (j:Int) (ts:List V) (ls:List Lb) (ks:List V) (loc:List ByteArray) (i nt nl nk:Nat) (Lq:ls.length=nl) (hl:nl≤1048576) (hk:nk≤1048576) (hi:i<nk) (tO:k=13→nk≤nl+1):∃ r_,(fun w=>w=gw (oH k ls n tx nk loc i)) r_∧bz af 145 [.agg [num k,str m,str n,str tx,num j,.ms 0 0 0 nt,.ms 1 0 0 nl,.ms 2 0 0 nk],gw loc,num i] ([.rows 0 5 ts,.rows 0 8 (ls.map cg),.rows 0 8 ks]) r_ ([.rows 0 5 ts,.rows 0 8 (ls.map cg),.rows 0 8 ks]):=by
 refine yh tt_ok [1,3,5,7] 71 [.tmp 6] (fn:=Tryz.f145) Tryz.func145 rfl Tryz.call145 ⟨rfl,rfl,by simp⟩ fun K hK=>?_;have eo:IntKind.i64.wrap ((nk:Int)-1)=(nk:Int)-1:=IntWalk.i64_in _ (by omega);have gL:IntKind.i64.wrap ((i:Int)-1)=(i:Int)-1:=IntWalk.i64_in _ (by omega);simp only [eo,gL,go_sem];refine ia tt_ok [1,3,5,7] [7] 4 [0,1,2,3,6] (fun vs=>vs=[bl (decide (k=8)&&decide ((i:Int)=(nk:Int)-1))]) (fun Z1 eh=>?_) ?_;·simp only [eo,gL,go_sem];refine l5 tt_ok ?_;simp only [eo,gL,go_sem];refine bY (fun fP=>?_) (fun fP=>?_);(·simp only [eo,gL,go_sem];refine eh _ (dG (by omega) (by simp only [eo,gL,go_sem]) ?_);simp only [eW,lk,reduceIte,zE];exact congrArg (fun b=>[bl b]) (by clear hK eh; simp_all));simp only [eo,gL,go_sem];refine eh _ (dG (by omega) (by simp only [eo,gL,go_sem]) ?_);simp only [eW,lk,reduceIte,zE];exact congrArg (fun b=>[bl b]) (by clear hK eh; simp_all)
 intro vs hJ;obtain rfl:=hJ;simp only [eo,gL,go_sem];refine bY (fun AJ=>?_) (fun AJ=>?_);·have bU:=aeh (ls:=ls) (n:=n) (t:=tx) (loc:=loc) AJ;simp only [eo,gL,go_sem];refine cS (JX ls nl Lq (by omega) rfl) ?_;rintro _ rfl;simp only [eo,gL,go_sem];refine cF (Ba loc (ls.map Lb.name) (by rw [ab]; omega)) ?_;rintro _ rfl;simp only [eo,gL,go_sem];exact hK _ _ ⟨by rw [bU] <;> rfl,rfl⟩
 have h8:=ZE (ls:=ls) (n:=n) (t:=tx) (loc:=loc) AJ;simp only [← ajW,← ajX,← ajY] at h8;simp only [eo,gL,go_sem];refine ia tt_ok [1,3,5,7] [24] 4 [0,1,2,3,6,7,8,9,10,11,12,13,14,15,16,17,18,19,20,21,22,23] (fun vs=>vs=[bl (decide (k=10)&&decide ((i:Int)=1))]) (fun Z2 mR=>?_) ?_;·simp only [eo,gL,go_sem];refine l5 tt_ok ?_;simp only [eo,gL,go_sem];refine bY (fun RB=>?_) (fun RB=>?_);(·simp only [eo,gL,go_sem];refine mR _ (dG (by omega) (by simp only [eo,gL,go_sem]) ?_);simp only [eW,lk,reduceIte,zE];exact congrArg (fun b=>[bl b]) (by clear hK mR; simp_all));simp only [eo,gL,go_sem];refine mR _ (dG (by omega) (by simp only [eo,gL,go_sem]) ?_);simp only [eW,lk,reduceIte,zE];exact congrArg (fun b=>[bl b]) (by clear hK mR; simp_all)
 intro vs hJ;obtain rfl:=hJ;simp only [eo,gL,go_sem];refine bY (fun JZ=>?_) (fun JZ=>?_);·have bU:=h8;rw [if_pos (Rz JZ)] at bU;simp only [eo,gL,go_sem];refine cF (⟨_,rfl,Ry loc n⟩) ?_;rintro _ rfl;simp only [eo,gL,go_sem];exact hK _ _ ⟨by rw [bU] <;> rfl,rfl⟩
 rw [if_neg (RA JZ)] at h8;simp only [eo,gL,go_sem];refine ia tt_ok [1,3,5,7] [37] 4 [0,1,2,3,6,7,8,9,10,11,12,13,14,15,16,17,18,19,20,21,22,23,24,25,26,27,28,29,30,31,32,33,34,35,36] (fun vs=>vs=[bl (decide (k=13)&&decide (0<(i:Int)))]) (fun Z3 xx=>?_) ?_;·simp only [eo,gL,go_sem];refine l5 tt_ok ?_;simp only [eo,gL,go_sem];refine bY (fun Hy=>?_) (fun Hy=>?_);(·simp only [eo,gL,go_sem];refine xx _ (dG (by omega) (by simp only [eo,gL,go_sem]) ?_);simp only [eW,lk,reduceIte,zE];exact congrArg (fun b=>[bl b]) (by clear hK xx; simp_all));simp only [eo,gL,go_sem];refine xx _ (dG (by omega) (by simp only [eo,gL,go_sem]) ?_);simp only [eW,lk,reduceIte,zE];exact congrArg (fun b=>[bl b]) (by clear hK xx; simp_all)
 intro vs hJ;obtain rfl:=hJ;simp only [eo,gL,go_sem];refine bY (fun Eo=>?_) (fun Eo=>?_);·have h37:=Rz Eo;have IQ:=tO h37.1;obtain⟨y,hy⟩:∃ y,ls[i-1]?=some y:=⟨_,ak (by omega)⟩;have bU:=h8;rw [if_pos h37,hy] at bU;(have hci:(i:Int)-1=((i-1:Nat):Int):=by omega);(have RC:((i-1:Nat):Int)<(nl:Int):=by omega);have kZ:IntKind.i64.wrap ((i-1:Nat):Int)=((i-1:Nat):Int):=IntWalk.i64_in _ (by omega);simp only [hci,RC,kZ,hy,ae,cg,aq,au,ax,eo,gL,go_sem];refine cF (⟨_,rfl,Ry loc y.var⟩) ?_;rintro _ rfl;simp only [hci,RC,kZ,hy,ae,cg,aq,au,ax,eo,gL,go_sem];exact hK _ _ ⟨by rw [bU] <;> rfl,rfl⟩
 rw [if_neg (RA Eo)] at h8;simp only [eo,gL,go_sem];refine ia tt_ok [1,3,5,7] [55] 4 [0,1,2,3,6,7,8,9,10,11,12,13,14,15,16,17,18,19,20,21,22,23,24,25,26,27,28,29,30,31,32,33,34,35,36,37,38,39,40,41,42,43,44,45,46,47,48,49,50,51,52,53,54] (fun vs=>vs=[bl (decide (k=15)&&decide ((i:Int)=2))]) (fun Z4 uC=>?_) ?_;·simp only [eo,gL,go_sem];refine l5 tt_ok ?_;simp only [eo,gL,go_sem];refine bY (fun RD=>?_) (fun RD=>?_);(·simp only [eo,gL,go_sem];refine uC _ (dG (by omega) (by simp only [eo,gL,go_sem]) ?_);simp only [eW,lk,reduceIte,zE];exact congrArg (fun b=>[bl b]) (by clear hK uC; simp_all));simp only [eo,gL,go_sem];refine uC _ (dG (by omega) (by simp only [eo,gL,go_sem]) ?_);simp only [eW,lk,reduceIte,zE];exact congrArg (fun b=>[bl b]) (by clear hK uC; simp_all)
 intro vs hJ;obtain rfl:=hJ;simp only [eo,gL,go_sem];refine bY (fun J0=>?_) (fun J0=>?_);·have bU:=h8;rw [if_pos (Rz J0)] at bU;simp only [eo,gL,go_sem];refine cF (⟨_,rfl,ZD loc n tx⟩) ?_;rintro _ rfl;simp only [eo,gL,go_sem];exact hK _ _ ⟨by rw [bU] <;> rfl,rfl⟩
 have bU:=h8;rw [if_neg (RA J0)] at bU;simp only [eo,gL,go_sem];exact hK _ _ ⟨by rw [bU] <;> rfl,rfl⟩
end
theorem Bm (k:Int) (m n tx:ByteArray) (j:Int) (ts:List V) (ls:List Lb) (ks:List V) (loc:List ByteArray) (i nt nl nk:Nat) (Lq:ls.length=nl) (hl:nl≤1048576) (hk:nk≤1048576) (hi:i<nk) (tO:k=13→nk≤nl+1) {M:List bm} {B0:bm} {k0 a b c:Nat}
  (h0:M[k0]?=some B0) (hv:B0.dV=0) (ha:M[a]?=some (.rows 0 5 ts)) (hb:M[b]?=some (.rows 0 8 (ls.map cg))) (hc:M[c]?=some (.rows 0 8 ks)) (mf:[a,b,c].Nodup) :
  ∃ r_ B_,(fun r B=>r=gw (oH k ls n tx nk loc i)∧B=B0) r_ B_∧B_.dV=0∧bz af 145 [.agg [num k,str m,str n,str tx,num j,.ms a 0 0 nt,.ms b 0 0 nl,.ms c 0 0 nk],gw loc,num i] M r_ (M.set k0 B_):=by obtain⟨_,rfl,h⟩:=JY k m n tx j ts ls ks loc i nt nl nk Lq hl hk hi tO;have h2:=bz.keys (mem:=[.rows 0 5 ts,.rows 0 8 (ls.map cg),.rows 0 8 ks]) (B:=.rows 0 5 ts) (j0:=0) h M [a,b,c] rfl mf (by simp) (by simp [aA,aK,aC]) rfl rfl (aC _ _) (fun i B hi=>by (rcases i with _ | _ | _ | i);(·cases hi; exact ha);(·cases hi; exact hb);(·cases hi; exact hc);simp at hi);have e:M.set (n5 [a,b,c] M.length 0) (nG (n5 [a,b,c] M.length) (.rows 0 5 ts))=M:=qA ha;rw [e] at h2;refine⟨_,_,⟨rfl,rfl⟩,hv,?_⟩;rw [qA h0];simpa [j9,fR,n5,k8] using h2
end
end Go.Proofs.YtnboooapeopjoaaGreatDoor
end
