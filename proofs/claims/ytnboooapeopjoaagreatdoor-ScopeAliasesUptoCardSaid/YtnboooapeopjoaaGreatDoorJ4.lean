import Derived.Test.YtnboooapeopjoaaGreatDoorJ3
open Array renaming toList_inj→aeq
open Bool renaming and_eq_true→aN,and_true→aK,eq_false_iff→anp,eq_iff_iff→ae4,or_false→a7,or_true→bf
open ByteArray renaming ext→anB
open Go.Proofs.Tryz renaming prog→ab
open Int renaming cast_ofNat_Int→bD
open List renaming all_append→Ga,all_cons→cA,all_eq_true→aY,all_nil→dA,append_assoc→AP,append_nil→ou,cons_append→aj,drop_eq_getElem_cons→cQ,ext_getElem?→di,flatMap_append→am8,flatMap_cons→gq,foldl_append→Y6,foldl_cons→eZ,getElem?_append_left→bm,getElem?_append_right→aW,getElem?_cons_zero→fb,getElem?_drop→Yx,getElem?_eq_getElem→ah,getElem?_eq_some_iff→ax,getElem?_map→ae,getElem?_set→bw,headD_cons→cM,length_append→ch,length_cons→aD,length_map→ag,length_nil→aM,length_set→ov,length_singleton→anv,length_take→dz,map_append→j8,map_cons→cB,map_nil→dY,map_set→df,mem_append→fI,mem_append_left→dU,mem_append_right→dG,mem_cons→cp,mem_cons_of_mem→bh,mem_flatMap→gU,mem_iff_getElem?→bL,mem_map→cu,mem_of_getElem?→ay,mem_or_eq_of_mem_set→aoa,mem_singleton→fO,nil_append→ak,replicate_succ→aE,replicate_zero→aF,set_append_right→ep,set_cons_succ→il,set_cons_zero→eI,take_add_one→bC,take_append_drop→u4,take_left→pJ,take_length→au,take_of_length_le→bE,take_zero→mQ
open Nat renaming add_sub_cancel_left→dM,le_refl→aw,lt_or_ge→bW,lt_succ_self→kW,min_eq_left→am9,not_lt_zero→iK,sub_self→c5,sub_zero→Qw,zero_add→ct,zero_le→bx
open Option renaming getD_none→anL,getD_some→amY,isNone_none→Yy,isSome_none→anT,isSome_some→anU,map_none→amZ,map_some→bz,toList_some→lY
open Option.some renaming inj→tu,injEq→aB
set_option linter.all false
section
namespace Go.Proofs.YtnboooapeopjoaaGreatDoor
open Go.Eng
variable [a6]
open Nat renaming reduceAdd → zA, reduceLT → zB, reduceLeDiff → zC, reduceMul → zD, reduceEqDiff → zE, reduceSub → zF
set_option maxHeartbeats 4000000
set_option maxRecDepth 100000
section
section
variable {α:Type} [DecidableEq α]
def iF (kv:α→Value):Nat→List (α×V)→List (Value×Nat×V)
 | _,[]=>[]
 | n,(k,v) :: r=>(kv k,n,v) :: iF kv (n+1) r
theorem y8 (kv:α→Value):∀ (g:List (α×V)) (n:Nat),(iF kv n g).length=g.length
 | [],_=>rfl
 | _ :: r,n=>by simp [iF,y8 kv r (n+1)]
theorem Jc (kv:α→Value):∀ (g:List (α×V)) (n i:Nat),(iF kv n g)[i]?=g[i]?.map fun e=>(kv e.1,n+i,e.2)
 | [],_,_=>rfl
 | e :: r,n,0=>rfl
 | e :: r,n,i+1=>by
  show (iF kv (n+1) r)[i]?=_
  rw [Jc kv r (n+1) i,show n+1+i=n+(i+1) by omega]; rfl
theorem EV (kv:α→Value) (k:α) (v:V):∀ (g:List (α×V)) (n:Nat),iF kv n (g++[(k,v)])=iF kv n g++[(kv k,n+g.length,v)]
 | [],_=>rfl
 | e :: r,n=>by
  show (kv e.1,n,e.2) :: iF kv (n+1) (r++[(k,v)])=(kv e.1,n,e.2) :: (iF kv (n+1) r++_)
  rw [EV kv k v r (n+1),aD,show n+1+r.length=n+(r.length+1) by omega]
theorem Jd (kv:α→Value) (k:α) (v:V):∀ (g:List (α×V)) (n i:Nat),i<g.length→iF kv n (g.set i (k,v))=(iF kv n g).set i (kv k,n+i,v)
 | [],_,_,h=>by simp at h
 | e :: r,n,0,_=>rfl
 | e :: r,n,i+1,h=>by
  show (kv e.1,n,e.2) :: iF kv (n+1) (r.set i (k,v))=(kv e.1,n,e.2) :: (iF kv (n+1) r).set i _
  rw [Jd kv k v r (n+1) i (by simpa using h),show n+1+i=n+(i+1) by omega]
theorem CK (kv:α→Value) (p:V→Bool):∀ (g:List (α×V)) (n:Nat),((iF kv n g).all fun e=>p e.2.2)=g.all fun e=>p e.2
 | [],_=>rfl
 | _ :: r,n=>by simp [iF,CK kv p r (n+1)]
def km (a:α):List (α×V)→Nat→Option (Nat×V)
 | [],_=>none
 | e :: r,i=>if e.1=a then some (i,e.2) else km a r (i+1)
def getM (a:α):List (α×V)→Option V
 | []=>none
 | e :: r=>if e.1=a then some e.2 else getM a r
theorem Bj (a:α):∀ (g:List (α×V)) (i:Nat),(km a g i).map (·.2)=getM a g
 | [],_=>rfl
 | e :: r,i=>by
  unfold km getM
  split
  ·rfl
  exact Bj a r (i+1)
theorem ux {a:α}:∀ {g:List (α×V)} {n i:Nat} {v:V},km a g n=some (i,v)→n≤i∧g[i-n]?=some (a,v)
 | [],_,_,_,h=>by simp [km] at h
 | e :: r,n,i,v,h=>by
  unfold km at h
  split at h
  ·rename_i he; cases h; subst he; simp
  obtain⟨h1,h2⟩:=ux h
  refine⟨by omega,?_⟩
  rw [show i-n=(i-(n+1))+1 by omega]; simpa using h2
structure KT (P:Program) (T kt et:TypeId) (kv:α→Value) (ky:α→V):Prop where
 map:iv P T=some (kt,et)
 val:∀ a,fw (ky a)=some (kv a)
 ok:∀ a,sh P kt (kv a)=true
 bits:∀ a,Instr.sameBits 10000 (kv a) (kv a)=true
 find:∀ (a:α) (g:List (α×V)),oz P kt (kv a) (iF kv 0 g)=some (km a g 0)
theorem KT.now {P:Program} {kt:TypeId} {kv:α→Value} {d:TypeDesc} (hd:P.underlying kt=some d) (h:∀ a b,Instr.sameNow d (kv a) (kv b)=some (decide (b=a))) (a:α) (g:List (α×V)):oz P kt (kv a) (iF kv 0 g)=some (km a g 0):=by
 have key:∀ (g:List (α×V)) (n i:Nat),gr d (kv a) (iF kv n g) i=some (km a g i):=by intro g;induction g with | nil=>intro n i; rfl | cons e r ih =>intro n i;obtain⟨k,v⟩:=e;simp only [iF,gr,km,h];by_cases hk:k=a;(·simp [hk]);rw [decide_eq_false hk,if_neg hk]; exact ih _ _
 unfold oz;rw [hd];dsimp only;rw [key]
section
variable {P:Program} {T kt et:TypeId} {kv:α→Value} {ky:α→V}
def EW (a:α) (v:V) (g:List (α×V)):List (α×V):=match km a g 0 with
 | none=>g++[(a,v)]
 | some (i,_)=>g.set i (a,v)
theorem KT.put (h:KT P T kt et kv ky) (a:α) (v:V) (g:List (α×V)) {mem:List ba} {b:Nat} (hm:mem[b]?=some (.map (iF kv 0 g) g.length)) :
  dt P mem T (.mp b) (ky a) v=some (mem.set b (.map (iF kv 0 (EW a v g)) (EW a v g).length)):=by unfold dt;rw [h.map];dsimp only;rw [h.val];dsimp only;rw [if_pos (h.ok a),hm];dsimp only;unfold insertAt;rw [h.find];unfold EW;cases hf:km a g 0 with | none =>dsimp only;rw [EV,ct,ch,anv] | some p =>obtain⟨i,w⟩:=p;obtain⟨-,h2⟩:=ux hf;rw [Qw] at h2;dsimp only;rw [Jc,h2];dsimp only [bz];rw [if_pos (h.bits a)];dsimp only;rw [Jd _ _ _ _ _ _ (ax.1 h2).1,ov]
theorem KT.get (h:KT P T kt et kv ky) (a:α) (g:List (α×V)) {mem:List ba} {b:Nat} (hm:mem[b]?=some (.map (iF kv 0 g) g.length)) {z:V} (hz:zeroV P et=some z) (ok:Bool) :
  jV P mem T (.mp b) (ky a) ok=some (QA ok (getM a g).isSome ((getM a g).getD z)):=by unfold jV;rw [h.map];dsimp only;rw [h.val];dsimp only;rw [if_pos (h.ok a)];unfold oA;dsimp only;rw [hm];dsimp only;rw [h.find,← Bj a g 0];cases hf:km a g 0 with | none=>dsimp only; rw [hz]; rfl | some p=>rfl
end
end
end
def strVal (s:ByteArray):Value:=.string s
theorem Uz {T et:TypeId} (h:iv ab T=some (9,et)):KT ab T 9 et strVal str :=
 ⟨h,fun _=>rfl,fun a=>by unfold sh; rw [Tryz.underlying9],fun a=>(Bb a a).2 rfl,
  KT.now Tryz.underlying9 fun a b=>by
   show some (a==b)=some (decide (b=a))
   congr 1
   rw [ae4,Bb,decide_eq_true_eq]
   exact⟨fun h=>h.symm,fun h=>h.symm⟩⟩
theorem W2:iv ab 164=some (9,4):=by kernel_rfl
theorem aa3:KT ab 164 9 4 strVal str:=Uz W2
abbrev GN:=List (ByteArray×V)
def uy (g:GN) (x:ByteArray):GN:=EW x (bl true) g
def eg (g:GN) (l:List ByteArray):GN:=l.foldl uy g
theorem Sc (g:GN) (x:ByteArray) {mem:List ba} {b:Nat} (hm:mem[b]?=some (.map (iF strVal 0 g) g.length)):dt ab mem 164 (.mp b) (str x) (bl true)=some (mem.set b (.map (iF strVal 0 (uy g x)) (uy g x).length)):=aa3.put x (bl true) g hm
structure NG (g:GN):Prop where
 W3:∀ e∈g,e.2=bl true
 nodup:(g.map fun e=>e.1).Nodup
theorem sW {a:ByteArray}:∀ {g:GN} {n:Nat},km a g n=none→∀ e∈g,e.1≠a
 | [],_,_,e,he=>by cases he
 | c :: r,n,h,e,he=>by
  unfold km at h
  split at h
  ·cases h
  rename_i dK
  rcases cp.1 he with rfl | he
  ·exact dK
  exact sW h e he
theorem NG.nil:NG []:=⟨fun e he=>(by cases he),List.nodup_nil⟩
theorem EX {g:GN} {i:Nat} {x:ByteArray} {v w:V} (h:g[i]?=some (x,v)):(g.set i (x,w)).map (fun e=>e.1)=g.map fun e=>e.1:=by
 rw [df];apply di;intro j;rw [bw];split;·rename_i Gd; subst Gd;have bX:=(ax.1 h).1;rw [if_pos (by simpa using bX),ae,h]; rfl
 rfl
theorem NG.add {g:GN} (h:NG g) (x:ByteArray):NG (uy g x)∧(∀ k,k∈(uy g x).map (fun e=>e.1)↔k=x∨k∈g.map fun e=>e.1)∧(uy g x).length≤g.length+1:=by unfold uy EW;cases hf:km x g 0 with | none =>(dsimp only;refine⟨⟨fun e he=>?_,?_⟩,fun k=>?_,by simp⟩;(·(rcases fI.1 he with he | he);(·exact h.W3 e he);rw [fO] at he; subst he; rfl);(·rw [j8,List.nodup_append];refine⟨h.nodup,by simp,fun a ha b hb=>?_⟩;obtain⟨e,he,rfl⟩:=cu.1 ha;simp only [cB,dY,fO] at hb; subst hb;exact sW hf e he);rw [j8,fI];simp only [cB,dY,fO];exact Or.comm) | some p =>obtain⟨i,v⟩:=p;obtain⟨-,h2⟩:=ux hf;rw [Qw] at h2;dsimp only;refine⟨⟨fun e he=>?_,?_⟩,fun k=>?_,by simp⟩;(·(rcases aoa he with he | rfl);(·exact h.W3 e he);rfl);(·rw [EX h2]; exact h.nodup);rw [EX h2];constructor;(·exact .inr);rintro (rfl | h);(·exact cu.2 ⟨_,ay h2,rfl⟩);exact h
theorem NG.eg:∀ {l:List ByteArray} {g:GN},NG g→NG (eg g l)∧(∀ k,k∈(eg g l).map (fun e=>e.1)↔k∈l∨k∈g.map fun e=>e.1)∧(eg g l).length≤g.length+l.length
 | [],g,h=>⟨h,fun k=>⟨.inr,fun h=>h.resolve_left (by simp)⟩,by simp [Go.Proofs.YtnboooapeopjoaaGreatDoor.eg]⟩
 | x :: l,g,h=>by
  obtain⟨h1,h2,h3⟩:=h.add x
  obtain⟨h4,h5,h6⟩:=NG.eg (l:=l) h1
  refine⟨h4,fun k=>?_,by have:Go.Proofs.YtnboooapeopjoaaGreatDoor.eg g (x :: l)=Go.Proofs.YtnboooapeopjoaaGreatDoor.eg (uy g x) l:=rfl; rw [this,aD]; omega⟩
  have:Go.Proofs.YtnboooapeopjoaaGreatDoor.eg g (x :: l)=Go.Proofs.YtnboooapeopjoaaGreatDoor.eg (uy g x) l:=rfl
  rw [this,h5 k,h2 k,cp]
  constructor
  ·rintro (h | h | h)
   ·exact .inl (.inr h)
   ·exact .inl (.inl h)
   exact .inr h
  rintro ((h | h) | h)
  ·exact .inr (.inl h)
  ·exact .inl h
  exact .inr (.inr h)
theorem EY {α:Type} (f:α→ByteArray) (g:GN) {l:List α} {i:Nat} {x:α} (h:l[i]?=some x):eg g ((l.take (i+1)).map f)=uy (eg g ((l.take i).map f)) (f x):=by unfold eg;rw [bC,h,j8,Y6]; rfl
theorem NG.below {g:GN} (h:NG g) (n:Nat):((iF strVal 0 g).all fun e=>aH n e.2.2)=true:=by rw [CK strVal (aH n),aY];intro e he;rw [h.W3 e he]; rfl
def vN:List ByteArray→Bool
 | []=>false
 | a :: r=>ma a r||vN r
theorem Je (x:ByteArray) (l m:List ByteArray):ma x (l++m)=(ma x l||ma x m):=by unfold ma; rw [List.any_append]
theorem Bk (x:ByteArray):∀ l:List ByteArray,vN (l++[x])=(vN l||ma x l)
 | []=>rfl
 | a :: r=>by
  have e1:ma a [x]=ma x [a]:=by
   unfold ma
   simp only [List.any_cons,List.any_nil,a7]
   by_cases h:a=x
   ·rw [decide_eq_true h,decide_eq_true h.symm]
   rw [decide_eq_false h,decide_eq_false fun e=>h e.symm]
  have e2:ma x (a :: r)=(ma x [a]||ma x r):=Je x [a] r
  simp only [aj,vN,Bk x r,Je,e1,e2]
  cases ma a r <;> cases ma x [a] <;> cases vN r <;> cases ma x r <;> rfl
theorem N3 (g:GN) (x:ByteArray):(x∈g.map (fun e=>e.1)→(uy g x).length=g.length)∧(x ∉ g.map (fun e=>e.1)→(uy g x).length=g.length+1):=by unfold uy EW;cases hf:km x g 0 with | none =>dsimp only;refine⟨fun h=>?_,fun _=>by simp⟩;obtain⟨e,he,hx⟩:=cu.1 h;exact absurd hx (sW hf e he) | some p =>obtain⟨i,v⟩:=p;obtain⟨-,h2⟩:=ux hf;rw [Qw] at h2;dsimp only;exact⟨fun _=>by rw [ov],fun h=>absurd (cu.2 ⟨_,ay h2,rfl⟩) h⟩
theorem EZ (l:List ByteArray):∀ m:List ByteArray,(eg [] l).length≤l.length→decide ((eg [] l).length<l.length)=vN l→(eg [] (l++m)).length≤(l++m).length∧decide ((eg [] (l++m)).length<(l++m).length)=vN (l++m):=by intro m;induction m generalizing l with | nil=>intro h1 h2; rw [ou]; exact⟨h1,h2⟩ | cons x m ih =>intro h1 h2;(have e0:l++x :: m=(l++[x])++m:=by simp);(have e:eg [] (l++[x])=uy (eg [] l) x:=by unfold eg; rw [Y6]; rfl);(have hm:x∈(eg [] l).map (fun e=>e.1)↔x∈l:=by have:=(NG.eg (l:=l) NG.nil).2.1 x;simpa using this);have hl:=N3 (eg [] l) x;rw [e0];refine ih (l++[x]) ?_ ?_;(·rw [e,ch,anv];by_cases hx:x∈l;(·rw [hl.1 (hm.2 hx)]; omega);rw [hl.2 fun h=>hx (hm.1 h)]; omega);rw [e,Bk,← h2,ch,anv];by_cases hx:x∈l;(·rw [hl.1 (hm.2 hx),xG.2 hx,bf];exact decide_eq_true (by omega));have hb:ma x l=false:=anp.2 fun h=>hx (xG.1 h);rw [hl.2 fun h=>hx (hm.1 h),hb,a7];congr 1;rw [eq_iff_iff]; omega
theorem Hw (l:List ByteArray):(eg [] l).length≤l.length∧decide ((eg [] l).length<l.length)=vN l:=EZ [] l (aw _) rfl
theorem Sd {mem:List ba} {b:Nat} (g:GN) (c:Nat) (hm:mem[b]?=some (.map (iF strVal 0 g) c)):vh mem #[164] ab [.mp b]=some (num g.length):=by
 unfold vh;have h:iv ab 164=some (9,4):=by kernel_rfl
 simp [h,hm,y8]
theorem agJ:iv ab 128=some (9,9):=by kernel_rfl
theorem ktS:KT ab 128 9 9 strVal str:=Uz agJ
section
def Ex.own (e:Ex):List Ty:=e.types++if e.kind=8 then e.labels.map Lb.ty else []
mutual
def Ex.size:Ex→Nat
 | .mk k _ _ _ _ ts ls ks=>1+aZ Ty.size (ts++if k=8 then ls.map Lb.ty else [])+xI ks
def xI:List Ex→Nat
 | []=>0
 | e :: r=>e.size+xI r
end
mutual
def Ex.nodes:Ex→List Ex
 | .mk k m n t i ts ls ks=>.mk k m n t i ts ls ks :: uz ks
def uz:List Ex→List Ex
 | []=>[]
 | e :: r=>e.nodes++uz r
end
theorem E4 (ts:List Ex):uz ts=ts.flatMap Ex.nodes:=by induction ts with | nil=>rfl | cons t r ih=>simp [uz,ih]
theorem Hx (ts:List Ex):xI ts=aZ Ex.size ts:=by induction ts with | nil=>rfl | cons t r ih=>simp [xI,aZ,ih]
theorem Ex.dD (t:Ex):t.nodes=t :: t.kids.flatMap Ex.nodes:=by obtain⟨k,m,n,x,i,ts,ls,ks⟩:=t;simp only [Ex.nodes,Ex.kids,E4]
theorem Ex.size_eq (t:Ex):t.size=1+aZ Ty.size t.own+aZ Ex.size t.kids:=by obtain⟨k,m,n,x,i,ts,ls,ks⟩:=t;rw [Ex.size,Hx]; rfl
theorem Ex.size_pos (t:Ex):0<t.size:=by rw [Ex.size_eq]; omega
theorem Ex.Kz (t:Ex):1+aZ Ex.size t.kids≤t.size:=by rw [Ex.size_eq]; omega
theorem Ex.y9:∀ (N:Nat) (t:Ex),t.size≤N→aZ (fun e=>1+aZ Ty.size e.own) t.nodes=t.size:=by intro N;induction N with | zero=>intro t h; have:=t.size_pos; omega | succ N ih =>intro t hN;have h1:=t.size_eq;(have gen:∀ (l:List Ex),aZ Ex.size l≤N→aZ (fun e=>1+aZ Ty.size e.own) (l.flatMap Ex.nodes)=aZ Ex.size l:=by intro l;induction l with | nil=>intro _; rfl | cons a r R7 =>intro hl;simp only [aZ] at hl ⊢;rw [gq,j2,ih a (by omega),R7 (by omega)]);rw [Ex.dD];simp only [aZ];rw [gen _ (by omega)]; omega
def Lb.cy (l:Lb):Nat:=1+l.ty.size
mutual
def Ex.cy:Ex→Nat
 | .mk _ _ _ _ _ ts ls ks=>1+aZ Ty.size ts+aZ Lb.cy ls+xJ ks
def xJ:List Ex→Nat
 | []=>0
 | e :: r=>e.cy+xJ r
end
theorem Hy (ts:List Ex):xJ ts=aZ Ex.cy ts:=by induction ts with | nil=>rfl | cons t r ih=>simp [xJ,aZ,ih]
theorem Ex.m6 (t:Ex):t.cy=1+aZ Ty.size t.types+aZ Lb.cy t.labels+aZ Ex.cy t.kids:=by obtain⟨k,m,n,x,i,ts,ls,ks⟩:=t;rw [Ex.cy,Hy]; rfl
theorem Ex.fT (t:Ex):0<t.cy:=by rw [Ex.m6]; omega
theorem Ex.oS (t:Ex):1+aZ Ex.cy t.kids≤t.cy:=by rw [Ex.m6]; omega
theorem Ex.mA (t:Ex):t.kids.length<t.cy:=by have:=ca Ex.cy Ex.fT t.kids;rw [Ex.m6]; omega
theorem Lb.fT (l:Lb):0<l.cy:=by unfold Lb.cy; omega
theorem Ex.CL (t:Ex):aZ Ty.size t.own+1+aZ Ex.cy t.kids≤t.cy:=by
 rw [Ex.m6,Ex.own,j2];have:aZ Ty.size (if t.kind=8 then t.labels.map Lb.ty else [])≤aZ Lb.cy t.labels:=by split;(·rw [ez];generalize t.labels=l;induction l with | nil=>simp [aZ] | cons a r ih=>simp only [aZ,Lb.cy] at ih ⊢; omega);simp [aZ]
 omega
theorem Ex.uA (t:Ex):t.types.length+t.labels.length<t.cy:=by have h1:=ca Ty.size Ty.size_pos t.types;have h2:=ca Lb.cy Lb.fT t.labels;rw [Ex.m6]; omega
theorem Ex.lh:∀ (N:Nat) (t:Ex),t.cy≤N→t.size≤t.cy:=by intro N;induction N with | zero=>intro t h; have:=t.fT; omega | succ N ih =>intro t hN;have h1:=t.CL;rw [Ex.size_eq];(have gen:∀ (l:List Ex),aZ Ex.cy l≤N→aZ Ex.size l≤aZ Ex.cy l:=by intro l;induction l with | nil=>intro _; simp [aZ] | cons a r R7 =>intro hl;simp only [aZ] at hl ⊢;have:=ih a (by omega); have:=R7 (by omega); omega);have:=gen t.kids (by omega);omega

section
variable {σ:Type} {M:σ→List ba} {n k k1 k2:Nat}
theorem N4 (hn:∀ s,(M s).length=n) (hk:k<n) (ji:k1<n) (l9:k2<n) (h1:∀ s,(M s)[k1]?=some (.box [.jz k])) (h2:∀ s,(M s)[k2]?=some (.box [.cC (.func 243) [] [.ptr k1 0,.ptr k2 0]])) (hb:∀ s,(M s).all (aI n)=true)
  (step:σ→Ex→σ×Bool) (G:σ→Prop) (hG:∀ s u,G s→(step s u).2=true→G (step s u).1) {B:Nat} (hB:B≤1048576) (Pd:Ex→Prop) (hy:∀ s u,G s→u.cy≤B→Pd u→Ge ab k [cx u] (M s) (step s u).2 (M (step s u).1)) :
  ∀ (N:Nat) (t:Ex) (s:σ),G s→(∀ v∈t.nodes,Pd v)→t.cy≤N→N≤B→bk ab 243 [cx t,.ptr k1 0,.ptr k2 0] (M s) (bl (dd step s t.nodes).2) (M (dd step s t.nodes).1):=by
 have g0:∀ s (l:List ba),(M s++l)[n]?=l[0]?:=fun s l=>by rw [aW (by rw [hn]; exact aw _),hn,c5]
 have g1:∀ s (l:List ba),(M s++l)[n+1]?=l[1]?:=fun s l=>by rw [aW (by rw [hn]; omega),hn,dM]
 have Ut:∀ s (l:List ba),(M s++l)[k1]?=some (.box [.jz k]):=fun s l=>by rw [bm (by rw [hn]; exact ji)]; exact h1 s
 have gk2:∀ s (l:List ba),(M s++l)[k2]?=some (.box [.cC (.func 243) [] [.ptr k1 0,.ptr k2 0]]):=fun s l=>by rw [bm (by rw [hn]; exact l9)]; exact h2 s
 have gs:∀ s (l:List ba) X,(M s++l).set n X=M s++l.set 0 X:=fun s l X=>by rw [ep _ _ (by rw [hn]; exact aw _),hn,c5]
 have gt:∀ s (l:List ba),(M s++l).take n=M s:=fun s l=>by rw [← hn s,pJ]
 have Uu:∀ s,(M s).take n=M s:=fun s=>by rw [bE (by rw [hn]; exact aw _)]
 have fy:∀ s u (l:List ba),G s→u.cy≤B→Pd u→Ge ab k [cx u] (M s++l) (step s u).2 (M (step s u).1++l):=fun s u l hg hu hp=>by refine (hy s u hg hu hp).frame (by rw [hn]; exact hk) ?_ (by rw [hn]; exact hb s) (by rw [hn,hn]) (by rw [hn]; exact hb _) l;rw [a8]; simp [aH,aO,aC]
 intro N;induction N with | zero=>intro t s hg hP h; have:=t.fT; omega | succ N ih =>intro t s hg hP hN hNB;have Ap:=t.mA;have tp:=t.oS;have NT:=ca Ex.cy Ex.fT t.kids;have dK:=t.dD;have NW:=fun l=>fy s t l hg (by omega) (hP t (by rw [t.dD]; simp));(have Uv:∀ u s (l:List ba),G s→(∀ v∈u.nodes,Pd v)→u.cy≤N→bk ab 243 [cx u,.ptr k1 0,.ptr k2 0] (M s++l) (bl (dd step s u.nodes).2) (M (dd step s u.nodes).1++l):=fun u s l hg hq hu=>by refine (ih u s hg hq hu (by omega)).frame ?_ (by rw [hn]; exact hb s) rfl (by rw [hn,hn]) (by rw [hn]; exact hb _) l;rw [a8,hn]; simp [aH,aO,aC,ji,l9]);simp only [a8,aC] at Uv;refine jD tt_ok (fn:=Tryz.f243) n (by rw [hn]; exact aw _) Tryz.func243 rfl Tryz.call243 ?_;simp only [dO,cn,Tryz.ntmps243,aD,aM,zA,zF,aE,aF];rw [a8] at NW ⊢;simp only [aC] at NW ⊢;refine af tt_ok fun K hK=>?_;simp only [hn,go_sem];refine hK _ ?_;refine bj ?_;refine af tt_ok fun K hK=>?_;simp only [Ut,g0,hn,go_sem];refine .inl ⟨_,_,NW _,?_⟩;(try simp only [go_sem]);refine hK _ ?_;cases NY:(step s t).2 with | false =>refine aU rfl ?_;refine af tt_ok fun K hK=>?_;simp only [go_sem];refine hK _ ?_;refine bK ⟨.inl rfl,?_⟩;(have vi:dd step s t.nodes=((step s t).1,false):=by rw [dK]; simp [dd,NY]);rw [vi];exact⟨rfl,rfl,by dsimp only; rw [gt]; exact hb _,(gt _ _).symm⟩ | true =>refine aU rfl (bZ ?_);show dN _ _ _ _ _ _;refine bj ?_;refine af tt_ok fun K hK=>?_;simp only [Ut,g0,hn,aA,go_sem];refine hK _ ?_;obtain⟨ps,y3⟩:∃ ps,ps=t.kids:=⟨_,rfl⟩;rw [← y3] at tp NT dK ⊢;have hPp:∀ u∈ps,∀ v∈u.nodes,Pd v:=fun u hu v hv=>hP v (by rw [dK]; exact bh _ (gU.2 ⟨u,hu,hv⟩));refine bP (cR (fun N st=>∃ (i:Nat) (s':σ),G s'∧N=ps.length-i∧i≤ps.length∧dd step s (t :: (ps.take i).flatMap Ex.nodes)=(s',true) ∧ st = { fr:=[.undef,.ptr k1 0,.ptr k2 0,.undef,.undef,.undef,.undef,.undef,.undef,.undef,.undef,.undef,.slice (cr ps),num ps.length,num i]++List.replicate 8 .undef,mem:=M s' }) ps.length ?_ ?_);(·refine⟨n,(false::true::true::(rp 9 false [true,true,true])),by rw [hn]; exact aw _,by simp only [bp,aH,aO,aI,zB,ji,l9,ix],by dsimp only; rw [gt]; exact hb _,0,(step s t).1,hG s t hg NY,by omega,by omega,by simp [dd,NY],?_⟩;dsimp only; rw [gt]; rfl);rintro N' st ⟨i,s',DT,rfl,hi,NZ,rfl⟩;simp only [dO,aE,aF];by_cases bX:i<ps.length;(·have hd:=gX bX;refine af tt_ok fun K hK=>?_;simp only [aA,hd,go_sem];refine hK _ ?_;refine bj (aU rfl (bZ ?_));refine bj (bP ?_);obtain⟨u,hu⟩:∃ u,ps[i]?=some u:=⟨_,ah bX⟩;have WZ:=cb Ex.cy hu;have fK:=fun l=>Uv u s' l DT (hPp u (ay hu)) (by omega);(have tq:(ps.take (i+1)).flatMap Ex.nodes=(ps.take i).flatMap Ex.nodes++u.nodes:=by rw [bC,hu]; simp);(have Jb:dd step s (t :: (ps.take (i+1)).flatMap Ex.nodes)=dd step s' u.nodes:=by rw [tq,← aj,iW,NZ]; simp);refine af tt_ok fun K hK=>?_;simp only [dn,hu,a8,aC,hn,g0,gs,go_sem];refine hK _ ?_;refine af tt_ok fun K hK=>?_;simp only [gk2,g0,hn,go_sem];(refine .inr <| .inl ⟨_,_,fK _,?_⟩);(try simp only [go_sem]);refine hK _ ?_;cases N0:(dd step s' u.nodes).2 with | false =>refine aU rfl ?_;refine af tt_ok fun K hK=>?_;simp only [go_sem];refine hK _ ?_;refine bK ⟨.inl rfl,?_⟩;(have vi:dd step s t.nodes=((dd step s' u.nodes).1,false):=by (have y5:ps.flatMap Ex.nodes=(ps.take (i+1)).flatMap Ex.nodes++(ps.drop (i+1)).flatMap Ex.nodes:=by rw [← am8,u4]);rw [dK,y5,← aj,iW,Jb,N0]; simp);rw [vi];exact⟨rfl,rfl,by dsimp only; rw [gt]; exact hb _,(gt _ _).symm⟩ | true =>refine aU rfl (bZ ?_);show dN _ _ _ _ _ _;refine aV tt_ok fun K hK=>?_;simp only [go_sem];refine hK _ ?_;have kK:=bB i (by omega);rw [kK];refine⟨ps.length-(i+1),by omega,n,(false::true::true::(rp 9 false [true,true,true])),by rw [hn]; exact aw _,by simp only [bp,aH,aO,aI,zB,ji,l9,ix],by dsimp only; rw [gt]; exact hb _,i+1,(dd step s' u.nodes).1,pA step hG _ _ DT N0,rfl,bX,by rw [Jb,← N0],?_⟩;dsimp only; rw [gt]; rfl);have hd:=gY bX;refine af tt_ok fun K hK=>?_;simp only [aA,hd,go_sem];refine hK _ ?_;refine bj (aU rfl (dZ ?_));(have gB:i=ps.length:=by omega);subst gB;show dN _ _ _ _ _ _;refine af tt_ok fun K hK=>?_;simp only [go_sem];refine hK _ ?_;refine bK ⟨.inl rfl,?_⟩;rw [au] at NZ;rw [dK,NZ];exact⟨rfl,rfl,by dsimp only; rw [Uu]; exact hb _,(Uu _).symm⟩
end

theorem E5 (t:Ex) (m:List ba) (hb:m.all (aI (m.length+1))=true):bk ab 193 [cx t] m (.cC (.func 242) [] [.ptr m.length 0]) (m++[.box (aC t)]):=by
 refine jD tt_ok (fn:=Tryz.f193) (m.length+1) (by omega) Tryz.func193 rfl Tryz.call193 ?_;simp only [dO,cn,Tryz.ntmps193,aD,aM,zA,zF,aE,aF];rw [a8];simp only [aC];refine af tt_ok fun K hK=>?_;simp only [go_sem];refine hK _ ?_;refine af tt_ok fun K hK=>?_;simp only [go_sem];refine hK _ ?_;have ht:∀ B:ba,(m++[B]).take (m.length+1)=m++[B]:=fun B=>bE (by simp);refine bK ⟨.inl rfl,rfl,by simp [aH,aO],?_,?_⟩;·dsimp only; rw [ht]; simp [hb,aI,aH,aO]
 dsimp only; rw [ht]

section
variable {σ:Type} {M:σ→List ba} {n k kt:Nat}
theorem N5 (hn:∀ s,(M s).length=n) (hk:k<n) (Kv:kt<n) {t:Ex} (h1:∀ s,(M s)[kt]?=some (.box (aC t))) (hb:∀ s,(M s).all (aI n)=true)
  (step:σ→Ex→σ×Bool) (G:σ→Prop) (hG:∀ s u,G s→(step s u).2=true→G (step s u).1) {B:Nat} (hB:B≤1048576) (Pd:Ex→Prop) (hy:∀ s u,G s→u.cy≤B→Pd u→Ge ab k [cx u] (M s) (step s u).2 (M (step s u).1)) (ht:t.cy≤B) (hP:∀ v∈t.nodes,Pd v) (s:σ) (hs:G s) :
  bk ab 242 [.jz k,.ptr kt 0] (M s) (.eC []) (M (dd step s t.nodes).1):=by
 have g0:∀ s (l:List ba),(M s++l)[n]?=l[0]?:=fun s l=>by rw [aW (by rw [hn]; exact aw _),hn,c5]
 have g1:∀ s (l:List ba),(M s++l)[n+1]?=l[1]?:=fun s l=>by rw [aW (by rw [hn]; omega),hn,dM]
 have Uw:∀ s (l:List ba),(M s++l)[kt]?=some (.box (aC t)):=fun s l=>by rw [bm (by rw [hn]; exact Kv)]; exact h1 s
 have gs:∀ s (l:List ba) X,(M s++l).set (n+1) X=M s++l.set 1 X:=fun s l X=>by rw [ep _ _ (by rw [hn]; omega),hn,dM]
 have gt:∀ s (l:List ba),(M s++l).take n=M s:=fun s l=>by rw [← hn s,pJ]
 have hw:∀ s,G s→bk ab 243 [cx t,.ptr n 0,.ptr (n+1) 0] (M s++[.box [.jz k],.box [.cC (.func 243) [] [.ptr n 0,.ptr (n+1) 0]]]) (bl (dd step s t.nodes).2) (M (dd step s t.nodes).1++[.box [.jz k],.box [.cC (.func 243) [] [.ptr n 0,.ptr (n+1) 0]]]):=fun s hs=>by refine N4 (M:=fun s=>M s++[.box [.jz k],.box [.cC (.func 243) [] [.ptr n 0,.ptr (n+1) 0]]]) (n:=n+2) (k:=k) (k1:=n) (k2:=n+1) (fun s=>by simp [hn]) (by omega) (by omega) (by omega) (fun s=>g0 _ _) (fun s=>g1 _ _) (fun s=>?_) step G hG hB Pd (fun s u hg hu hq=>?_) t.cy t s hs hP (aw _) ht;(·rw [Ga,aN];refine⟨pe (by omega) (hb s),?_⟩;simp [aI,aH,aO]; omega);refine (hy s u hg hu hq).frame (by rw [hn]; exact hk) ?_ (by rw [hn]; exact hb s) (by rw [hn,hn]) (by rw [hn]; exact hb _) _;rw [a8]; simp [aH,aO,aC]
 refine jD tt_ok (fn:=Tryz.f242) n (by rw [hn]; exact aw _) Tryz.func242 rfl Tryz.call242 ?_;simp only [dO,cn,Tryz.ntmps242,aD,aM,zA,zF,aE,aF];have EJ:=hw s hs;rw [a8] at EJ;simp only [aC] at EJ Uw;refine af tt_ok fun K hK=>?_;simp only [hn,go_sem];refine hK _ ?_;refine af tt_ok fun K hK=>?_;simp only [hn,ch,AP,go_sem];refine hK _ ?_;refine af tt_ok fun K hK=>?_;simp only [hn,g1,gs,go_sem];refine hK _ ?_;refine aV tt_ok fun K hK=>?_;simp only [hn,g1,Uw,go_sem];refine .inr <| .inl ⟨_,_,EJ,?_⟩
 try simp only [go_sem]
 refine hK _ ?_;refine⟨.inr rfl,rfl,rfl,?_,?_⟩;·dsimp only; rw [gt]; exact hb _
 dsimp only; rw [gt]


theorem za {n0:Nat} {st:St} {Q:Exit→St→Prop} {f:Operand} {params:Array Tmp} {assign body:Code} {t:Ex} (pre:σ→List ba) (s0:σ) (n kt:Nat) (lN:st.mem=pre s0) (hn:∀ s,(pre s).length=n) (Kv:kt<n)
  (ht:∀ s,(pre s)[kt]?=some (.box (aC t))) (hb:∀ s,(pre s).all (aI (n+1))=true) (xv:st.fr.all (aH (n+1))=true) (hf:st.eval f = .cC (.func 242) [] [.ptr kt 0]) (hp:params.size=1) (step:σ→Ex→σ×Option Code) {B:Nat} (hB:B≤1048576) (lZ:t.cy≤B) (Pd:Ex→Prop) (hPt:∀ v∈t.nodes,Pd v)
  (y6:∀ s u,u.cy≤B→Pd u→∀ (l:Nat) (LR LB:ba),aI (n+1) LR=true→aI (n+1) LB=true→dN ab (some l) (n+1) assign { fr:=nV params.toList [cx u] st.fr,mem:=pre s++[LR] } fun ex rW=>ex = .normal∧rW.mem[n]?=some LR ∧
   dN ab (some l) (n+1) body { rW with mem:=rW.mem.set n LB } fun ex xx=>qv ex=some (step s u).2∧xx.mem[n]?=some LB∧xx.mem.take n=pre (step s u).1)
  (hq:match (iE step s0 t.nodes).2 with
   | none=>Q .normal { st with mem:=pre (iE step s0 t.nodes).1++[.dead] }
   | some c=>dN ab none n0 c { st with mem:=pre (iE step s0 t.nodes).1++[.dead] } Q):dN ab none n0 (.rangeFunc f params assign body) st Q:=by
 have hlen:st.mem.length=n:=by rw [lN,hn]
 have gn:∀ s X,(pre s++[X])[n]?=some X:=fun s X=>by rw [aW (by rw [hn]; exact aw _),hn,c5]; rfl
 have gk:∀ s X,(pre s++[X])[kt]?=some (.box (aC t)):=fun s X=>by rw [bm (by rw [hn]; exact Kv)]; exact ht s
 have EU:∀ s (X Y:ba),(pre s++[X]).set n Y=pre s++[Y]:=fun s X Y=>by rw [ep _ _ (by rw [hn]; exact aw _),hn,c5]; rfl
 have wY:∀ (s:σ) (a:LoopState) (b:Option Code),(pre s++[ba.loop a b st.fr params assign body]).all (aI (n+1))=true:=fun s a b=>by rw [Ga,aN];exact⟨hb s,by simp only [cA,dA,aK,aI]; exact xv⟩
 have it:=N5 (M:=fun s:σ×Option Code=>pre s.1++[.loop (if s.2.isNone then .ready else .done) s.2 st.fr params assign body]) (n:=n+1) (k:=n) (kt:=kt) (t:=t) (fun s=>by simp [hn]) (by omega) (by omega) (fun s=>gk _ _) (fun s=>wY _ _ _)
  (uw step) (fun s=>s.2=none) (fun s u hs h=>by simpa [uw] using h) hB Pd (fun s u hs hu hq=>by
   obtain⟨s,j⟩:=s
   simp only at hs; subst hs
   refine qw (fr:=st.fr) (params:=params) (assign:=assign) (body:=body) (gn _ _) (by simp [hp]) fun l=>?_
   have hl:(pre s++[ba.loop .ready none st.fr params assign body]).length=n+1:=by simp [hn]
   simp only [Yy,if_true,hl]
   refine dN.mono (y6 s u hu hq l (.loop .ready none st.fr params assign body) (.loop .busy none st.fr params assign body) xv xv) ?_
   rintro ex rW ⟨h1,h2,h3⟩
   refine⟨h1,h2,dN.mono h3 ?_⟩
   rintro ex xx ⟨h4,h5,h6⟩
   refine⟨_,h4,rfl,h5,?_,?_⟩
   ·rw [take_set (hn _) h5 h6]; exact wY _ _ _
   rw [take_set (hn _) h5 h6]; rfl) lZ hPt (s0,none) rfl
 rw [xH] at it;refine og (g:=242) (vs:=[.jz n,.ptr kt 0]) (by rw [hf,hlen]; rfl) (by rw [lN]; exact it) ?_;rw [hlen];refine⟨_,_,_,_,_,_,gn _ _,?_,?_⟩;·cases (iE step s0 t.nodes).2 <;> simp
 generalize hj:(iE step s0 t.nodes).2=j at hq;cases j with | none=>dsimp only at hq ⊢; rw [EU]; exact hq | some c=>dsimp only at hq ⊢; rw [EU]; exact hq
theorem KA {n0:Nat} {st:St} {Q:Exit→St→Prop} {f:Operand} {params:Array Tmp} {assign body:Code} {t:Ex} (pre:σ→List ba) (s0:σ) (n kt:Nat) (lN:st.mem=pre s0) (hn:∀ s,(pre s).length=n) (Kv:kt<n)
  (ht:∀ s,(pre s)[kt]?=some (.box (aC t))) (hb:∀ s,(pre s).all (aI (n+1))=true) (xv:st.fr.all (aH (n+1))=true) (hf:st.eval f = .cC (.func 242) [] [.ptr kt 0]) (hp:params.size=1) (step:σ→Ex→σ×Option Code) {B:Nat} (hB:B≤1048576) (lZ:t.cy≤B)
  (y6:∀ s u,u.cy≤B→∀ (l:Nat) (LR LB:ba),aI (n+1) LR=true→aI (n+1) LB=true→dN ab (some l) (n+1) assign { fr:=nV params.toList [cx u] st.fr,mem:=pre s++[LR] } fun ex rW=>ex = .normal∧rW.mem[n]?=some LR ∧
   dN ab (some l) (n+1) body { rW with mem:=rW.mem.set n LB } fun ex xx=>qv ex=some (step s u).2∧xx.mem[n]?=some LB∧xx.mem.take n=pre (step s u).1)
  (hq:match (iE step s0 t.nodes).2 with
   | none=>Q .normal { st with mem:=pre (iE step s0 t.nodes).1++[.dead] }
   | some c=>dN ab none n0 c { st with mem:=pre (iE step s0 t.nodes).1++[.dead] } Q):dN ab none n0 (.rangeFunc f params assign body) st Q :=
 za pre s0 n kt lN hn Kv ht hb xv hf hp step hB lZ (fun _=>True) (fun _ _=>trivial) (fun s u hu _=>y6 s u hu) hq
end
end
mutual
def Ty.wt:Ty→Nat
 | .mk _ m n ts fs=>1+m.size+n.size+E6 ts+E7 fs
def E6:List Ty→Nat
 | []=>0
 | t :: r=>t.wt+E6 r
def Fd.wt:Fd→Nat
 | .mk n (.mk _ m n' ts fs) _=>1+n.size+m.size+n'.size+E6 ts+E7 fs
def E7:List Fd→Nat
 | []=>0
 | f :: r=>f.wt+E7 r
end
theorem Fd.iq (f:Fd):f.wt=f.name.size+f.ty.wt:=by obtain⟨n',⟨k,m,n,ts,fs⟩,o⟩:=f;simp only [Fd.wt,Ty.wt,Fd.name,Fd.ty]; omega
theorem KB (ts:List Ty):E6 ts=aZ Ty.wt ts:=by induction ts with | nil=>rfl | cons t r ih=>simp [E6,aZ,ih]
theorem KC (ts:List Fd):E7 ts=aZ Fd.wt ts:=by induction ts with | nil=>rfl | cons t r ih=>simp [E7,aZ,ih]
theorem Ty.iq (t:Ty):t.wt=1+t.mod.size+t.name.size+aZ Ty.wt t.args+aZ Fd.wt t.bd:=by obtain⟨k,m,n,ts,fs⟩:=t;simp only [Ty.wt,KB,KC,Ty.mod,Ty.name,Ty.args,Ty.bd]
theorem uB {α:Type} {g h:α→Nat} (hle:∀ a,g a≤h a) (l:List α):aZ g l≤aZ h l:=by induction l with | nil=>exact aw _ | cons a r ih=>simp only [aZ]; have:=hle a; omega
theorem Ty.zb (t:Ty):1+t.mod.size+t.name.size+aZ Ty.wt t.parts≤t.wt:=by rw [t.iq,Ty.parts,j2,ez];have:=uB (g:=fun f:Fd=>f.ty.wt) (h:=Fd.wt) (fun f=>by rw [f.iq]; omega) t.bd;omega
theorem Ty.E8:∀ (N:Nat) (t:Ty),t.size≤N→t.size≤t.wt:=by intro N;induction N with | zero=>intro t h; have:=t.size_pos; omega | succ N ih =>intro t hN;have h1:=t.de;have h2:=t.zb;(have gen:∀ (l:List Ty),aZ Ty.size l≤N→aZ Ty.size l≤aZ Ty.wt l:=by intro l;induction l with | nil=>intro _; exact aw _ | cons a r R7 =>intro hl;simp only [aZ] at hl ⊢;have:=ih a (by omega); have:=R7 (by omega); omega);have:=gen t.parts (by omega);omega
theorem Ty.dE (t:Ty):t.size≤t.wt:=Ty.E8 _ t (aw _)
theorem Ty.vO:∀ (N:Nat) (t:Ty),t.size≤N→∀ v∈t.nodes,v.wt≤t.wt:=by intro N;induction N with | zero=>intro t h; have:=t.size_pos; omega | succ N ih =>intro t hN v hv;have h1:=t.de;have h2:=t.zb;rw [t.dD] at hv;(rcases cp.1 hv with rfl | hv);(·exact aw _);obtain⟨p,hp,hv⟩:=gU.1 hv;obtain⟨i,hi⟩:=bL.1 hp;have e1:=cb Ty.size hi;have e2:=cb Ty.wt hi;have:=ih p (by omega) v hv;omega
theorem Ty.zd {t v:Ty} (hv:v∈t.nodes):v.wt≤t.wt:=Ty.vO _ t (aw _) v hv
theorem Ty.mod_lt (t:Ty):t.mod.size<t.wt:=by rw [t.iq]; omega
theorem Ty.aa4 {t:Ty} {n:Nat} (h:t.wt≤n+1):∀ v∈t.nodes,v.mod.size≤n:=fun v hv=>by have:=Ty.zd hv;have:=v.mod_lt;omega
def Lb.wt (l:Lb):Nat:=1+l.name.size+l.var.size+l.ty.wt
mutual
def Ex.wt:Ex→Nat
 | .mk _ m n t _ ts ls ks=>1+m.size+n.size+t.size+aZ Ty.wt ts+aZ Lb.wt ls+Jf ks
def Jf:List Ex→Nat
 | []=>0
 | e :: r=>e.wt+Jf r
end
theorem N6 (ts:List Ex):Jf ts=aZ Ex.wt ts:=by induction ts with | nil=>rfl | cons t r ih=>simp [Jf,aZ,ih]
theorem Ex.iq (t:Ex):t.wt=1+t.mod.size+t.name.size+t.text.size+aZ Ty.wt t.types+aZ Lb.wt t.labels+aZ Ex.wt t.kids:=by obtain⟨k,m,n,x,i,ts,ls,ks⟩:=t;rw [Ex.wt,N6]; rfl
theorem Ex.E9:∀ (N:Nat) (t:Ex),t.cy≤N→t.cy≤t.wt:=by intro N;induction N with | zero=>intro t h; have:=t.fT; omega | succ N ih =>intro t hN;have h1:=t.m6;have h2:=t.iq;(have gen:∀ (l:List Ex),aZ Ex.cy l≤N→aZ Ex.cy l≤aZ Ex.wt l:=by intro l;induction l with | nil=>intro _; exact aw _ | cons a r R7 =>intro hl;simp only [aZ] at hl ⊢;have:=ih a (by omega); have:=R7 (by omega); omega);have h3:=gen t.kids (by omega);have h4:=uB (g:=Ty.size) (h:=Ty.wt) Ty.dE t.types;have h5:=uB (g:=Lb.cy) (h:=Lb.wt) (fun l=>by unfold Lb.cy Lb.wt; have:=l.ty.dE; omega) t.labels;omega
theorem Ex.hZ (t:Ex):t.cy≤t.wt:=Ex.E9 _ t (aw _)
theorem Ex.vO:∀ (N:Nat) (t:Ex),t.cy≤N→∀ v∈t.nodes,v.wt≤t.wt:=by intro N;induction N with | zero=>intro t h; have:=t.fT; omega | succ N ih =>intro t hN v hv;have h1:=t.oS;have h2:=t.iq;rw [t.dD] at hv;(rcases cp.1 hv with rfl | hv);(·exact aw _);obtain⟨p,hp,hv⟩:=gU.1 hv;obtain⟨i,hi⟩:=bL.1 hp;have e1:=cb Ex.cy hi;have e2:=cb Ex.wt hi;have:=ih p (by omega) v hv;omega
theorem Ex.zd {t v:Ex} (hv:v∈t.nodes):v.wt≤t.wt:=Ex.vO _ t (aw _) v hv
theorem Ex.W4 {e:Ex} {p:Ty} (hp:p∈e.own):p.wt<e.wt:=by
 have h:=e.iq;unfold Ex.own at hp;rcases fI.1 hp with hp | hp
 ·obtain⟨i,hi⟩:=bL.1 hp;have:=cb Ty.wt hi;omega
 split at hp;·obtain⟨l,hl,rfl⟩:=cu.1 hp;obtain⟨i,hi⟩:=bL.1 hl;have h1:=cb Lb.wt hi;have h2:l.wt=1+l.name.size+l.var.size+l.ty.wt:=rfl;omega
 cases hp
theorem Ex.mod_lt (t:Ex):t.mod.size<t.wt:=by rw [t.iq]; omega
theorem Ex.KD (t:Ex):t.labels.length<t.wt:=by have h1:=ca Lb.wt (fun l=>by unfold Lb.wt; omega) t.labels;rw [t.iq]; omega
theorem Lb.N7 {t:Ex} {l:Lb} (hl:l∈t.labels):l.wt<t.wt:=by obtain⟨i,hi⟩:=bL.1 hl;have h1:=cb Lb.wt hi;rw [t.iq]; omega
def eW (d:Dc):List V:=[num d.kind,str d.name,bl d.exported,bl d.deprecated,str d.note,.slice (d.params.map cX)]++ai d.lower++ai d.upper++ai d.type++aC d.expr++[str d.mod,str d.target]
theorem uC (d:Dc):aL d = .agg (eW d):=rfl
def Dc.cy (d:Dc):Nat:=1+d.params.length+aZ (fun p=>p.bound.size) d.params+d.lower.size+d.upper.size+d.type.size+d.expr.cy
theorem Dc.fT (d:Dc):0<d.cy:=by unfold Dc.cy; omega
def Md.cy (m:Md):Nat:=1+m.imports.length+aZ Dc.cy m.decls
def pB (m:Md):List V:=[str m.path,.slice (m.imports.map bQ),.slice (m.decls.map aL)]
theorem oT (m:Md):gN m = .agg (pB m):=rfl
def Pm.wt (p:Pm):Nat:=1+p.name.size+p.bound.wt
def Im.wt (i:Im):Nat:=1+i.path.size+i.alias.size
def Dc.wt (d:Dc):Nat:=1+d.name.size+d.note.size+aZ Pm.wt d.params+d.lower.wt+d.upper.wt+d.type.wt+d.expr.wt+d.mod.size+d.target.size
def Md.wt (m:Md):Nat:=1+m.path.size+aZ Im.wt m.imports+aZ Dc.wt m.decls
theorem N8 (l:List Pm):l.length+aZ (fun p=>p.bound.size) l≤aZ Pm.wt l:=by induction l with | nil=>exact aw _ | cons a r ih=>have:=a.bound.dE; simp only [aZ,aD,Pm.wt]; omega
theorem Dc.hZ (d:Dc):d.cy≤d.wt:=by have h1:=N8 d.params;have h2:=d.lower.dE;have h3:=d.upper.dE;have h4:=d.type.dE;have h5:=d.expr.hZ;unfold Dc.cy Dc.wt;omega
theorem Md.hZ (m:Md):m.cy≤m.wt:=by have h1:=uB (g:=Dc.cy) (h:=Dc.wt) Dc.hZ m.decls;have h2:=ca Im.wt (fun l=>by unfold Im.wt; omega) m.imports;unfold Md.cy Md.wt;omega
section
attribute [local irreducible] runM gv rY c8 mV Ez Uh
mutual
def Ex.depth:Ex→Nat
 | .mk _ _ _ _ _ _ _ ks=>1+uD ks
def uD:List Ex→Nat
 | []=>0
 | e :: r=>max e.depth (uD r)
end
theorem CM (ts:List Ex):uD ts=fS Ex.depth ts:=by induction ts with | nil=>rfl | cons t r ih=>simp [uD,fS,ih]
theorem Ex.uE (t:Ex):t.depth=1+fS Ex.depth t.kids:=by obtain⟨k,m,n,x,i,ts,ls,ks⟩:=t;rw [Ex.depth,CM]; rfl
theorem Ex.AJ:∀ (N:Nat) (t:Ex),t.cy≤N→t.depth≤t.cy:=by intro N;induction N with | zero=>intro t h; have:=t.fT; omega | succ N ih =>intro t hN;rw [Ex.uE];have h1:=t.oS;(have:=y4 Ex.depth (l:=t.kids) (B:=aZ Ex.cy t.kids) fun i a ha=>by have:=cb Ex.cy ha;have:=ih a (by omega);omega);omega
theorem Fa (x:Ex) (hl:x.kids.length≤1048576) (hd:x.depth≤1048576) (fK:∀ (i:Nat) (k:Ex),x.kids[i]?=some k→bG ab 191 [cx k] (num k.depth)):∃ r,(fun v=>v=num x.depth) r∧bG ab 191 [cx x] r:=by
 refine aap tt_ok (fn:=Tryz.f191) Tryz.func191 rfl Tryz.call191 ?_;simp only [dO,cn,Tryz.ntmps191,aD,aM,zA,zF,aE,aF];have hde:=x.uE;simp only [a8,aC];refine kO tt_ok 20 [0,2,2] [] rfl rfl fun K hK=>?_;simp only [aA,go_sem,au];refine hK _ _ rfl ?_;simp only [QQ,zA,zE];refine kO tt_ok 20 [0,0,0,2] [] rfl rfl fun K hK=>?_;simp only [aA,go_sem,au];refine hK _ _ rfl ?_;simp only [QQ,zA,zE];refine yI ?_;refine kO tt_ok 20 [0,0,0,0,0,0,1,2,2,2] [] rfl rfl fun K hK=>?_;simp only [aA,go_sem,au];refine hK _ _ rfl ?_;simp only [QQ,zA,zE];refine yJ ?_;refine M6 [9,3] [num 0,num 0] 1 [false,false,true,true,false,false,false,true,true,true] (fun vs=>((x.kids.length:Int)-intOf (vs.headD .undef)).toNat) (fun vs=>∃ (i:Nat),vs=[num i,num (fS Ex.depth (x.kids.take i):Nat)]∧i≤x.kids.length) (by omega) (by simp only [bp,aH,aO,aI,zB,ix]) (by simp only [bp,aH,aO,aI,zB,ix]) (by rfl) (⟨0,rfl,by omega⟩) fun vs hI=>?_;obtain⟨i,rfl,hi⟩:=hI;simp only [bp,aH,aO,aI,zB,sP,eI,il,ix];refine kO tt_ok 20 (rp 10 0 [2]) [] rfl rfl fun K hK=>?_;simp only [aA,go_sem,au];refine hK _ _ rfl ?_;simp only [QQ,zA,zE];refine yI ?_;refine aan rfl (fun pC=>?_) (fun pC=>?_);·(have bX:i<x.kids.length:=by simpa using pC);obtain⟨k,hx⟩:∃ k,x.kids[i]?=some k:=⟨_,ah bX⟩;have hk:=fK i k hx;rw [a8] at hk;simp only [aC] at hk;have hw:=bB i (by omega);refine Ct ?_;show Go.Eng.Ex _ _ _ _ _ _;refine yI ?_;refine yJ ?_;refine kO tt_ok 20 [0,0,0,0,0,2,0,0,0,0,0,1,1] [] rfl rfl fun K hK=>?_;simp only [hw,dn,hx,a8,aC,aA,go_sem,au];refine hK _ _ rfl ?_;simp only [QQ,zA,zE];refine oO tt_ok 20 [0,0,0,2,0,0,0,0,0,0,0,0,0,2,2,2,2] [] (by kernel_rfl) rfl rfl fun K hK=>?_;(try simp only [dO]);refine M3 3 fun K1 kT=>?_;simp only [hw,dn,hx,a8,aC,aA,go_sem,au];refine M4 (⟨_,rfl,hk⟩) ?_;rintro _ rfl;(try simp only [hw,dn,hx,a8,aC,aA,go_sem,au]);refine kT _ ?_;simp only [hw,dn,hx,a8,aC,aA,go_sem,au];refine hK _ _ rfl ?_;simp only [QQ,zA,zE];show Go.Eng.Ex _ _ _ _ _ _;refine oO tt_ok 20 (rp 9 0 [2,0,0,0,0,0,0,0,2]) [] (by kernel_rfl) rfl rfl fun K hK=>?_;simp only [hw,dn,hx,a8,aC,aA,go_sem,au];refine hK _ _ rfl ?_;simp only [QQ,zA,zE];refine⟨[_,_],?_,?_,1,[false,false,true,true,false,false,false,true,true,true],by omega,by simp only [bp,aH,aO,aI,zB,ix],by simp only [bp,aH,aO,aI,zB,ix],by simp only [bp,aH,aO,aI,zB,sP,eI,il,ix]; rfl⟩;(·refine⟨i+1,?_,bX⟩;rw [mM Ex.depth hx,← CI]);simp only [intOf,cM]; omega
 have Jg:¬ i<x.kids.length:=by simpa using pC
 have jw:i=x.kids.length:=by omega
 subst jw;try rw [au]
 have hw:=bB (fS Ex.depth x.kids) (by omega);have hz:((fS Ex.depth x.kids+1:Nat):Int)=(x.depth:Int):=by omega
 refine IW ?_;show Go.Eng.Ex _ _ _ _ _ _;refine kO tt_ok 20 (0::0::2::(rp 15 0 [1,1])) [] rfl rfl fun K hK=>?_;simp only [hw,hz,aA,go_sem,au];refine hK _ _ rfl ?_;simp only [QQ,zA,zE];exact M0 ⟨.inl rfl,_,rfl,rfl⟩
theorem Hz:∀ (N:Nat) (x:Ex),x.cy≤N→N≤1048576→bG ab 191 [cx x] (num x.depth):=by intro N;induction N with | zero=>intro x h; have:=x.fT; omega | succ N ih =>intro x hN hb;have h2:=x.mA;have h4:=Ex.AJ _ x (aw _);obtain⟨_,rfl,h⟩:=Fa x (by omega) (by omega) fun i k hk=>ih k (by have h1:=cb Ex.cy hk;have h3:=x.oS;omega) (by omega);exact h
end

theorem Jh (e:Ex) (hl:e.types.length+e.labels.length≤34359738368):bG ab 230 [cx e] (.slice (aQ e.own)):=by
 have Gz:e.types.length≤34359738368:=by omega
 obtain⟨k,m,n,x,z,ts,ls,ks⟩:=e;simp only [Ex.types,Ex.labels] at hl Gz;refine je tt_ok (fn:=Tryz.f230) Tryz.func230 rfl Tryz.call230 ?_;simp only [dO,cn,Tryz.ntmps230,aD,aM,zA,zF,aE,aF];refine af tt_ok fun K hK=>?_;simp only [cx,go_sem];refine hK _ ?_;refine af tt_ok fun K hK=>?_;simp only [cx,go_sem];refine .inr <| .inl ⟨_,_,bk.live (by simp only [cx,aq,go_sem,au]) (jK (aQ ts) (kl ts 0) (by rw [aq]; exact Gz)) rfl _,?_⟩
 try simp only [cx,aq,go_sem]
 refine hK _ ?_;refine bj ?_;refine af tt_ok fun K hK=>?_;simp only [go_sem];refine hK _ ?_;by_cases hk:k=8;·(have hd:decide (k=8)=true:=by simpa using hk);rw [hd];refine aU rfl ?_;refine af tt_ok fun K hK=>?_;simp only [ag,go_sem];refine hK _ ?_;refine bP (cR (fun N st=>∃ (i dw:Nat) (acc:List Ty),N=ls.length-i∧i≤ls.length∧acc=ts++(ls.take i).map Lb.ty ∧ st = { fr:=[.undef,.ptr 0 0,.undef,.ms 1 dw 0 acc.length,.undef,.undef,.undef,.undef,.undef,.undef,.undef,.undef,.undef,.slice (ls.map bO),num ls.length,num i]++List.replicate 10 .undef,mem:=[.box (cx (.mk k m n x z ts ls ks)).cells,.rows dw 5 (aQ acc)] }) ls.length ?_ ?_);(·exact⟨2,(false::true::false::true::(rp 9 false [true,true,true])),by omega,by simp only [bp,aH,aO,aI,zB,ix],by simp only [bp,aH,aO,aI,zB,ix],0,1,ts,by omega,by omega,by simp,rfl⟩);rintro N st ⟨i,dw,acc,rfl,hi,mL,rfl⟩;(have QS:acc.length≤34359738367∨i=ls.length:=by rw [mL]; simp; omega);simp only [dO,aE,aF,cx,V.cells];by_cases bX:i<ls.length;(·have hd:=gX bX;(have Ht:acc.length≤34359738367:=by omega);refine af tt_ok fun K hK=>?_;simp only [hd,go_sem];refine hK _ ?_;refine bj (aU rfl (bZ ?_));refine bj (bP ?_);obtain⟨f,hf⟩:∃ f,ls[i]?=some f:=⟨_,ah bX⟩;(have wX:(ls.take (i+1)).map Lb.ty=(ls.take i).map Lb.ty++[f.ty]:=by rw [bC,hf]; simp);refine af tt_ok fun K hK=>?_;simp only [ae,hf,bO,ai,go_sem];refine hK _ ?_;refine aV tt_ok fun K hK=>?_;simp only [aq,Ht,go_sem];refine hK _ ?_;refine aV tt_ok fun K hK=>?_;simp only [go_sem];refine hK _ ?_;have hw:=bB i (by omega);rw [hw];refine⟨ls.length-(i+1),by omega,2,(false::true::false::true::(rp 9 false [true,true,true])),by omega,by simp only [bp,aH,aO,aI,zB,ix],by simp only [bp,aH,aO,aI,zB,ix],i+1,dw+1,acc++[f.ty],rfl,bX,by rw [mL,wX]; simp,?_⟩;simp [rp,bp,cV,aG,ai]);have hd:=gY bX;refine af tt_ok fun K hK=>?_;simp only [hd,go_sem];refine hK _ ?_;refine bj (aU rfl (dZ ?_));(have gB:i=ls.length:=by omega);subst gB;show dN _ _ _ _ _ _;refine af tt_ok fun K hK=>?_;simp only [go_sem];refine hK _ ?_;refine bK ⟨.inl rfl,?_⟩;rw [au] at mL;(have hr:aQ (Ex.mk k m n x z ts ls ks).own=aQ acc:=by rw [mL]; simp [Ex.own,Ex.types,Ex.kind,Ex.labels,hk]);rw [hr];simp [pV,mZ,oe,Tryz.f230,DR,gu,dg,aq];rw [← aq]; simp
 have hd:decide (k=8)=false:=by simpa using hk
 rw [hd];refine aU rfl (bZ ?_);show dN _ _ _ _ _ _;refine af tt_ok fun K hK=>?_;simp only [go_sem];refine hK _ ?_;refine bK ⟨.inl rfl,?_⟩;have hr:aQ (Ex.mk k m n x z ts ls ks).own=aQ ts:=by simp [Ex.own,Ex.types,Ex.kind,Ex.labels,hk]
 rw [hr];simp [pV,mZ,oe,Tryz.f230,DR,gu,dg,aq];rw [← aq]; simp

theorem W5 (e:Ex) (hl:e.types.length+e.labels.length≤34359738368):bG ab 46 [cx e] (.slice (aQ e.own)):=by
 have Gz:e.types.length≤34359738368:=by omega
 obtain⟨k,m,n,x,z,ts,ls,ks⟩:=e;simp only [Ex.types,Ex.labels] at hl Gz;refine je tt_ok (fn:=Tryz.f46) Tryz.func46 rfl Tryz.call46 ?_;simp only [dO,cn,Tryz.ntmps46,aD,aM,zA,zF,aE,aF];refine af tt_ok fun K hK=>?_;simp only [cx,go_sem];refine hK _ ?_;refine af tt_ok fun K hK=>?_;simp only [cx,kl,aq,Gz,go_sem];refine hK _ ?_;refine bj ?_;refine af tt_ok fun K hK=>?_;simp only [go_sem];refine hK _ ?_;by_cases hk:k=8;·(have hd:decide (k=8)=true:=by simpa using hk);rw [hd];refine aU rfl ?_;refine af tt_ok fun K hK=>?_;simp only [go_sem];refine hK _ ?_;refine bP (cR (fun N st=>∃ (i dw:Nat) (acc:List Ty),N=ls.length-i∧i≤ls.length∧acc=ts++(ls.take i).map Lb.ty ∧ st = { fr:=[.undef,.ptr 0 0,.undef,.ms 1 dw 0 acc.length,num i]++List.replicate 24 .undef,mem:=[.box (cx (.mk k m n x z ts ls ks)).cells,.rows dw 5 (aQ acc)] }) ls.length ?_ ?_);(·exact⟨2,[false,true,false,true,true],by omega,by simp only [bp,aH,aO,aI,zB,ix],by simp only [bp,aH,aO,aI,zB,ix],0,1,ts,by omega,by omega,by simp,rfl⟩);rintro N st ⟨i,dw,acc,rfl,hi,mL,rfl⟩;(have QS:acc.length≤34359738367∨i=ls.length:=by rw [mL]; simp; omega);simp only [dO,aE,aF,cx,V.cells];refine bj ?_;by_cases bX:i<ls.length;(·have hd:=gX bX;(have Ht:acc.length≤34359738367:=by omega);refine af tt_ok fun K hK=>?_;simp only [ag,hd,go_sem];refine hK _ ?_;refine aU rfl (bZ ?_);refine bj (bP ?_);obtain⟨f,hf⟩:∃ f,ls[i]?=some f:=⟨_,ah bX⟩;(have wX:(ls.take (i+1)).map Lb.ty=(ls.take i).map Lb.ty++[f.ty]:=by rw [bC,hf]; simp);refine aV tt_ok fun K hK=>?_;simp only [ae,hf,bO,ai,aq,Ht,go_sem];refine hK _ ?_;refine aV tt_ok fun K hK=>?_;simp only [go_sem];refine hK _ ?_;have hw:=bB i (by omega);rw [hw];refine⟨ls.length-(i+1),by omega,2,[false,true,false,true,true],by omega,by simp only [bp,aH,aO,aI,zB,ix],by simp only [bp,aH,aO,aI,zB,ix],i+1,dw+1,acc++[f.ty],rfl,bX,by rw [mL,wX]; simp,?_⟩;simp [rp,bp,cV,aG,ai]);have hd:=gY bX;refine af tt_ok fun K hK=>?_;simp only [ag,hd,go_sem];refine hK _ ?_;refine aU rfl (dZ ?_);(have gB:i=ls.length:=by omega);subst gB;show dN _ _ _ _ _ _;refine af tt_ok fun K hK=>?_;simp only [go_sem];refine hK _ ?_;refine bK ⟨.inl rfl,?_⟩;rw [au] at mL;(have hr:aQ (Ex.mk k m n x z ts ls ks).own=aQ acc:=by rw [mL]; simp [Ex.own,Ex.types,Ex.kind,Ex.labels,hk]);rw [hr];simp [pV,mZ,oe,Tryz.f46,DR,gu,dg,aq];rw [← aq]; simp
 have hd:decide (k=8)=false:=by simpa using hk
 rw [hd];refine aU rfl (bZ ?_);show dN _ _ _ _ _ _;refine af tt_ok fun K hK=>?_;simp only [go_sem];refine hK _ ?_;refine bK ⟨.inl rfl,?_⟩;have hr:aQ (Ex.mk k m n x z ts ls ks).own=aQ ts:=by simp [Ex.own,Ex.types,Ex.kind,Ex.labels,hk]
 rw [hr];simp [pV,mZ,oe,Tryz.f46,DR,gu,dg,aq];rw [← aq]; simp
def HA (s:Int) (u:Ty):Int:=IntKind.i64.wrap (s+(u.size:Int))
def Ji (s:Int) (e:Ex):Int:=e.own.foldl HA (IntKind.i64.wrap (s+1))
theorem Bl:∀ (l:List Ty) (a:Nat),a+aZ Ty.size l≤1152921504606846976→l.foldl HA (a:Int)=((a+aZ Ty.size l:Nat):Int)
 | [],a,_=>rfl
 | u :: r,a,h=>by
  simp only [aZ] at h ⊢
  rw [eZ,HA,n4 a u.size (by omega),Bl r _ (by omega)]
  congr 1; omega
theorem ze:∀ (l:List Ex) (a:Nat),a+aZ (fun e=>1+aZ Ty.size e.own) l≤1152921504606846976→l.foldl Ji (a:Int)=((a+aZ (fun e=>1+aZ Ty.size e.own) l:Nat):Int)
 | [],a,_=>rfl
 | e :: r,a,h=>by
  simp only [aZ] at h ⊢
  rw [eZ,Ji,bB a (by omega),Bl _ _ (by omega),ze r _ (by omega)]
  congr 1; omega


theorem Bm (e:Ex) (he:e.cy≤1048576):bG ab 177 [cx e] (num e.size):=by
 have lZ:=Ex.lh _ e (aw _);refine je tt_ok (fn:=Tryz.f177) Tryz.func177 rfl Tryz.call177 ?_;simp only [dO,cn,Tryz.ntmps177,aD,aM,zA,zF,aE,aF];have W6:=fun B0 B1 h=>E5 e [B0,B1] h;rw [a8] at W6 ⊢;simp only [aC] at W6 ⊢;refine af tt_ok fun K hK=>?_;simp only [go_sem];refine hK _ ?_;refine af tt_ok fun K hK=>?_;simp only [go_sem];refine hK _ ?_;refine bj ?_;refine af tt_ok fun K hK=>?_;simp only [go_sem];refine .inr <| .inl ⟨_,_,W6 _ _ rfl,?_⟩
 try simp only [go_sem]
 refine hK _ ?_;refine bP (KA (t:=e) (B:=1048576) (fun s:Int=>[.box (aC e),.box [num s],.box (aC e)]) 0 3 2 rfl (fun _=>rfl) (by omega) (fun _=>rfl) (fun _=>rfl) rfl rfl rfl (fun s u=>(Ji s u,none)) (by omega) he ?_ ?_);·intro s u hu l LR LB hLR YT;rw [a8];simp only [dO,nV,aC,il,eI];have TC:=u.CL;have agM:=u.uA;have lD:=Jh u (by omega);have Jg:=ca Ty.size Ty.size_pos u.own;rw [a8] at lD;simp only [aC] at lD;refine aV tt_ok fun K hK=>?_;simp only [go_sem];refine hK _ ?_;refine⟨rfl,rfl,bP ?_⟩;refine bj ?_;refine aV tt_ok fun K hK=>?_;simp only [go_sem];refine hK _ ?_;refine bj ?_;refine aV tt_ok fun K hK=>?_;simp only [go_sem];refine .inl ⟨_,_,by simp only [aq,go_sem,au],lD,?_⟩;(try simp only [aq,go_sem]);refine hK _ ?_;obtain⟨ps,tp⟩:∃ ps,ps=u.own:=⟨_,rfl⟩;(have hnw:Ji s u=ps.foldl HA (IntKind.i64.wrap (s+1)):=by rw [tp]; rfl);rw [hnw,← tp];rw [← tp] at TC Jg;refine bP (cR (fun N st=>∃ (i:Nat),N=ps.length-i∧i≤ps.length ∧ st = { fr:=[.undef,.undef,.undef,.ptr 1 0,.undef,.undef,.undef,.undef,.undef,.undef,.undef,.undef,.undef,.slice (aQ ps),num ps.length,num i]++List.replicate 9 .undef,mem:=[.box (aC e),.box [num ((ps.take i).foldl HA (IntKind.i64.wrap (s+1)))],.box (aC e),LB] }) ps.length ?_ ?_);(·exact⟨4,(false::false::false::true::(rp 9 false [true,true,true])),by omega,by simp only [bp,aH,aO,aI,zB,ix],by have h4:aI 4 LB=true:=YT; simp only [dO,cA,dA,h4]; rfl,0,by omega,by omega,rfl⟩);rintro N st ⟨i,rfl,hi,rfl⟩;simp only [dO,aE,aF];by_cases bX:i<ps.length;(·have hd:=gX bX;refine af tt_ok fun K hK=>?_;simp only [hd,go_sem];refine hK _ ?_;refine bj (aU rfl (bZ ?_));refine bj (bP ?_);obtain⟨v,hv⟩:∃ v,ps[i]?=some v:=⟨_,ah bX⟩;have TE:=cb Ty.size hv;(have Zg:(ps.take (i+1)).foldl HA (IntKind.i64.wrap (s+1))=IntKind.i64.wrap ((ps.take i).foldl HA (IntKind.i64.wrap (s+1))+(v.size:Int)):=by rw [bC,hv,Y6]; rfl);have AX:=nc v (by omega);rw [aG] at AX;simp only [ai] at AX;refine af tt_ok fun K hK=>?_;simp only [b8,hv,aG,ai,go_sem];refine hK _ ?_;refine ld tt_ok bU [⟨.r,0,[],[],[]⟩,⟨.r,0,[],[],[]⟩,⟨.n,0,[],[],[]⟩,⟨.n,0,[],[],[]⟩,⟨.w,0,[],[],[]⟩] 1 (by kernel_rfl) fun K hK=>?_;simp only [go_sem,List.replicate];refine⟨_,_,by simp only [go_sem,au],.inl (AX),?_⟩;(try simp only [go_sem,List.replicate]);refine hK _ ?_;rw [← Zg];refine aV tt_ok fun K hK=>?_;simp only [go_sem];refine hK _ ?_;have kK:=bB i (by omega);rw [kK];exact⟨ps.length-(i+1),by omega,4,(false::false::false::true::(rp 9 false [true,true,true])),by omega,by simp only [bp,aH,aO,aI,zB,ix],by have h4:aI 4 LB=true:=YT; simp only [dO,cA,dA,h4]; rfl,i+1,rfl,bX,rfl⟩);have hd:=gY bX;refine af tt_ok fun K hK=>?_;simp only [hd,go_sem];refine hK _ ?_;refine bj (aU rfl (dZ ?_));(have gB:i=ps.length:=by omega);subst gB;(try rw [au]);exact⟨rfl,rfl,rfl⟩
 rw [sU,show (0:Int)=((0:Nat):Int) from rfl,ze _ _ (by rw [Ex.y9 _ e (aw _)]; omega),Ex.y9 _ e (aw _),ct];show dN _ _ _ _ _ _;refine af tt_ok fun K hK=>?_;simp only [go_sem];refine hK _ ?_;exact bK ⟨.inl rfl,rfl⟩
theorem N9:∀ (N:Nat) (e:Ex),e.cy≤N→N≤1048576→bG ab 29 [cx e] (num e.size):=by intro N;induction N with | zero=>intro t h; have:=t.fT; omega | succ N ih =>intro e hN hb;have TC:=e.CL;have agM:=e.uA;have lZ:=e.size_eq;have ZB:=Ex.lh _ e (aw _);have lD:=W5 e (by omega);have Jg:=ca Ty.size Ty.size_pos e.own;have Mx:=e.mA;refine je tt_ok (fn:=Tryz.f29) Tryz.func29 rfl Tryz.call29 ?_;simp only [dO,cn,Tryz.ntmps29,aD,aM,zA,zF,aE,aF];rw [a8] at lD ⊢;simp only [aC] at lD ⊢;refine af tt_ok fun K hK=>?_;simp only [go_sem];refine hK _ ?_;refine af tt_ok fun K hK=>?_;simp only [go_sem];refine hK _ ?_;refine af tt_ok fun K hK=>?_;simp only [go_sem];refine .inl ⟨_,_,by simp only [go_sem,au],lD,?_⟩;(try simp only [go_sem]);refine hK _ ?_;refine bj ?_;refine af tt_ok fun K hK=>?_;simp only [go_sem];refine hK _ ?_;obtain⟨ps,tp⟩:∃ ps,ps=e.own:=⟨_,rfl⟩;rw [← tp] at TC Jg lZ ⊢;refine bP (cR (fun N st=>∃ (i:Nat),N=ps.length-i∧i≤ps.length ∧ st = { fr:=[.undef,.ptr 0 0,.undef,num ((1+aZ Ty.size (ps.take i):Nat)),.slice (aQ ps),num i]++List.replicate 32 .undef,mem:=[.box (aC e)] }) ps.length ?_ ?_);(·exact⟨1,[false,true,false,true,true,true],by omega,by simp only [bp,aH,aO,aI,zB,ix],rfl,0,by omega,by omega,rfl⟩);rintro N' st ⟨i,rfl,hi,rfl⟩;simp only [dO,aE,aF];refine bj ?_;by_cases bX:i<ps.length;(·have hd:=gX bX;refine af tt_ok fun K hK=>?_;simp only [aq,hd,go_sem];refine hK _ ?_;refine aU rfl (bZ ?_);refine bj (bP ?_);obtain⟨u,hu⟩:∃ u,ps[i]?=some u:=⟨_,ah bX⟩;have WZ:=cb Ty.size hu;have AX:=fc Ty.size hu;have LH:=gj Ty.size ps (i+1);have fK:=qN u.size u (aw _) (by omega);rw [aG] at fK;simp only [ai] at fK;refine aV tt_ok fun K hK=>?_;simp only [b8,hu,aG,ai,go_sem];refine .inl ⟨_,_,by simp only [go_sem,au],fK,?_⟩;(try simp only [go_sem]);refine hK _ ?_;(have hw:IntKind.i64.wrap (((1+aZ Ty.size (ps.take i):Nat):Int)+(u.size:Int))=((1+aZ Ty.size (ps.take (i+1)):Nat):Int):=by rw [n4 _ _ (by omega)]; congr 1; omega);rw [hw];refine aV tt_ok fun K hK=>?_;simp only [go_sem];refine hK _ ?_;have kK:=bB i (by omega);rw [kK];exact⟨ps.length-(i+1),by omega,1,[false,true,false,true,true,true],by omega,by simp only [bp,aH,aO,aI,zB,ix],rfl,i+1,rfl,bX,by simp [rp,bp]⟩);have hd:=gY bX;refine af tt_ok fun K hK=>?_;simp only [aq,hd,go_sem];refine hK _ ?_;refine aU rfl (dZ ?_);(have gB:i=ps.length:=by omega);subst gB;(try rw [au]);show dN _ _ _ _ _ _;refine bj ?_;refine af tt_ok fun K hK=>?_;simp only [go_sem];refine hK _ ?_;obtain⟨ks,Rx⟩:∃ ks,ks=e.kids:=⟨_,rfl⟩;obtain⟨S,hS⟩:∃ S,S=1+aZ Ty.size ps:=⟨_,rfl⟩;rw [← hS];rw [← Rx] at TC lZ Mx;refine bP (cR (fun N st=>∃ (i:Nat),N=ks.length-i∧i≤ks.length ∧ st = { fr:=[.undef,.ptr 0 0,.undef,num ((S+aZ Ex.size (ks.take i):Nat)),.undef,.undef,num i]++List.replicate 31 .undef,mem:=[.box (aC e)] }) ks.length ?_ ?_);(·exact⟨1,[false,true,false,true,false,false,true],by omega,by simp only [bp,aH,aO,aI,zB,ix],rfl,0,by omega,by omega,rfl⟩);rintro N' st ⟨i,rfl,hi,rfl⟩;simp only [aE,aF,aj,ak,aC,← Rx];refine bj ?_;by_cases bX:i<ks.length;(·have hd:=gX bX;refine af tt_ok fun K hK=>?_;simp only [aA,hd,go_sem];refine hK _ ?_;refine aU rfl (bZ ?_);refine bj (bP ?_);obtain⟨u,hu⟩:∃ u,ks[i]?=some u:=⟨_,ah bX⟩;have WZ:=cb Ex.cy hu;have AX:=fc Ex.size hu;have LH:=gj Ex.size ks (i+1);have fK:=ih u (by omega) (by omega);rw [a8] at fK;simp only [aC] at fK;refine aV tt_ok fun K hK=>?_;simp only [dn,hu,a8,aC,go_sem];refine .inl ⟨_,_,by simp only [go_sem,au],fK,?_⟩;(try simp only [go_sem]);refine hK _ ?_;(have hw:IntKind.i64.wrap (((S+aZ Ex.size (ks.take i):Nat):Int)+(u.size:Int))=((S+aZ Ex.size (ks.take (i+1)):Nat):Int):=by rw [n4 _ _ (by omega)]; congr 1; omega);rw [hw];refine aV tt_ok fun K hK=>?_;simp only [go_sem];refine hK _ ?_;have kK:=bB i (by omega);rw [kK];exact⟨ks.length-(i+1),by omega,1,[false,true,false,true,false,false,true],by omega,by simp only [bp,aH,aO,aI,zB,ix],rfl,i+1,rfl,bX,by simp [rp,bp,aC,← Rx]⟩);have hd:=gY bX;refine af tt_ok fun K hK=>?_;simp only [aA,hd,go_sem];refine hK _ ?_;refine aU rfl (dZ ?_);(have gB:i=ks.length:=by omega);subst gB;(try rw [au]);show dN _ _ _ _ _ _;refine af tt_ok fun K hK=>?_;simp only [go_sem];refine hK _ ?_;refine bK ⟨.inl rfl,?_⟩;(have mz:S+aZ Ex.size ks=e.size:=by omega);rw [mz];simp [pV,mZ,oe,Tryz.f29,DR,gu,dg,jX]
noncomputable def sX {α:Type} (a b:α):Bool:=@decide (a=b) (Classical.propDecidable _)
theorem eh {α:Type} {a b:α} (h:a=b):sX a b=true:=by unfold sX; exact @decide_eq_true _ (Classical.propDecidable _) h
theorem cO {α:Type} {a b:α} (h:¬ a=b):sX a b=false:=by unfold sX; exact @decide_eq_false _ (Classical.propDecidable _) h
theorem rG {α:Type} {a b:α}:sX a b=true↔a=b:=by refine⟨fun h=>Classical.byContradiction fun hn=>?_,eh⟩;rw [cO hn] at h; cases h
theorem mB (a b:ByteArray):(a.toList==b.toList)=sX a b:=by
 have inj:a.toList=b.toList→a=b:=fun h=>by rw [ByteArray.toList_eq,ByteArray.toList_eq] at h;exact anB (aeq.1 h)
 by_cases h:a=b;·rw [eh h,h]; simp
 rw [cO h]; simpa using fun e=>h (inj e)

theorem Fb (g:FuncId) (ts us:List Ty) (hl:ts.length≤1048576) (hg:∀ (i:Nat) (t u:Ty),ts[i]?=some t→us[i]?=some u→bG ab g [cf t,cf u] (bl (sX t u))) :
  bG ab 224 [.slice (aQ ts),.slice (aQ us),.sc (.func (.func g) #[] #[])] (bl (sX ts us)):=by
 refine je tt_ok (fn:=Tryz.f224) Tryz.func224 rfl Tryz.call224 ?_;simp only [dO,cn,Tryz.ntmps224,aD,aM,zA,zF,aE,aF];refine af tt_ok fun K hK=>?_;simp only [go_sem];refine hK _ ?_;refine bj ?_;by_cases hlen:ts.length=us.length;·(have hd:(!decide ((ts.length:Int)=(us.length:Int)))=false:=by simp [hlen]);refine af tt_ok fun K hK=>?_;simp only [aq,hd,go_sem];refine hK _ ?_;refine aU rfl (bZ ?_);show dN _ _ _ _ _ _;refine bj ?_;refine af tt_ok fun K hK=>?_;simp only [aq,go_sem];refine hK _ ?_;refine bP (cR (fun N st=>∃ (i:Nat),N=ts.length-i∧i≤ts.length∧ts.take i=us.take i ∧ st = { fr:=[.undef,.slice (aQ us),.sc (.func (.func g) #[] #[]),.undef,.undef,.undef,.undef,.undef,.undef,.undef,.undef,.undef,.undef,.undef,.undef,.slice (aQ ts),num ts.length,num i]++List.replicate 14 .undef,mem:=[] }) ts.length ?_ ?_);(·exact⟨0,(false::true::true::(rp 12 false [true,true,true])),by omega,by simp only [bp,aH,aO,aI,zB,ix],rfl,0,by omega,by omega,by simp,rfl⟩);rintro N' st ⟨i,rfl,hi,tq,rfl⟩;simp only [dO,aE,aF];by_cases bX:i<ts.length;(·have hd:=gX bX;refine af tt_ok fun K hK=>?_;simp only [hd,go_sem];refine hK _ ?_;refine bj (aU rfl (bZ ?_));refine bj (bP ?_);obtain⟨t,ht⟩:∃ t,ts[i]?=some t:=⟨_,ah bX⟩;obtain⟨u,hu⟩:∃ u,us[i]?=some u:=⟨_,ah (by omega)⟩;have Oa:=hg i t u ht hu;rw [aG,aG] at Oa;simp only [ai] at Oa;refine af tt_ok fun K hK=>?_;simp only [b8,ht,aG,ai,go_sem];refine hK _ ?_;refine af tt_ok fun K hK=>?_;simp only [b8,hu,aG,ai,go_sem];refine hK _ ?_;refine af tt_ok fun K hK=>?_;simp only [go_sem];refine .inl ⟨_,_,by simp only [go_sem,au],Oa,?_⟩;(try simp only [go_sem]);refine hK _ ?_;(have Ob:∀ h:t=u,ts.take (i+1)=us.take (i+1):=fun h=>by rw [bC,bC,tq,ht,hu,h]);by_cases Jj:t=u;(·rw [eh Jj];refine aU rfl (bZ ?_);show dN _ _ _ _ _ _;refine aV tt_ok fun K hK=>?_;simp only [go_sem];refine hK _ ?_;have kK:=bB i (by omega);rw [kK];exact⟨ts.length-(i+1),by omega,0,(false::true::true::(rp 12 false [true,true,true])),by omega,by simp only [bp,aH,aO,aI,zB,ix],rfl,i+1,rfl,bX,Ob Jj,rfl⟩);rw [cO Jj];refine aU rfl ?_;refine af tt_ok fun K hK=>?_;simp only [go_sem];refine hK _ ?_;refine bK ⟨.inl rfl,?_⟩;rw [cO (fun e=>Jj (by rw [e,hu] at ht; exact (tu ht).symm))];rfl);have hd:=gY bX;refine af tt_ok fun K hK=>?_;simp only [hd,go_sem];refine hK _ ?_;refine bj (aU rfl (dZ ?_));(have gB:i=ts.length:=by omega);show dN _ _ _ _ _ _;refine af tt_ok fun K hK=>?_;simp only [go_sem];refine hK _ ?_;refine bK ⟨.inl rfl,?_⟩;rw [gB,au,hlen,au] at tq;rw [eh tq];rfl
 have hd:(!decide ((ts.length:Int)=(us.length:Int)))=true:=by simpa using fun e=>hlen (by omega)
 refine af tt_ok fun K hK=>?_;simp only [aq,hd,go_sem];refine hK _ ?_;refine aU rfl ?_;refine af tt_ok fun K hK=>?_;simp only [go_sem];refine hK _ ?_;refine bK ⟨.inl rfl,?_⟩;rw [cO (fun e=>hlen (by rw [e]))];rfl

theorem Fc (g:FuncId) (ts us:List Fd) (hl:ts.length≤1048576) (hg:∀ (i:Nat) (t u:Fd),ts[i]?=some t→us[i]?=some u→bG ab g [lE t,lE u] (bl (sX t u))) :
  bG ab 225 [.slice (bV ts),.slice (bV us),.sc (.func (.func g) #[] #[])] (bl (sX ts us)):=by
 refine je tt_ok (fn:=Tryz.f225) Tryz.func225 rfl Tryz.call225 ?_;simp only [dO,cn,Tryz.ntmps225,aD,aM,zA,zF,aE,aF];refine af tt_ok fun K hK=>?_;simp only [go_sem];refine hK _ ?_;refine bj ?_;by_cases hlen:ts.length=us.length;·(have hd:(!decide ((ts.length:Int)=(us.length:Int)))=false:=by simp [hlen]);refine af tt_ok fun K hK=>?_;simp only [aJ,hd,go_sem];refine hK _ ?_;refine aU rfl (bZ ?_);show dN _ _ _ _ _ _;refine bj ?_;refine af tt_ok fun K hK=>?_;simp only [aJ,go_sem];refine hK _ ?_;refine bP (cR (fun N st=>∃ (i:Nat),N=ts.length-i∧i≤ts.length∧ts.take i=us.take i ∧ st = { fr:=[.undef,.slice (bV us),.sc (.func (.func g) #[] #[]),.undef,.undef,.undef,.undef,.undef,.undef,.undef,.undef,.undef,.undef,.undef,.undef,.slice (bV ts),num ts.length,num i]++List.replicate 14 .undef,mem:=[] }) ts.length ?_ ?_);(·exact⟨0,(false::true::true::(rp 12 false [true,true,true])),by omega,by simp only [bp,aH,aO,aI,zB,ix],rfl,0,by omega,by omega,by simp,rfl⟩);rintro N' st ⟨i,rfl,hi,tq,rfl⟩;simp only [dO,aE,aF];by_cases bX:i<ts.length;(·have hd:=gX bX;refine af tt_ok fun K hK=>?_;simp only [hd,go_sem];refine hK _ ?_;refine bj (aU rfl (bZ ?_));refine bj (bP ?_);obtain⟨t,ht⟩:∃ t,ts[i]?=some t:=⟨_,ah bX⟩;obtain⟨u,hu⟩:∃ u,us[i]?=some u:=⟨_,ah (by omega)⟩;have Oa:=hg i t u ht hu;rw [bN,bN] at Oa;simp only [dO,ai] at Oa;refine af tt_ok fun K hK=>?_;simp only [bI,ht,bN,ai,go_sem];refine hK _ ?_;refine af tt_ok fun K hK=>?_;simp only [bI,hu,bN,ai,go_sem];refine hK _ ?_;refine af tt_ok fun K hK=>?_;simp only [go_sem];refine .inl ⟨_,_,by simp only [go_sem,au],Oa,?_⟩;(try simp only [go_sem]);refine hK _ ?_;(have Ob:∀ h:t=u,ts.take (i+1)=us.take (i+1):=fun h=>by rw [bC,bC,tq,ht,hu,h]);by_cases Jj:t=u;(·rw [eh Jj];refine aU rfl (bZ ?_);show dN _ _ _ _ _ _;refine aV tt_ok fun K hK=>?_;simp only [go_sem];refine hK _ ?_;have kK:=bB i (by omega);rw [kK];exact⟨ts.length-(i+1),by omega,0,(false::true::true::(rp 12 false [true,true,true])),by omega,by simp only [bp,aH,aO,aI,zB,ix],rfl,i+1,rfl,bX,Ob Jj,rfl⟩);rw [cO Jj];refine aU rfl ?_;refine af tt_ok fun K hK=>?_;simp only [go_sem];refine hK _ ?_;refine bK ⟨.inl rfl,?_⟩;rw [cO (fun e=>Jj (by rw [e,hu] at ht; exact (tu ht).symm))];rfl);have hd:=gY bX;refine af tt_ok fun K hK=>?_;simp only [hd,go_sem];refine hK _ ?_;refine bj (aU rfl (dZ ?_));(have gB:i=ts.length:=by omega);show dN _ _ _ _ _ _;refine af tt_ok fun K hK=>?_;simp only [go_sem];refine hK _ ?_;refine bK ⟨.inl rfl,?_⟩;rw [gB,au,hlen,au] at tq;rw [eh tq];rfl
 have hd:(!decide ((ts.length:Int)=(us.length:Int)))=true:=by simpa using fun e=>hlen (by omega)
 refine af tt_ok fun K hK=>?_;simp only [aJ,hd,go_sem];refine hK _ ?_;refine aU rfl ?_;refine af tt_ok fun K hK=>?_;simp only [go_sem];refine hK _ ?_;refine bK ⟨.inl rfl,?_⟩;rw [cO (fun e=>hlen (by rw [e]))];rfl
theorem Ty.ext_iff (t u:Ty):t=u↔t.kind=u.kind∧t.mod=u.mod∧t.name=u.name∧t.args=u.args∧t.bd=u.bd:=by obtain⟨k,m,n,ts,fs⟩:=t;obtain⟨k',m',n',ts',fs'⟩:=u;simp [Ty.kind,Ty.mod,Ty.name,Ty.args,Ty.bd]
theorem Fd.ext_iff (t u:Fd):t=u↔t.name=u.name∧t.opt=u.opt∧t.ty=u.ty:=by obtain⟨n,t,o⟩:=t;obtain⟨n',t',o'⟩:=u;simp only [Fd.name,Fd.opt,Fd.ty,Fd.mk.injEq];exact⟨fun h=>⟨h.1,h.2.2,h.2.1⟩,fun h=>⟨h.1,h.2.2,h.2.1⟩⟩

theorem Se (t u:Fd) (h:bG ab 171 [cf t.ty,cf u.ty] (bl (sX t.ty u.ty))):bG ab 226 [lE t,lE u] (bl (sX t u)):=by
 refine je tt_ok (fn:=Tryz.f226) Tryz.func226 rfl Tryz.call226 ?_;simp only [dO,cn,Tryz.ntmps226,aD,aM,zA,zF,aE,aF];rw [aG,aG] at h;rw [bN,bN];simp only [dO,ai] at h ⊢;have e1:=mB t.name u.name;have hT:ab.underlying 4=some .bool:=by kernel_rfl
 have e2:=fun x y=>Re (P:=ab) (T:=4) x y hT;refine af tt_ok fun K hK=>?_;simp only [go_sem];refine hK _ ?_;by_cases h1:t.name=u.name;·rw [eh h1] at e1;by_cases h2:t.opt=u.opt;(·(have e3:(t.opt==u.opt)=true:=by simpa using h2);refine af tt_ok fun K hK=>?_;simp only [e1,e2,e3,go_sem];refine .inl ⟨_,_,by simp only [go_sem,au],h,?_⟩;(try simp only [go_sem]);refine hK _ ?_;refine bK ⟨.inl rfl,?_⟩;(have hr:sX t u=sX t.ty u.ty:=by by_cases h3:t.ty=u.ty;(·rw [eh h3,eh ((Fd.ext_iff t u).2 ⟨h1,h2,h3⟩)]);rw [cO h3,cO fun e=>h3 ((Fd.ext_iff t u).1 e).2.2]);rw [hr]; rfl);(have e3:(t.opt==u.opt)=false:=by simpa using h2);refine af tt_ok fun K hK=>?_;simp only [e1,e2,e3,go_sem];refine hK _ ?_;refine bK ⟨.inl rfl,?_⟩;rw [cO fun e=>h2 ((Fd.ext_iff t u).1 e).2.1]; rfl
 rw [cO h1] at e1;refine af tt_ok fun K hK=>?_;simp only [e1,go_sem];refine hK _ ?_;refine bK ⟨.inl rfl,?_⟩;rw [cO fun e=>h1 ((Fd.ext_iff t u).1 e).1]; rfl
theorem Ty.Bn {t a:Ty} {i:Nat} (h:t.args[i]?=some a):a.size<t.size:=by
 have h1:t.parts[i]?=some a:=by unfold Ty.parts;rw [bm (ax.1 h).1]; exact h
 have:=cb Ty.size h1; have:=t.de; omega
theorem Ty.Bo {t:Ty} {f:Fd} {i:Nat} (h:t.bd[i]?=some f):f.ty.size<t.size:=by
 have h1:t.parts[t.args.length+i]?=some f.ty:=by unfold Ty.parts;rw [aW (by omega),dM,ae,h]; rfl
 have:=cb Ty.size h1; have:=t.de; omega

theorem Fe:∀ (N:Nat) (t u:Ty),t.size≤N→N≤1048576→bG ab 171 [cf t,cf u] (bl (sX t u)):=by intro N;induction N with | zero=>intro t u h; have:=t.size_pos; omega | succ N ih =>intro t u hN hb;have Ap:=t.fG;have hA:=Fb 171 t.args u.args (by omega) fun i a b ha _=>ih a b (by have:=Ty.Bn ha; omega) (by omega);have hF:=Fc 226 t.bd u.bd (by omega) fun i a b ha _=>Se a b (ih a.ty b.ty (by have:=Ty.Bo ha; omega) (by omega));refine je tt_ok (fn:=Tryz.f171) Tryz.func171 rfl Tryz.call171 ?_;simp only [dO,cn,Tryz.ntmps171,aD,aM,zA,zF,aE,aF];rw [aG,aG];simp only [ai];have e2:=mB t.mod u.mod;have e3:=mB t.name u.name;refine af tt_ok fun K hK=>?_;simp only [go_sem];refine hK _ ?_;by_cases h1:t.kind=u.kind;(·have d1:decide (t.kind=u.kind)=true:=decide_eq_true h1;by_cases h2:t.mod=u.mod;(·rw [eh h2] at e2;by_cases h3:t.name=u.name;(·rw [eh h3] at e3;by_cases h4:t.args=u.args;(·rw [eh h4] at hA;by_cases h5:t.bd=u.bd;(·rw [eh h5] at hF;refine af tt_ok fun K hK=>?_;simp only [d1,e2,e3,go_sem];refine .inl ⟨_,_,by simp only [go_sem,au],hA,?_⟩;(try simp only [go_sem]);refine .inl ⟨_,_,by simp only [go_sem,au],hF,?_⟩;(try simp only [go_sem]);refine hK _ ?_;refine bK ⟨.inl rfl,?_⟩;rw [eh ((Ty.ext_iff t u).2 ⟨h1,h2,h3,h4,h5⟩)]; rfl);rw [cO h5] at hF;refine af tt_ok fun K hK=>?_;simp only [d1,e2,e3,go_sem];refine .inl ⟨_,_,by simp only [go_sem,au],hA,?_⟩;(try simp only [go_sem]);refine .inl ⟨_,_,by simp only [go_sem,au],hF,?_⟩;(try simp only [go_sem]);refine hK _ ?_;refine bK ⟨.inl rfl,?_⟩;rw [cO fun e=>h5 ((Ty.ext_iff t u).1 e).2.2.2.2]; rfl);rw [cO h4] at hA;refine af tt_ok fun K hK=>?_;simp only [d1,e2,e3,go_sem];refine .inl ⟨_,_,by simp only [go_sem,au],hA,?_⟩;(try simp only [go_sem]);refine hK _ ?_;refine bK ⟨.inl rfl,?_⟩;rw [cO fun e=>h4 ((Ty.ext_iff t u).1 e).2.2.2.1]; rfl);rw [cO h3] at e3;refine af tt_ok fun K hK=>?_;simp only [d1,e2,e3,go_sem];refine hK _ ?_;refine bK ⟨.inl rfl,?_⟩;rw [cO fun e=>h3 ((Ty.ext_iff t u).1 e).2.2.1]; rfl);rw [cO h2] at e2;refine af tt_ok fun K hK=>?_;simp only [d1,e2,go_sem];refine hK _ ?_;refine bK ⟨.inl rfl,?_⟩;rw [cO fun e=>h2 ((Ty.ext_iff t u).1 e).2.1]; rfl);have d1:decide (t.kind=u.kind)=false:=decide_eq_false h1;refine af tt_ok fun K hK=>?_;simp only [d1,go_sem];refine hK _ ?_;refine bK ⟨.inl rfl,?_⟩;rw [cO fun e=>h1 ((Ty.ext_iff t u).1 e).1]; rfl
section
attribute [local irreducible] runM gv rY
theorem KE (ts us:List Ty) (hl:ts.length≤1048576) (hg:∀ (i:Nat) (t u:Ty),ts[i]?=some t→us[i]?=some u→bG ab 76 [cf t,cf u] (bl (sX t u))) :
  bG ab 128 [.slice (aQ ts),.slice (aQ us)] (bl (sX ts us)):=by
 refine je tt_ok (fn:=Tryz.f128) Tryz.func128 rfl Tryz.call128 ?_;simp only [dO,cn,Tryz.ntmps128,aD,aM,zA,zF,aE,aF];refine af tt_ok fun K hK=>?_;simp only [go_sem];refine hK _ ?_;refine bj ?_;by_cases hlen:ts.length=us.length;·(have hd:(!decide ((ts.length:Int)=(us.length:Int)))=false:=by simp [hlen]);refine af tt_ok fun K hK=>?_;simp only [aq,hd,go_sem];refine hK _ ?_;refine aU rfl (bZ ?_);show dN _ _ _ _ _ _;refine bj ?_;refine af tt_ok fun K hK=>?_;simp only [go_sem];refine hK _ ?_;refine bP (cR (fun N st=>∃ (i:Nat),N=ts.length-i∧i≤ts.length∧ts.take i=us.take i ∧ st = { fr:=[.slice (aQ ts),.slice (aQ us),.undef,.undef,.undef,num i]++List.replicate 21 .undef,mem:=[] }) ts.length ?_ ?_);(·exact⟨0,[true,true,false,false,false,true],by omega,by simp only [bp,aH,aO,aI,zB,ix],rfl,0,by omega,by omega,by simp,rfl⟩);rintro N' st ⟨i,rfl,hi,tq,rfl⟩;simp only [dO,aE,aF];refine bj ?_;by_cases bX:i<ts.length;(·have hd:=gX bX;refine af tt_ok fun K hK=>?_;simp only [aq,hd,go_sem];refine hK _ ?_;refine aU rfl (bZ ?_);refine bj (bP ?_);obtain⟨t,ht⟩:∃ t,ts[i]?=some t:=⟨_,ah bX⟩;obtain⟨u,hu⟩:∃ u,us[i]?=some u:=⟨_,ah (by omega)⟩;have Oa:=hg i t u ht hu;rw [aG,aG] at Oa;simp only [ai] at Oa;refine oh tt_ok bU [⟨.n,0,[],[],[]⟩,⟨.n,0,[],[],[]⟩,⟨.r,0,[],[],[]⟩,⟨.r,0,[],[],[]⟩,⟨.n,0,[],[],[]⟩,⟨.n,0,[],[],[]⟩,⟨.r,0,[],[],[]⟩,⟨.r,0,[],[],[]⟩,⟨.n,0,[],[],[]⟩,⟨.n,0,[],[],[]⟩] 0 (by kernel_rfl) fun K hK=>?_;simp only [b8,ht,hu,aG,ai,go_sem,List.replicate];refine⟨_,_,by simp only [go_sem,au],.inl (Oa),?_⟩;(try simp only [go_sem,List.replicate]);refine hK _ ?_;(have Ob:∀ h:t=u,ts.take (i+1)=us.take (i+1):=fun h=>by rw [bC,bC,tq,ht,hu,h]);by_cases Jj:t=u;(·rw [eh Jj];refine aU rfl (bZ ?_);show dN _ _ _ _ _ _;refine aV tt_ok fun K hK=>?_;simp only [go_sem];refine hK _ ?_;have kK:=bB i (by omega);rw [kK];exact⟨ts.length-(i+1),by omega,0,[true,true,false,false,false,true],by omega,by simp only [bp,aH,aO,aI,zB,ix],rfl,i+1,rfl,bX,Ob Jj,rfl⟩);rw [cO Jj];refine aU rfl ?_;refine af tt_ok fun K hK=>?_;simp only [go_sem];refine hK _ ?_;refine bK ⟨.inl rfl,?_⟩;rw [cO (fun e=>Jj (by rw [e,hu] at ht; exact (tu ht).symm))];rfl);have hd:=gY bX;refine af tt_ok fun K hK=>?_;simp only [aq,hd,go_sem];refine hK _ ?_;refine aU rfl (dZ ?_);(have gB:i=ts.length:=by omega);subst gB;show dN _ _ _ _ _ _;refine af tt_ok fun K hK=>?_;simp only [go_sem];refine hK _ ?_;refine bK ⟨.inl rfl,?_⟩;(have he:ts=us:=by rw [au] at tq;rw [tq,hlen,au]);rw [eh he]; rfl
 have hd:(!decide ((ts.length:Int)=(us.length:Int)))=true:=by simp; omega
 refine af tt_ok fun K hK=>?_;simp only [aq,hd,go_sem];refine hK _ ?_;refine aU rfl ?_;refine af tt_ok fun K hK=>?_;simp only [go_sem];refine hK _ ?_;refine bK ⟨.inl rfl,?_⟩;rw [cO (fun e=>hlen (by rw [e]))]; rfl

def me (id:Nat):Code→Option (Array Oper)
 | .region j ops _=>if j=id then some ops else none
 | .seq a b=>match me id a with | some x=>some x | none=>me id b
 | .cond _ a b=>match me id a with | some x=>some x | none=>me id b
 | .block _ c=>me id c
 | .loop c=>me id c
 | _=>none
def xK (id:Nat) (fn:Func):Option (Array Oper):=match fn.body with | some b=>me id b | none=>none
def CN (t u:Ty) (i:Nat) (b:Bool) (K:St→Prop):Prop:=∀ fr:List V,bp ([false,false,true,true,false,true]++List.replicate 78 false++[true]) fr=[.undef,.undef,.ptr 0 0,.ptr 1 0,.undef,num i]++List.replicate 78 .undef++[bl b]++List.replicate 5 .undef →
 K { fr:=fr,mem:=[.box (ai t),.box (ai u)] }
section
variable {t u:Ty} {i:Nat} {f g:Fd} (hf:t.bd[i]?=some f) (hg:u.bd[i]?=some g) {a0 a b c d:V} {K:St→Prop} {ops:Array Oper} (ho:xK 6 Tryz.f76=some ops)
include hf hg ho in
theorem HB (h5:¬ f.name=g.name) (hK:CN t u i true K) :
  runM ab tt ops 2 ops.toList [⟨.n,0,[],[],[]⟩,⟨.r,0,[],[],[]⟩,⟨.n,0,[],[],[]⟩,⟨.r,0,[],[],[]⟩,⟨.n,0,[],[],[]⟩,⟨.r,0,[],[],[]⟩,⟨.n,0,[],[],[]⟩,⟨.r,0,[],[],[]⟩,⟨.n,0,[],[],[]⟩,⟨.r,0,[],[],[]⟩,⟨.n,0,[],[],[]⟩,⟨.r,0,[],[],[]⟩,⟨.n,0,[],[],[]⟩,⟨.n,0,[],[],[]⟩,⟨.n,0,[],[],[]⟩,⟨.r,0,[],[],[]⟩,⟨.n,0,[],[],[]⟩,⟨.r,0,[],[],[]⟩,⟨.n,0,[],[],[]⟩,⟨.r,0,[],[],[]⟩,⟨.n,0,[],[],[]⟩,⟨.r,0,[],[],[]⟩,⟨.n,0,[],[],[]⟩,⟨.r,0,[],[],[]⟩,⟨.n,0,[],[],[]⟩,⟨.r,0,[],[],[]⟩,⟨.n,0,[],[],[]⟩,⟨.n,0,[],[],[]⟩,⟨.n,0,[],[],[]⟩,⟨.n,0,[],[],[]⟩,⟨.r,0,[],[],[]⟩,⟨.n,0,[],[],[]⟩,⟨.r,0,[],[],[]⟩,⟨.n,0,[],[],[]⟩,⟨.r,0,[],[],[]⟩,⟨.n,0,[],[],[]⟩,⟨.r,0,[],[],[]⟩,⟨.n,0,[],[],[]⟩,⟨.r,0,[],[],[]⟩,⟨.n,0,[],[],[]⟩,⟨.r,0,[],[],[]⟩,⟨.n,0,[],[],[]⟩,⟨.n,0,[],[],[]⟩,⟨.n,0,[],[],[]⟩] { fr:=[.undef,.undef,.ptr 0 0,.ptr 1 0,.undef,num i]++List.replicate 28 .undef++[a0,a,b,c,d]++List.replicate 51 .undef,mem:=[.box (ai t),.box (ai u)]++List.replicate 0 .hole } K:=by
 simp only [xK,Tryz.f76,me,zE,if_false,if_true,reduceIte,aB] at ho;subst ho;have e5:=mB f.name g.name;have hT:ab.underlying 4=some .bool:=by kernel_rfl
 have e6:=fun x y=>Ce (P:=ab) (T:=4) x y hT;rw [cO h5] at e5;simp only [dO,aE,aF,ai];refine dS 5 (by simp) (by simp) fun K1 kT=>?_;simp only [bI,hf,hg,bN,ai,e5,go_sem,List.replicate];refine kT _ ?_;refine dS 5 (by simp) (by simp) fun K1 kT=>?_;simp only [bI,hf,hg,bN,ai,e5,go_sem,List.replicate];refine kT _ ?_;refine dS 5 (by simp) (by simp) fun K1 kT=>?_;simp only [bI,hf,hg,bN,ai,e5,go_sem,List.replicate];refine kT _ ?_;refine dS 5 (by simp) (by simp) fun K1 kT=>?_;simp only [bI,hf,hg,bN,ai,e5,go_sem,List.replicate];refine kT _ ?_;refine dS 5 (by simp) (by simp) fun K1 kT=>?_;simp only [bI,hf,hg,bN,ai,e5,go_sem,List.replicate];refine kT _ ?_;refine dS 5 (by simp) (by simp) fun K1 kT=>?_;simp only [bI,hf,hg,bN,ai,e5,go_sem,List.replicate];refine kT _ ?_;refine dS 5 (by simp) (by simp) fun K1 kT=>?_;simp only [bI,hf,hg,bN,ai,e5,go_sem,List.replicate];refine kT _ ?_;refine dS 5 (by simp) (by simp) fun K1 kT=>?_;simp only [bI,hf,hg,bN,ai,e5,go_sem,List.replicate];refine kT _ ?_;simp only [go_sem,List.replicate];exact hK _ (by simp only [bp,aE,aF,aj,ak,ix])
include hf hg ho in
theorem KF (h5:f.name=g.name) (h6:¬ f.opt=g.opt) (hK:CN t u i true K) :
  runM ab tt ops 2 ops.toList [⟨.n,0,[],[],[]⟩,⟨.r,0,[],[],[]⟩,⟨.n,0,[],[],[]⟩,⟨.r,0,[],[],[]⟩,⟨.n,0,[],[],[]⟩,⟨.r,0,[],[],[]⟩,⟨.n,0,[],[],[]⟩,⟨.r,0,[],[],[]⟩,⟨.n,0,[],[],[]⟩,⟨.r,0,[],[],[]⟩,⟨.n,0,[],[],[]⟩,⟨.r,0,[],[],[]⟩,⟨.n,0,[],[],[]⟩,⟨.n,0,[],[],[]⟩,⟨.n,0,[],[],[]⟩,⟨.r,0,[],[],[]⟩,⟨.n,0,[],[],[]⟩,⟨.r,0,[],[],[]⟩,⟨.n,0,[],[],[]⟩,⟨.r,0,[],[],[]⟩,⟨.n,0,[],[],[]⟩,⟨.r,0,[],[],[]⟩,⟨.n,0,[],[],[]⟩,⟨.r,0,[],[],[]⟩,⟨.n,0,[],[],[]⟩,⟨.r,0,[],[],[]⟩,⟨.n,0,[],[],[]⟩,⟨.n,0,[],[],[]⟩,⟨.n,0,[],[],[]⟩,⟨.n,0,[],[],[]⟩,⟨.r,0,[],[],[]⟩,⟨.n,0,[],[],[]⟩,⟨.r,0,[],[],[]⟩,⟨.n,0,[],[],[]⟩,⟨.r,0,[],[],[]⟩,⟨.n,0,[],[],[]⟩,⟨.r,0,[],[],[]⟩,⟨.n,0,[],[],[]⟩,⟨.r,0,[],[],[]⟩,⟨.n,0,[],[],[]⟩,⟨.r,0,[],[],[]⟩,⟨.n,0,[],[],[]⟩,⟨.n,0,[],[],[]⟩,⟨.n,0,[],[],[]⟩] { fr:=[.undef,.undef,.ptr 0 0,.ptr 1 0,.undef,num i]++List.replicate 28 .undef++[a0,a,b,c,d]++List.replicate 51 .undef,mem:=[.box (ai t),.box (ai u)]++List.replicate 0 .hole } K:=by
 simp only [xK,Tryz.f76,me,zE,if_false,if_true,reduceIte,aB] at ho;subst ho;have e5:=mB f.name g.name;have hT:ab.underlying 4=some .bool:=by kernel_rfl
 have e6:=fun x y=>Ce (P:=ab) (T:=4) x y hT;rw [eh h5] at e5;have e7:(f.opt==g.opt)=false:=by simpa using h6
 simp only [dO,aE,aF,ai];refine dS 5 (by simp) (by simp) fun K1 kT=>?_;simp only [bI,hf,hg,bN,ai,e5,e6,e7,go_sem,List.replicate];refine kT _ ?_;refine dS 5 (by simp) (by simp) fun K1 kT=>?_;simp only [bI,hf,hg,bN,ai,e5,e6,e7,go_sem,List.replicate];refine kT _ ?_;refine dS 5 (by simp) (by simp) fun K1 kT=>?_;simp only [bI,hf,hg,bN,ai,e5,e6,e7,go_sem,List.replicate];refine kT _ ?_;refine dS 5 (by simp) (by simp) fun K1 kT=>?_;simp only [bI,hf,hg,bN,ai,e5,e6,e7,go_sem,List.replicate];refine kT _ ?_;refine dS 5 (by simp) (by simp) fun K1 kT=>?_;simp only [bI,hf,hg,bN,ai,e5,e6,e7,go_sem,List.replicate];refine kT _ ?_;refine dS 5 (by simp) (by simp) fun K1 kT=>?_;simp only [bI,hf,hg,bN,ai,e5,e6,e7,go_sem,List.replicate];refine kT _ ?_;refine dS 5 (by simp) (by simp) fun K1 kT=>?_;simp only [bI,hf,hg,bN,ai,e5,e6,e7,go_sem,List.replicate];refine kT _ ?_;refine dS 5 (by simp) (by simp) fun K1 kT=>?_;simp only [bI,hf,hg,bN,ai,e5,e6,e7,go_sem,List.replicate];refine kT _ ?_;simp only [go_sem,List.replicate];exact hK _ (by simp only [bp,aE,aF,aj,ak,ix])
include hf hg ho in
theorem Ff (h5:f.name=g.name) (h6:f.opt=g.opt) (r:Bool) (fK:bG ab 76 [.agg (ai f.ty),.agg (ai g.ty)] (bl r)) (hK:CN t u i (!r) K) :
  runM ab tt ops 2 ops.toList [⟨.n,0,[],[],[]⟩,⟨.r,0,[],[],[]⟩,⟨.n,0,[],[],[]⟩,⟨.r,0,[],[],[]⟩,⟨.n,0,[],[],[]⟩,⟨.r,0,[],[],[]⟩,⟨.n,0,[],[],[]⟩,⟨.r,0,[],[],[]⟩,⟨.n,0,[],[],[]⟩,⟨.r,0,[],[],[]⟩,⟨.n,0,[],[],[]⟩,⟨.r,0,[],[],[]⟩,⟨.n,0,[],[],[]⟩,⟨.n,0,[],[],[]⟩,⟨.n,0,[],[],[]⟩,⟨.r,0,[],[],[]⟩,⟨.n,0,[],[],[]⟩,⟨.r,0,[],[],[]⟩,⟨.n,0,[],[],[]⟩,⟨.r,0,[],[],[]⟩,⟨.n,0,[],[],[]⟩,⟨.r,0,[],[],[]⟩,⟨.n,0,[],[],[]⟩,⟨.r,0,[],[],[]⟩,⟨.n,0,[],[],[]⟩,⟨.r,0,[],[],[]⟩,⟨.n,0,[],[],[]⟩,⟨.n,0,[],[],[]⟩,⟨.n,0,[],[],[]⟩,⟨.n,0,[],[],[]⟩,⟨.r,0,[],[],[]⟩,⟨.n,0,[],[],[]⟩,⟨.r,0,[],[],[]⟩,⟨.n,0,[],[],[]⟩,⟨.r,0,[],[],[]⟩,⟨.n,0,[],[],[]⟩,⟨.r,0,[],[],[]⟩,⟨.n,0,[],[],[]⟩,⟨.r,0,[],[],[]⟩,⟨.n,0,[],[],[]⟩,⟨.r,0,[],[],[]⟩,⟨.n,0,[],[],[]⟩,⟨.n,0,[],[],[]⟩,⟨.n,0,[],[],[]⟩] { fr:=[.undef,.undef,.ptr 0 0,.ptr 1 0,.undef,num i]++List.replicate 28 .undef++[a0,a,b,c,d]++List.replicate 51 .undef,mem:=[.box (ai t),.box (ai u)]++List.replicate 0 .hole } K:=by
 simp only [xK,Tryz.f76,me,zE,if_false,if_true,reduceIte,aB] at ho;subst ho;have e5:=mB f.name g.name;have hT:ab.underlying 4=some .bool:=by kernel_rfl
 have e6:=fun x y=>Ce (P:=ab) (T:=4) x y hT;rw [eh h5] at e5;have e7:(f.opt==g.opt)=true:=by simpa using h6
 simp only [ai] at fK;simp only [dO,aE,aF,ai];refine dS 5 (by simp) (by simp) fun K1 kT=>?_;simp only [bI,hf,hg,bN,ai,e5,e6,e7,go_sem,List.replicate];refine kT _ ?_;refine dS 5 (by simp) (by simp) fun K1 kT=>?_;simp only [bI,hf,hg,bN,ai,e5,e6,e7,go_sem,List.replicate];refine kT _ ?_;refine dS 5 (by simp) (by simp) fun K1 kT=>?_;simp only [bI,hf,hg,bN,ai,e5,e6,e7,go_sem,List.replicate];refine kT _ ?_;refine dS 5 (by simp) (by simp) fun K1 kT=>?_;simp only [bI,hf,hg,bN,ai,e5,e6,e7,go_sem,List.replicate];refine kT _ ?_;refine dS 5 (by simp) (by simp) fun K1 kT=>?_;simp only [bI,hf,hg,bN,ai,e5,e6,e7,go_sem,List.replicate];refine kT _ ?_;refine dS 5 (by simp) (by simp) fun K1 kT=>?_;simp only [bI,hf,hg,bN,ai,e5,e6,e7,go_sem,List.replicate];refine kT _ ?_;refine dS 5 (by simp) (by simp) fun K1 kT=>?_;simp only [bI,hf,hg,bN,ai,e5,e6,e7,go_sem,List.replicate];refine kT _ ?_;refine dS 5 (by simp) (by simp) fun K1 kT=>?_;simp only [bI,hf,hg,bN,ai,e5,e6,e7,go_sem,List.replicate];refine kT _ ?_;simp only [bI,hf,hg,bN,ai,go_sem,List.replicate];refine⟨_,_,by simp only [go_sem,au],.inl (fK),?_⟩;try simp only [go_sem,List.replicate]
 exact hK _ (by simp only [bp,aE,aF,aj,ak,ix])
end

theorem zf:∀ (N:Nat) (t u:Ty),t.size≤N→N≤1048576→bG ab 76 [cf t,cf u] (bl (sX t u)):=by
 intro N
 induction N with
 | zero=>intro t u h; have:=t.size_pos; omega
 | succ N ih =>
  intro t u hN hb
  have Ap:=t.fG
  have hA:=KE t.args u.args (by omega) fun i a b ha _=>ih a b (by have:=Ty.Bn ha; omega) (by omega)
  refine je tt_ok (fn:=Tryz.f76) Tryz.func76 rfl Tryz.call76 ?_
  simp only [dO,cn,Tryz.ntmps76,aD,aM,zA,zF,aE,aF]
  rw [aG,aG]
  simp only [ai]
  have e2:=mB t.mod u.mod
  have e3:=mB t.name u.name
  refine af tt_ok fun K hK=>?_
  simp only [go_sem]
  refine hK _ ?_
  refine bj ?_
  by_cases er:t.kind=u.kind∧t.mod=u.mod∧t.name=u.name∧t.bd.length=u.bd.length
  ·obtain⟨h1,h2,h3,h4⟩:=er
   have d1:decide (t.kind=u.kind)=true:=decide_eq_true h1
   rw [eh h2] at e2
   rw [eh h3] at e3
   have d4:decide ((t.bd.length:Int)=(u.bd.length:Int))=true:=by simp [h4]
   refine af tt_ok fun K hK=>?_
   simp only [d1,e2,e3,d4,aJ,go_sem]
   refine hK _ ?_
   refine aU rfl (bZ ?_)
   show dN _ _ _ _ _ _
   refine bj ?_
   refine af tt_ok fun K hK=>?_
   simp only [go_sem]
   refine hK _ ?_
   refine bP (cR (fun N st=>∃ (i:Nat),N=t.bd.length-i∧i≤t.bd.length∧t.bd.take i=u.bd.take i ∧
    st = { fr:=[.undef,.undef,.ptr 0 0,.ptr 1 0,.undef,num i]++List.replicate 84 .undef,mem:=[.box (ai t),.box (ai u)] }) t.bd.length ?_ ?_)
   ·exact⟨2,[false,false,true,true,false,true],by omega,by simp only [bp,aH,aO,aI,zB,ix],by simp only [bp,aH,aO,aI,zB,ix],0,by omega,by omega,by simp,rfl⟩
   rintro N' st ⟨i,rfl,hi,tq,rfl⟩
   simp only [dO,aE,aF,ai]
   refine bj ?_
   by_cases bX:i<t.bd.length
   ·have hd:=gX bX
    refine af tt_ok fun K hK=>?_
    simp only [aJ,hd,go_sem]
    refine hK _ ?_
    refine aU rfl (bZ ?_)
    refine bj (bP ?_)
    obtain⟨f,hf⟩:∃ f,t.bd[i]?=some f:=⟨_,ah bX⟩
    obtain⟨g,hg⟩:∃ g,u.bd[i]?=some g:=⟨_,ah (by omega)⟩
    have fK:=ih f.ty g.ty (by have:=Ty.Bo hf; omega) (by omega)
    rw [aG,aG] at fK
    have no:¬ f=g→¬ t=u:=fun h e=>h (by rw [e,hg] at hf; exact (tu hf).symm)
    refine oh tt_ok bU [⟨.n,0,[],[],[]⟩,⟨.r,0,[],[],[]⟩,⟨.n,0,[],[],[]⟩,⟨.r,0,[],[],[]⟩,⟨.n,0,[],[],[]⟩,⟨.r,0,[],[],[]⟩,⟨.n,0,[],[],[]⟩,⟨.r,0,[],[],[]⟩,⟨.n,0,[],[],[]⟩,⟨.r,0,[],[],[]⟩,⟨.n,0,[],[],[]⟩,⟨.r,0,[],[],[]⟩,⟨.n,0,[],[],[]⟩,⟨.n,0,[],[],[]⟩,⟨.n,0,[],[],[]⟩,⟨.r,0,[],[],[]⟩,⟨.n,0,[],[],[]⟩,⟨.r,0,[],[],[]⟩,⟨.n,0,[],[],[]⟩,⟨.r,0,[],[],[]⟩,⟨.n,0,[],[],[]⟩,⟨.r,0,[],[],[]⟩,⟨.n,0,[],[],[]⟩,⟨.r,0,[],[],[]⟩,⟨.n,0,[],[],[]⟩,⟨.r,0,[],[],[]⟩,⟨.n,0,[],[],[]⟩,⟨.n,0,[],[],[]⟩,⟨.n,0,[],[],[]⟩,⟨.n,0,[],[],[]⟩,⟨.r,0,[],[],[]⟩,⟨.n,0,[],[],[]⟩,⟨.r,0,[],[],[]⟩,⟨.n,0,[],[],[]⟩,⟨.r,0,[],[],[]⟩,⟨.n,0,[],[],[]⟩,⟨.r,0,[],[],[]⟩,⟨.n,0,[],[],[]⟩,⟨.r,0,[],[],[]⟩,⟨.n,0,[],[],[]⟩,⟨.r,0,[],[],[]⟩,⟨.n,0,[],[],[]⟩,⟨.n,0,[],[],[]⟩,⟨.n,0,[],[],[]⟩] 0 (by kernel_rfl) fun K hK=>?_
    have Oc:¬ t=u→CN t u i true K:=fun dK fr xv=>by
     refine hK _ ?_
     refine oE 2 ([false,false,true,true,false,true]++List.replicate 78 false++[true]) (by omega) (by rw [xv]; simp only [aE,aF,aj,ak,bp,aH,aO,aI,zB,ix]) (by simp only [ai,bp,aH,aO,aI,zB,ix]) ?_
     rw [xv]
     simp only [dO,aE,aF]
     refine aU rfl ?_
     refine af tt_ok fun K hK=>?_
     simp only [go_sem]
     refine hK _ ?_
     refine bK ⟨.inl rfl,?_⟩
     rw [cO dK]; rfl
    by_cases h5:f.name=g.name
    ·by_cases h6:f.opt=g.opt
     ·by_cases h7:f.ty=g.ty
      ·rw [eh h7] at fK
       refine Ff hf hg rfl h5 h6 true fK fun fr xv=>?_
       refine hK _ ?_
       refine oE 2 ([false,false,true,true,false,true]++List.replicate 78 false++[true]) (by omega) (by rw [xv]; simp only [aE,aF,aj,ak,bp,aH,aO,aI,zB,ix]) (by simp only [ai,bp,aH,aO,aI,zB,ix]) ?_
       rw [xv]
       simp only [dO,aE,aF]
       refine aU rfl (bZ ?_)
       show dN _ _ _ _ _ _
       refine aV tt_ok fun K hK=>?_
       simp only [go_sem]
       refine hK _ ?_
       have kK:=bB i (by omega)
       rw [kK]
       have hfg:f=g:=(Fd.ext_iff f g).2 ⟨h5,h6,h7⟩
       exact⟨t.bd.length-(i+1),by omega,2,[false,false,true,true,false,true],by omega,by simp only [bp,aH,aO,aI,zB,ix],by simp only [ai,bp,aH,aO,aI,zB,ix],i+1,rfl,bX,by rw [bC,bC,tq,hf,hg,hfg],rfl⟩
      rw [cO h7] at fK
      exact Ff hf hg rfl h5 h6 false fK (Oc (no fun e=>h7 ((Fd.ext_iff f g).1 e).2.2))
     exact KF hf hg rfl h5 h6 (Oc (no fun e=>h6 ((Fd.ext_iff f g).1 e).2.1))
    exact HB hf hg rfl h5 (Oc (no fun e=>h5 ((Fd.ext_iff f g).1 e).1))
   have hd:=gY bX
   refine af tt_ok fun K hK=>?_
   simp only [aJ,hd,go_sem]
   refine hK _ ?_
   refine aU rfl (dZ ?_)
   have gB:i=t.bd.length:=by omega
   subst gB
   show dN _ _ _ _ _ _
   refine af tt_ok fun K hK=>?_
   simp only [go_sem]
   refine .inl ⟨_,_,by simp only [go_sem,au],hA,?_⟩
   try simp only [go_sem]
   refine hK _ ?_
   refine bK ⟨.inl rfl,?_⟩
   have Me:t.bd=u.bd:=by
    rw [au] at tq
    rw [tq,h4,au]
   by_cases h8:t.args=u.args
   ·rw [eh h8,eh ((Ty.ext_iff t u).2 ⟨h1,h2,h3,h8,Me⟩)]; rfl
   rw [cO h8,cO fun e=>h8 ((Ty.ext_iff t u).1 e).2.2.2.1]; rfl
  have fin:∀ x,x=false→sX t u=x:=fun x hx=>by
   rw [hx]
   refine cO fun e=>er ?_
   obtain⟨h1,h2,h3,-,h5⟩:=(Ty.ext_iff t u).1 e
   exact⟨h1,h2,h3,by rw [h5]⟩
  rw [fin false rfl]
  have no:decide (t.kind=u.kind)=true→sX t.mod u.mod=true→sX t.name u.name=true→decide ((t.bd.length:Int)=(u.bd.length:Int))=true→False:=fun a b c d =>
   er ⟨of_decide_eq_true a,rG.1 b,rG.1 c,by have:=of_decide_eq_true d; omega⟩
  cases d1:decide (t.kind=u.kind) with
  | false =>
   refine af tt_ok fun K hK=>?_
   simp only [d1,go_sem]
   refine hK _ ?_
   refine aU rfl ?_
   refine af tt_ok fun K hK=>?_
   simp only [go_sem]
   refine hK _ ?_
   exact bK ⟨.inl rfl,rfl⟩
  | true =>
   cases d2:sX t.mod u.mod with
   | false =>
    rw [d2] at e2
    refine af tt_ok fun K hK=>?_
    simp only [d1,e2,go_sem]
    refine hK _ ?_
    refine aU rfl ?_
    refine af tt_ok fun K hK=>?_
    simp only [go_sem]
    refine hK _ ?_
    exact bK ⟨.inl rfl,rfl⟩
   | true =>
    rw [d2] at e2
    cases d3:sX t.name u.name with
    | false =>
     rw [d3] at e3
     refine af tt_ok fun K hK=>?_
     simp only [d1,e2,e3,go_sem]
     refine hK _ ?_
     refine aU rfl ?_
     refine af tt_ok fun K hK=>?_
     simp only [go_sem]
     refine hK _ ?_
     exact bK ⟨.inl rfl,rfl⟩
    | true =>
     rw [d3] at e3
     cases d4:decide ((t.bd.length:Int)=(u.bd.length:Int)) with
     | false =>
      refine af tt_ok fun K hK=>?_
      simp only [d1,e2,e3,d4,aJ,go_sem]
      refine hK _ ?_
      refine aU rfl ?_
      refine af tt_ok fun K hK=>?_
      simp only [go_sem]
      refine hK _ ?_
      exact bK ⟨.inl rfl,rfl⟩
     | true=>exact (no d1 d2 d3 d4).elim
end
section
attribute [local irreducible] runM gv rY
noncomputable def Dc.clear (d:Dc):Bool:=sX d.lower d.upper&&sX d.upper d.type
theorem Dc.KG (d:Dc):(sX d.lower d.type&&sX d.upper d.type)=d.clear:=by rw [ae4];simp only [Dc.clear,aN,rG];exact⟨fun h=>⟨h.1.trans h.2.symm,h.2⟩,fun h=>⟨h.1.trans h.2,h.2⟩⟩
noncomputable def Dc.size (d:Dc):Nat :=
 1+d.params.length+(if d.kind=0 then d.type.size+(if d.clear=true then 0 else d.lower.size+d.upper.size)
  else if d.kind=1 then d.type.size+d.expr.size+aZ (fun p=>p.bound.size) d.params else 0)
theorem Dc.size_le (d:Dc):d.size≤d.cy:=by
 have:=Ex.lh _ d.expr (aw _);unfold Dc.size Dc.cy;split;·split <;> omega
 split <;> omega
noncomputable def Md.size (m:Md):Nat:=1+m.imports.length+aZ Dc.size m.decls

theorem KH (d:Dc) (hd:d.cy≤1048576):bG ab 176 [aL d] (bl d.clear):=by unfold Dc.cy at hd;have hA:=Fe d.lower.size d.lower d.upper (aw _) (by omega);have hB:=Fe d.upper.size d.upper d.type (aw _) (by omega);rw [aG,aG] at hA hB;simp only [ai] at hA hB;refine je tt_ok (fn:=Tryz.f176) Tryz.func176 rfl Tryz.call176 ?_;simp only [dO,cn,Tryz.ntmps176,aD,aM,zA,zF,aE,aF];rw [uC];simp only [dO,eW,ai,aC];refine af tt_ok fun K hK=>?_;simp only [go_sem];refine hK _ ?_;unfold Dc.clear;cases h1:sX d.lower d.upper with | false =>rw [h1] at hA;refine af tt_ok fun K hK=>?_;simp only [go_sem];refine .inl ⟨_,_,by simp only [go_sem,au],hA,?_⟩;(try simp only [go_sem]);refine hK _ ?_;exact bK ⟨.inl rfl,rfl⟩ | true =>rw [h1] at hA;refine af tt_ok fun K hK=>?_;simp only [go_sem];refine .inl ⟨_,_,by simp only [go_sem,au],hA,?_⟩;(try simp only [go_sem]);refine .inl ⟨_,_,by simp only [go_sem,au],hB,?_⟩;(try simp only [go_sem]);refine hK _ ?_;exact bK ⟨.inl rfl,rfl⟩
theorem KI (d:Dc) (hd:d.cy≤1048576):bG ab 30 [aL d] (bl d.clear):=by unfold Dc.cy at hd;have hA:=zf d.lower.size d.lower d.type (aw _) (by omega);have hB:=zf d.upper.size d.upper d.type (aw _) (by omega);rw [aG,aG] at hA hB;simp only [ai] at hA hB;rw [← Dc.KG];refine je tt_ok (fn:=Tryz.f30) Tryz.func30 rfl Tryz.call30 ?_;simp only [dO,cn,Tryz.ntmps30,aD,aM,zA,zF,aE,aF];rw [uC];simp only [dO,eW,ai,aC];refine af tt_ok fun K hK=>?_;simp only [go_sem];refine hK _ ?_;cases h1:sX d.lower d.type with | false =>rw [h1] at hA;refine af tt_ok fun K hK=>?_;simp only [go_sem];refine .inl ⟨_,_,by simp only [go_sem,au],hA,?_⟩;(try simp only [go_sem]);refine hK _ ?_;exact bK ⟨.inl rfl,rfl⟩ | true =>rw [h1] at hA;refine af tt_ok fun K hK=>?_;simp only [go_sem];refine .inl ⟨_,_,by simp only [go_sem,au],hA,?_⟩;(try simp only [go_sem]);refine .inl ⟨_,_,by simp only [go_sem,au],hB,?_⟩;(try simp only [go_sem]);refine hK _ ?_;exact bK ⟨.inl rfl,rfl⟩
end
structure Fo where
  fl:ByteArray
  ty:Int
  lb:Bool
  kd:Int
def nw (k:Int):Option Fo :=
  if k=0 then some ⟨⟨#[98]⟩,0,false,0⟩ else if k=1 then some ⟨⟨#[120]⟩,0,false,0⟩ else if k=2 then some ⟨⟨#[98]⟩,0,false,0⟩ else if k=3 then some ⟨⟨#[110]⟩,0,false,0⟩
  else if k=4 then some ⟨⟨#[109,110]⟩,-1,false,0⟩ else if k=5 then some ⟨⟨#[]⟩,0,true,0⟩ else if k=6 then some ⟨⟨#[110]⟩,0,false,1⟩ else if k=7 then some ⟨⟨#[110]⟩,0,false,1⟩
  else if k=8 then some ⟨⟨#[116,111]⟩,0,true,1⟩ else if k=9 then some ⟨⟨#[]⟩,0,true,1⟩ else if k=10 then some ⟨⟨#[110]⟩,0,false,2⟩ else if k=11 then some ⟨⟨#[]⟩,1,false,1⟩
  else if k=12 then some ⟨⟨#[]⟩,1,false,3⟩ else if k=13 then some ⟨⟨#[118]⟩,1,true,1⟩ else if k=14 then some ⟨⟨#[]⟩,1,false,-1⟩ else if k=15 then some ⟨⟨#[110,120]⟩,1,false,3⟩
  else if k=16 then some ⟨⟨#[110]⟩,0,false,-1⟩ else none
def r7 (fl s:ByteArray):Bool:=Lib.contains fl.data.toList s.data.toList
def uF:List ByteArray:=[⟨#[43]⟩,⟨#[45]⟩,⟨#[42]⟩,⟨#[60]⟩,⟨#[61,61]⟩,⟨#[61,61,61]⟩,⟨#[43,43]⟩,⟨#[97,110,100]⟩,⟨#[111,114]⟩]
def HC:List ByteArray:=[⟨#[110,111,116]⟩,⟨#[108,101,110,103,116,104]⟩]
def opN (s:ByteArray):Int:=if ma s uF=true then 2 else if ma s HC=true then 1 else 0
def pD (l:List Lb):Nat:=(l.filter Lb.opt).length
def uG (x:Ex) (kd:Int):Int:=if x.kind=16 then opN x.name else if x.kind=8 then 1+pD x.labels else if kd<0 then -1 else kd+x.labels.length
def kQ (fl:ByteArray) (l:Lb):Bool:=!gV l.var && !r7 fl ⟨#[118]⟩ || !fi l.ty && !r7 fl ⟨#[116]⟩||l.opt && !r7 fl ⟨#[111]⟩
def q1 (x:Ex) (fl:ByteArray):Bool:=!gV x.mod && !r7 fl ⟨#[109]⟩
def q2 (x:Ex) (fl:ByteArray):Bool:=!gV x.name && !r7 fl ⟨#[110]⟩
def q3 (x:Ex) (fl:ByteArray):Bool:=!gV x.text && !r7 fl ⟨#[120]⟩
def q4 (x:Ex) (fl:ByteArray):Bool:=!decide (x.num=0) && !r7 fl ⟨#[98]⟩
def q5 (x:Ex):Bool:=decide (x.kind=2) && !decide (x.num=0) && !decide (x.num=1)
def q6 (x:Ex) (kd:Int):Bool:=decide (x.kind=16)&&decide (uG x kd=0)
def q7 (x:Ex) (ty:Int):Bool:=decide (0≤ty) && !decide ((x.types.length:Int)=ty)
def q8 (x:Ex) (lb:Bool):Bool:=decide (0<x.labels.length) && !lb
def q9 (x:Ex) (kd:Int):Bool:=decide (0≤uG x kd) && !decide ((x.kids.length:Int)=uG x kd)
def n5 (x:Ex) (fl:ByteArray) (ty:Int) (lb:Bool) (kd:Int):Bool :=
  !q1 x fl && !q2 x fl && !q3 x fl && !q4 x fl && !q5 x && !q6 x kd && !q7 x ty && !q8 x lb && !q9 x kd && !(x.labels.any (kQ fl))
def uH (fl:ByteArray) (l:Lb):Bool:=!eP l.name||r7 fl ⟨#[118]⟩ && !eP l.var
def m1 (x:Ex) (fl:ByteArray):Bool:=r7 fl ⟨#[109]⟩ && !qM x.mod
def m2 (x:Ex) (fl:ByteArray):Bool:=r7 fl ⟨#[110]⟩ && !decide (x.kind=16) && !eP x.name
def m3 (x:Ex):Bool:=decide (x.kind=15) && !eP x.text
def zh (x:Ex) (fl:ByteArray):Bool:=m1 x fl||m2 x fl||m3 x||x.labels.any (uH fl)
def vd (x:Ex):Int:=match nw x.kind with
  | none=>1
  | some f=>if n5 x f.fl f.ty f.lb f.kd=false then 1
    else if 32<x.labels.length∨8<x.types.length∨65536<x.text.size then 7
    else if zh x f.fl=true then 4
    else if lg (x.labels.map Lb.name)≠0 then lg (x.labels.map Lb.name)
    else if x.kind=15∧x.name=x.text then 5
    else ec rF x.own
noncomputable def KJ (e:Ex):Int:=if 4096<e.size∨32<e.depth then 7 else ec vd e.nodes
def nx (x:Ex):Bool:=decide (x.kind=0)&&gV x.mod&&gV x.name&&gV x.text&&decide (x.num=0)&&decide (x.types.length=0)&&decide (x.labels.length=0)&&decide (x.kids.length=0)
def wZ (d:Dc):Bool :=
  !(d.deprecated && !d.exported) && !(!gV d.note && !d.deprecated) &&
  (if d.kind=0 then !(d.params.any fun p=>!fi p.bound) && !(d.params.any fun p=>decide (p.ef<0)||decide (2<p.ef))&&nx d.expr&&gV d.mod&&gV d.target
   else if d.kind=1 then !(d.params.any fun p=>!decide (p.ef=0))&&fi d.lower&&fi d.upper&&gV d.mod&&gV d.target
   else if d.kind=2 then decide (d.params.length=0)&&fi d.lower&&fi d.upper&&fi d.type&&nx d.expr else false)
def CO (d:Dc):Bool :=
  !(d.params.any fun p=>!m4 p.name) &&
  (if d.kind=0 then m4 d.name else if d.kind=1 then eP d.name
   else (eP d.name&&eP d.target||m4 d.name&&m4 d.target) && !gV d.mod&&qM d.mod)
noncomputable def r8 (before:List Dc) (d:Dc):Int :=
  if wZ d=false then 1
  else if 8<d.params.length∨65536<d.note.size then 7
  else if CO d=false then 4
  else if (before.any fun x=>decide (x.name=d.name))=true then 5
  else if vN (d.params.map Pm.name)=true then 5
  else if ec rF ([d.lower,d.upper,d.type]++d.params.map Pm.bound)≠0 then ec rF ([d.lower,d.upper,d.type]++d.params.map Pm.bound)
  else KJ d.expr
def xL (path:ByteArray) (before:List Im) (x:Im):Int :=
  if gA x.path=false∨eP x.alias=false then 4
  else if x.path=path then 14
  else if (before.any fun y=>decide (y.path=x.path)||decide (y.alias=x.alias))=true then 5 else 0
def iX {α:Type} (f:List α→α→Int):List α→List α→Nat×Int
  | _,[]=>(0,0)
  | b,x :: r=>if f b x=0 then (if (iX f (b++[x]) r).2=0 then (0,0) else ((iX f (b++[x]) r).1+1,(iX f (b++[x]) r).2)) else (0,f b x)
noncomputable def vP (m:Md):Int :=
  if gA m.path=false then 4
  else if 16<m.imports.length∨64<m.decls.length∨4096<m.size then 7
  else (iX (xL m.path) [] m.imports).2
noncomputable def qb (m:Md):Int×Int:=if vP m≠0 then (-1,vP m) else (((iX r8 [] m.decls).1:Nat),(iX r8 [] m.decls).2)
section
mutual
def Ty.res (g:Ty→Option ByteArray):Ty→Ty
 | .mk k m n ar fs=>match (if k=10∨k=9 then g (.mk k m n ar fs) else some m) with
  | some m'=>.mk k m' n (CP g ar) (CQ g fs)
  | none=>.mk 9 ⟨#[]⟩ n [] []
def CP (g:Ty→Option ByteArray):List Ty→List Ty
 | []=>[]
 | t :: r=>t.res g :: CP g r
def Fd.res (g:Ty→Option ByteArray):Fd→Fd
 | .mk n t o=>.mk n (t.res g) o
def CQ (g:Ty→Option ByteArray):List Fd→List Fd
 | []=>[]
 | f :: r=>f.res g :: CQ g r
end
section
variable {S:Type}
mutual
def Ty.fold (g:Ty→Option ByteArray) (s:S→Ty→S):Ty→S→S
 | .mk k m n ar fs,a=>match (if k=10∨k=9 then g (.mk k m n ar fs) else some m) with
  | some _=>uI g s fs (uJ g s ar (if k=10∨k=9 then s a (.mk k m n ar fs) else a))
  | none=>s a (.mk k m n ar fs)
def uJ (g:Ty→Option ByteArray) (s:S→Ty→S):List Ty→S→S
 | [],a=>a
 | t :: r,a=>uJ g s r (t.fold g s a)
def Fd.fold (g:Ty→Option ByteArray) (s:S→Ty→S):Fd→S→S
 | .mk _ t _,a=>t.fold g s a
def uI (g:Ty→Option ByteArray) (s:S→Ty→S):List Fd→S→S
 | [],a=>a
 | f :: r,a=>uI g s r (f.fold g s a)
end
theorem HD (g:Ty→Option ByteArray) (ts:List Ty):CP g ts=ts.map (Ty.res g):=by induction ts with | nil=>rfl | cons t r ih=>simp [CP,ih]
theorem HE (g:Ty→Option ByteArray) (ts:List Fd):CQ g ts=ts.map (Fd.res g):=by induction ts with | nil=>rfl | cons t r ih=>simp [CQ,ih]
theorem zi (g:Ty→Option ByteArray) (s:S→Ty→S):∀ (ts:List Ty) (a:S),uJ g s ts a=ts.foldl (fun a t=>t.fold g s a) a
 | [],_=>by rw [uJ]; rfl
 | t :: r,a=>by rw [uJ,zi g s r,eZ]
theorem zj (g:Ty→Option ByteArray) (s:S→Ty→S):∀ (ts:List Fd) (a:S),uI g s ts a=ts.foldl (fun a f=>f.ty.fold g s a) a
 | [],_=>by rw [uI]; rfl
 | .mk n t o :: r,a=>by rw [uI,zj g s r,Fd.fold,eZ]; rfl
def om (g:Ty→Option ByteArray) (t:Ty):Option ByteArray:=if t.kind=10∨t.kind=9 then g t else some t.mod
theorem Ty.iY (g:Ty→Option ByteArray) (t:Ty):t.res g=match om g t with
  | some m'=>.mk t.kind m' t.name (t.args.map (Ty.res g)) (t.bd.map (Fd.res g))
  | none=>.mk 9 ⟨#[]⟩ t.name [] []:=by obtain⟨k,m,n,ar,fs⟩:=t;rw [Ty.res,HD,HE]; rfl
theorem Ty.fold_eq (g:Ty→Option ByteArray) (s:S→Ty→S) (t:Ty) (a:S):t.fold g s a=match om g t with
  | some _=>t.bd.foldl (fun a f=>f.ty.fold g s a) (t.args.foldl (fun a t=>t.fold g s a) (if t.kind=10∨t.kind=9 then s a t else a))
  | none=>s a t:=by obtain⟨k,m,n,ar,fs⟩:=t;rw [Ty.fold,zi,zj]; rfl
theorem Fd.iY (g:Ty→Option ByteArray) (f:Fd):f.res g = .mk f.name (f.ty.res g) f.opt:=by obtain⟨n,t,o⟩:=f; rw [Fd.res]; rfl
theorem Fd.oU (g:Ty→Option ByteArray) (f:Fd):(f.res g).name=f.name:=by rw [Fd.iY]; rfl
theorem Fd.qS (g:Ty→Option ByteArray) (f:Fd):(f.res g).ty=f.ty.res g:=by rw [Fd.iY]; rfl
theorem Fd.xM (g:Ty→Option ByteArray) (f:Fd):(f.res g).opt=f.opt:=by rw [Fd.iY]; rfl
def Lb.res (g:Ty→Option ByteArray) (l:Lb):Lb := { l with ty:=l.ty.res g }
def nJ (k:Int) (ls:List Lb) (name text:ByteArray) (nk:Nat) (loc:List ByteArray) (i:Nat):List ByteArray :=
 if k=8∧i+1=nk then (ls.map Lb.name).reverse++loc
 else if k=10∧i=1 then name :: loc
 else if k=13∧0<i then ((ls[i-1]?).elim ⟨#[]⟩ Lb.var) :: loc
 else if k=15∧i=2 then text :: name :: loc
 else loc
abbrev Bp:=List ByteArray→Ex→Int×ByteArray
mutual
def Ex.res (g:Ty→Option ByteArray) (h:Bp):Ex→List ByteArray→Ex
 | .mk k m n t i ts ls ks,loc=>.mk (if k=3∨k=4 then h loc (.mk k m n t i ts ls ks) else (k,m)).1 (if k=3∨k=4 then h loc (.mk k m n t i ts ls ks) else (k,m)).2 n t i (ts.map (Ty.res g))
   (if (if k=3∨k=4 then h loc (.mk k m n t i ts ls ks) else (k,m)).1=8 then ls.map (Lb.res g) else ls)
   (du g h (nJ (if k=3∨k=4 then h loc (.mk k m n t i ts ls ks) else (k,m)).1 ls n t ks.length loc) 0 ks)
def du (g:Ty→Option ByteArray) (h:Bp) (lo:Nat→List ByteArray):Nat→List Ex→List Ex
 | _,[]=>[]
 | i,x :: r=>x.res g h (lo i) :: du g h lo (i+1) r
end
mutual
def Ex.fold (g:Ty→Option ByteArray) (h:Bp) (s:S→Ty→S) (v:List ByteArray→S→Ex→S):Ex→List ByteArray→S→S
 | .mk k m n t i ts ls ks,loc,a =>
  dB g h s v (nJ (if k=3∨k=4 then h loc (.mk k m n t i ts ls ks) else (k,m)).1 ls n t ks.length loc) 0 ks
   ((if (if k=3∨k=4 then h loc (.mk k m n t i ts ls ks) else (k,m)).1=8 then ls else []).foldl (fun a l=>l.ty.fold g s a)
    (ts.foldl (fun a t=>t.fold g s a) (if k=3∨k=4 then v loc a (.mk k m n t i ts ls ks) else a)))
def dB (g:Ty→Option ByteArray) (h:Bp) (s:S→Ty→S) (v:List ByteArray→S→Ex→S) (lo:Nat→List ByteArray):Nat→List Ex→S→S
 | _,[],a=>a
 | i,x :: r,a=>dB g h s v lo (i+1) r (x.fold g h s v (lo i) a)
end
def jL (h:Bp) (loc:List ByteArray) (x:Ex):Int×ByteArray:=if x.kind=3∨x.kind=4 then h loc x else (x.kind,x.mod)
def Sf (g:Ty→Option ByteArray) (k:Int) (ls:List Lb):List Lb:=if k=8 then ls.map (Lb.res g) else ls
def LI (h:Bp) (x:Ex) (loc:List ByteArray):Nat→List ByteArray:=nJ (jL h loc x).1 x.labels x.name x.text x.kids.length loc
theorem Ex.iY (g:Ty→Option ByteArray) (h:Bp) (x:Ex) (loc:List ByteArray) :
  x.res g h loc = .mk (jL h loc x).1 (jL h loc x).2 x.name x.text x.num (x.types.map (Ty.res g)) (Sf g (jL h loc x).1 x.labels) (du g h (LI h x loc) 0 x.kids):=by obtain⟨k,m,n,t,i,ts,ls,ks⟩:=x;rw [Ex.res]; rfl
theorem Ex.fold_eq (g:Ty→Option ByteArray) (h:Bp) (s:S→Ty→S) (v:List ByteArray→S→Ex→S) (x:Ex) (loc:List ByteArray) (a:S) :
  x.fold g h s v loc a=dB g h s v (LI h x loc) 0 x.kids ((if (jL h loc x).1=8 then x.labels else []).foldl (fun a l=>l.ty.fold g s a)
   (x.types.foldl (fun a t=>t.fold g s a) (if x.kind=3∨x.kind=4 then v loc a x else a))):=by obtain⟨k,m,n,t,i,ts,ls,ks⟩:=x;rw [Ex.fold]; rfl
theorem kn (g:Ty→Option ByteArray) (h:Bp) (lo:Nat→List ByteArray):∀ (ks:List Ex) (i:Nat),(du g h lo i ks).length=ks.length
 | [],i=>by rw [du]
 | x :: r,i=>by rw [du,aD,kn g h lo r,aD]
theorem w4 (g:Ty→Option ByteArray) (h:Bp) (lo:Nat→List ByteArray) (x:Ex):∀ (ks:List Ex) (i:Nat),du g h lo i (ks++[x])=du g h lo i ks++[x.res g h (lo (i+ks.length))]
 | [],i=>by simp [du]
 | y :: r,i=>by
  rw [aj,du,w4 g h lo x r (i+1),du,aD,show i+1+r.length=i+(r.length+1) by omega]; rfl
theorem uK (g:Ty→Option ByteArray) (h:Bp) (s:S→Ty→S) (v:List ByteArray→S→Ex→S) (lo:Nat→List ByteArray) (x:Ex):∀ (ks:List Ex) (i:Nat) (a:S),dB g h s v lo i (ks++[x]) a=x.fold g h s v (lo (i+ks.length)) (dB g h s v lo i ks a)
 | [],i,a=>by simp [dB]
 | y :: r,i,a=>by
  rw [aj,dB,uK g h s v lo x r (i+1),dB,aD,show i+1+r.length=i+(r.length+1) by omega]
theorem Fg {g:Ty→Option ByteArray} {h:Bp} {lo:Nat→List ByteArray} {ks:List Ex} {i:Nat} {x:Ex} (hx:ks[i]?=some x):du g h lo 0 (ks.take (i+1))=du g h lo 0 (ks.take i)++[x.res g h (lo i)]:=by have bX:=(ax.1 hx).1;rw [bC,hx,lY,w4,dz,am9 (by omega),ct]
theorem uL {g:Ty→Option ByteArray} {h:Bp} {s:S→Ty→S} {v:List ByteArray→S→Ex→S} {lo:Nat→List ByteArray} {ks:List Ex} {i:Nat} {x:Ex} {a:S} (hx:ks[i]?=some x):dB g h s v lo 0 (ks.take (i+1)) a=x.fold g h s v (lo i) (dB g h s v lo 0 (ks.take i) a):=by have bX:=(ax.1 hx).1;rw [bC,hx,lY,uK,dz,am9 (by omega),ct]
theorem ia {α:Type} {f:S→α→S} {l:List α} {i:Nat} {x:α} {a:S} (hx:l[i]?=some x):(l.take (i+1)).foldl f a=f ((l.take i).foldl f a) x:=by rw [bC,hx,lY,Y6]; rfl
end
def eN (G:List ByteArray→Ty→Option ByteArray):List ByteArray→List Pm→List Pm
 | _,[]=>[]
 | vs,p :: r => { p with bound:=p.bound.res (G vs) } :: eN G (vs++[p.name]) r
section
variable {S:Type}
def eA (G:List ByteArray→Ty→Option ByteArray) (s:List ByteArray→S→Ty→S):List ByteArray→List Pm→S→S
 | _,[],a=>a
 | vs,p :: r,a=>eA G s (vs++[p.name]) r (p.bound.fold (G vs) (s vs) a)
theorem w5 (G:List ByteArray→Ty→Option ByteArray) (p:Pm):∀ (l:List Pm) (vs:List ByteArray),eN G vs (l++[p])=eN G vs l++[{ p with bound:=p.bound.res (G (vs++l.map Pm.name)) }]
 | [],vs=>by simp [eN]
 | q :: r,vs=>by simp [eN,w5 G p r]
theorem uM (G:List ByteArray→Ty→Option ByteArray) (s:List ByteArray→S→Ty→S) (p:Pm):∀ (l:List Pm) (vs:List ByteArray) (a:S),eA G s vs (l++[p]) a=p.bound.fold (G (vs++l.map Pm.name)) (s (vs++l.map Pm.name)) (eA G s vs l a)
 | [],vs,a=>by simp [eA]
 | q :: r,vs,a=>by simp [eA,uM G s p r]
theorem jn (G:List ByteArray→Ty→Option ByteArray):∀ (l:List Pm) (vs:List ByteArray),(eN G vs l).length=l.length
 | [],_=>rfl
 | p :: r,vs=>by rw [eN,aD,jn G r,aD]
theorem Fh {G:List ByteArray→Ty→Option ByteArray} {l:List Pm} {i:Nat} {p:Pm} (hx:l[i]?=some p):eN G [] (l.take (i+1))=eN G [] (l.take i)++[{ p with bound:=p.bound.res (G ((l.take i).map Pm.name)) }]:=by rw [bC,hx,lY,w5,ak]
theorem uN {G:List ByteArray→Ty→Option ByteArray} {s:List ByteArray→S→Ty→S} {l:List Pm} {i:Nat} {p:Pm} {a:S} (hx:l[i]?=some p):eA G s [] (l.take (i+1)) a=p.bound.fold (G ((l.take i).map Pm.name)) (s ((l.take i).map Pm.name)) (eA G s [] (l.take i) a):=by rw [bC,hx,lY,uM,ak]
end
end
def sY (a b:Int):Int:=if a=0 then b else a
theorem uO (a:Int):sY a 0=a:=by unfold sY; split <;> simp_all
theorem Od (a:Int):sY 0 a=a:=by unfold sY; simp
def kV (a:ByteArray):List (ByteArray×ByteArray)→Option ByteArray
 | []=>none
 | e :: r=>if e.1=a then some e.2 else kV a r
theorem rH (a:ByteArray) (e:ByteArray×ByteArray) (r:List (ByteArray×ByteArray)):kV a (e :: r)=if e.1=a then some e.2 else kV a r:=by rw [kV]
def cY (g:List (ByteArray×ByteArray)):List (ByteArray×V):=g.map fun e=>(e.1,str e.2)
theorem Fi (a:ByteArray):∀ g:List (ByteArray×ByteArray),getM a (cY g)=(kV a g).map str
 | []=>rfl
 | e :: r=>by
  show getM a ((e.1,str e.2) :: cY r)=_
  unfold getM kV
  dsimp only
  split
  ·rfl
  exact Fi a r
def zo (a:ByteArray):List (ByteArray×ByteArray)→Nat→Option Nat
 | [],_=>none
 | e :: r,i=>if e.1=a then some i else zo a r (i+1)
def CR (a v:ByteArray) (g:List (ByteArray×ByteArray)):List (ByteArray×ByteArray):=match zo a g 0 with
 | none=>g++[(a,v)]
 | some i=>g.set i (a,v)
theorem Bq (a:ByteArray):∀ (g:List (ByteArray×ByteArray)) (n:Nat),(km a (cY g) n).map (fun p=>p.1)=zo a g n
 | [],_=>rfl
 | e :: r,n=>by
  show (km a ((e.1,str e.2) :: cY r) n).map _=_
  unfold km zo
  dsimp only
  split
  ·rfl
  exact Bq a r (n+1)
theorem Oe (a v:ByteArray) (g:List (ByteArray×ByteArray)):EW a (str v) (cY g)=cY (CR a v g):=by unfold EW CR;rw [← Bq];cases km a (cY g) 0 with | none=>simp [cY] | some p=>simp [cY,df]
theorem Br {a:ByteArray}:∀ {g:List (ByteArray×ByteArray)} {n:Nat},zo a g n=none→kV a g=none
 | [],_,_=>rfl
 | e :: r,n,h=>by
  unfold zo at h
  unfold kV
  split at h
  ·cases h
  rename_i dK; rw [if_neg dK]; exact Br h
theorem Fj (a:ByteArray) (g g':List (ByteArray×ByteArray)):kV a (g++g')=(kV a g).or (kV a g'):=by induction g with | nil=>rfl | cons e r ih =>rw [aj,rH,rH];split;(·rfl);exact ih
theorem Fk {b a v:ByteArray}:∀ {g:List (ByteArray×ByteArray)} {n i:Nat},zo a g n=some i→kV b (g.set (i-n) (a,v))=if a=b then some v else kV b g
 | [],_,_,h=>by cases h
 | e :: r,n,i,h=>by
  unfold zo at h
  split at h
  ·rename_i he
   cases h
   rw [c5,eI]
   unfold kV
   dsimp only
   rw [he]
   split <;> rfl
  rename_i he
  have hle:n+1≤i:=by
   clear he
   have key:∀ (g:List (ByteArray×ByteArray)) (n i:Nat),zo a g n=some i→n≤i:=by
    intro g
    induction g with
    | nil=>intro n i h; cases h
    | cons e r ih =>
     intro n i h
     unfold zo at h
     split at h
     ·cases h; exact aw _
     have:=ih _ _ h; omega
   exact key _ _ _ h
  rw [show i-n=(i-(n+1))+1 by omega,il]
  have ih:=Fk (b:=b) (v:=v) h
  rw [rH,rH,ih]
  by_cases hb:e.1=b
  ·rw [if_pos hb,if_pos hb,if_neg fun h:a=b=>he (hb.trans h.symm)]
  rw [if_neg hb,if_neg hb]
theorem zp (a v b:ByteArray) (g:List (ByteArray×ByteArray)):kV b (CR a v g)=if a=b then some v else kV b g:=by unfold CR;cases h:zo a g 0 with | none =>dsimp only;rw [Fj];have h1:=Br h;have e1:kV b [(a,v)]=if a=b then some v else none:=rfl;rw [e1];by_cases hb:a=b;(·subst hb; rw [h1,if_pos rfl]; rfl);rw [if_neg hb,if_neg hb,Option.or_none] | some i =>dsimp only;have:=Fk (b:=b) (v:=v) h;rw [Qw] at this;exact this
def cZ (l:List Im):List (ByteArray×ByteArray):=l.foldl (fun g x=>CR x.alias x.path g) []
theorem KK {l:List Im} {i:Nat} {x:Im} (h:l[i]?=some x):cZ (l.take (i+1))=CR x.alias x.path (cZ (l.take i)):=by unfold cZ;rw [bC,h,lY,Y6]; rfl
structure Rv where
 mp:ByteArray
 cg:List Im
 decls:List Dc
 idx:Nat
def w6 (X:Rv) (s:ByteArray):ByteArray:=(kV s (cZ X.cg)).getD ⟨#[]⟩
def ve (X:Rv) (s:ByteArray):Int:=if (kV s (cZ X.cg)).isSome then 0 else 6
def Aq:List Dc→ByteArray→Int
 | [],_ => -1
 | d :: r,s=>if d.name=s then 0 else if Aq r s<0 then -1 else Aq r s+1
def gR (X:Rv) (vs:List ByteArray) (t:Ty):Option ByteArray:=if t.mod=⟨#[]⟩ then (if ma t.name vs=true then none else some X.mp) else some (w6 X t.mod)
def tE (X:Rv) (vs:List ByteArray) (t:Ty):Int:=if t.mod=⟨#[]⟩ then (if ma t.name vs=true then (if 0<t.args.length then 11 else 0) else if Aq X.decls t.name<0 then 6 else 0) else ve X t.mod
def sR (X:Rv) (vs:List ByteArray) (e:Int) (t:Ty):Int:=sY e (tE X vs t)
def vS (X:Rv) (s:ByteArray):Int:=if Aq X.decls s<0 then 6 else if (X.idx:Int)≤Aq X.decls s then 14 else 0
def hR (X:Rv) (loc:List ByteArray) (x:Ex):Int×ByteArray:=if x.mod=⟨#[]⟩ then (if ma x.name loc=true then (x.kind,x.mod) else (4,X.mp)) else (x.kind,w6 X x.mod)
def vE (X:Rv) (loc:List ByteArray) (x:Ex):Int:=if x.mod=⟨#[]⟩ then (if ma x.name loc=true then (if x.kind=4 then 11 else 0) else vS X x.name) else ve X x.mod
def vR (X:Rv) (loc:List ByteArray) (e:Int) (x:Ex):Int:=sY e (vE X loc x)
def eS (d:Dc):List ByteArray:=d.params.map Pm.name
noncomputable def dW (X:Rv) (d:Dc):Dc :=
 { d with mod:=(if d.kind=2 then w6 X d.mod else d.mod),params:=eN (gR X) [] d.params,lower:=d.lower.res (gR X (eS d)),upper:=d.upper.res (gR X (eS d)),type:=d.type.res (gR X (eS d)),expr:=d.expr.res (gR X (eS d)) (hR X) [] }
noncomputable def ny (X:Rv) (d:Dc):Int :=
 d.expr.fold (gR X (eS d)) (hR X) (sR X (eS d)) (vR X) [] (d.type.fold (gR X (eS d)) (sR X (eS d)) (d.upper.fold (gR X (eS d)) (sR X (eS d)) (d.lower.fold (gR X (eS d)) (sR X (eS d)) (eA (gR X) (sR X) [] d.params (if d.kind=2 then ve X d.mod else 0)))))
section
def fH:List ByteArray→V
 | []=>.sc (.pointer none)
 | s :: r=>.eL [str s,fH r]
theorem gO:fH [] = .sc (.pointer none):=rfl
theorem rI (s:ByteArray) (r:List ByteArray):fH (s :: r) = .eL [str s,fH r]:=rfl
theorem Bs (l:List ByteArray):iA (fH l)=true:=by cases l <;> rfl
theorem W7:ab.underlying 170=some (.pointer 208):=by kernel_rfl
theorem W8 (x y:Operand):eM ab (rU .neq 170 x y) (.sc (.pointer none)) (.sc (.pointer none))=some (bl false):=by kernel_rfl
theorem az (l:List ByteArray) (n:Nat):aH n (fH l)=true:=by cases l <;> simp [fH,aH]
theorem Fl (s x:ByteArray) (r:List ByteArray):ma s (x :: r)=(decide (s=x)||ma s r):=rfl
theorem Of {l:List ByteArray} {i:Nat} {x:ByteArray} {r:List ByteArray} (h:l[i]?=some x):(l.take (i+1)).reverse++r=x :: ((l.take i).reverse++r):=by rw [bC,h]; simp
theorem aa6 (l:List Lb) (a:Lb):(l++[a]).map (fun x=>str x.name)=l.map (fun x=>str x.name)++[str a.name]:=by simp
theorem lT (l:List Lb) (n:Nat):dx (l.map fun x=>str x.name) n 1=true:=by
 unfold dx; split;·rename_i h; simp at h; obtain⟨t,-,rfl⟩:=h; rfl
 rfl
theorem agN {α:Type} (l:List α) (a:α):(l++[a]).length=l.length+1:=by simp
section
attribute [local go_sem] az dk gO rI W8 W7
theorem Sg (l:List ByteArray) (s:ByteArray):∃ r_,(fun w=>w=bl (ma s l)) r_∧bG ab 143 [fH l,str s] r_:=by
 refine kc tt_ok [] 17 [.tmp 4] (fn:=Tryz.f143) Tryz.func143 rfl Tryz.call143 ⟨rfl,rfl,by simp⟩ fun K hK=>?_;simp only [go_sem];refine fL tt_ok [] (fun a:List ByteArray=>[(0,fH a),(1,str s)]) (fun a:List ByteArray=>[]) (fun a=>a.length) (fun a=>ma s l=ma s a) (l) 0 (dj (by omega) (by simp only [bD,go_sem] <;> rfl)) (rfl) ?_;intro a hI;intro Z1 ee;rcases a with _ | ⟨x,r⟩
 ·simp only [go_sem];first | exact hK _ (congrArg bl ck) | exact hK _ (congrArg bl (hI ▸ rfl))
 simp only [go_sem];refine bY (fun fJ=>?_) (fun fJ=>?_);·(have ck:true=ma s l:=by rw [hI,Fl,decide_eq_true (of_decide_eq_true fJ).symm]; rfl);simp only [go_sem];first | exact hK _ (congrArg bl ck) | exact hK _ (congrArg bl (hI ▸ rfl))
 have dK:decide (s=x)=false:=decide_eq_false fun h=>of_decide_eq_false fJ h.symm;simp only [go_sem];refine ee _ ⟨r,?_,?_,dj (by omega) (by simp only [go_sem])⟩;·rw [hI,Fl,dK]; rfl
 exact kW _
end
section
attribute [local go_sem] az rI
theorem zq (l ns:List ByteArray) (hl:ns.length≤1048576):∃ r_,(fun w=>w=fH (ns.reverse++l)) r_∧bG ab 200 [fH l,.slice (ns.map str)] r_:=by
 refine kc tt_ok [5] 19 [.tmp 4] (fn:=Tryz.f200) Tryz.func200 rfl Tryz.call200 ⟨rfl,rfl,by simp⟩ fun K hK=>?_;simp only [ag,gO,go_sem];refine fL tt_ok [5] (fun i:Nat=>[(0,fH ((ns.take i).reverse++l)),(7,.slice (ns.map str)),(8,num ns.length),(9,num i)]) (fun i:Nat=>[]) (fun i=>ns.length-i) (fun i=>i≤ns.length) (0) 0 (dj (by omega) (by simp only [dO,ag,gO,List.reverse_nil,bD,go_sem] <;> rfl)) (bx _) ?_;intro i hi;intro Z1 ee;simp only [ag,gO,go_sem];refine bY (fun pC=>?_) (fun pC=>?_);·(have oo:i<ns.length:=by simpa using pC);have jo:=bB i (by omega);obtain⟨x,hx⟩:∃ x,ns[i]?=some x:=⟨_,ah oo⟩;have hrv:=Of (r:=l) hx;(obtain⟨L,hL⟩:∃ L,(ns.take i).reverse++l=L:=⟨_,rfl⟩; rw [hL] at hrv ⊢; rcases L with _ | ⟨y,r⟩);(·simp only [jo,hx,ae,ag,gO,go_sem];refine I8 0 (by decide) rfl rfl (by simp [iA,Bs,gO,rI]) ?_;refine mw tt_ok ?_;simp only [jo,hx,ae,ag,gO,go_sem];refine ee _ ⟨i+1,?_,?_,dj (by omega) (by (simp only [jo,hrv,gO,go_sem]))⟩;(·exact oo);omega);simp only [jo,hx,ae,ag,gO,go_sem];refine I8 0 (by decide) rfl rfl (by simp [iA,Bs,gO,rI]) ?_;refine mw tt_ok ?_;simp only [jo,hx,ae,ag,gO,go_sem];refine ee _ ⟨i+1,?_,?_,dj (by omega) (by (simp only [jo,hrv,gO,go_sem]))⟩;(·exact oo);omega
 have Fm:i=ns.length:=by have h_:¬ i<ns.length:=(by simpa using pC); omega
 rw [Fm,au];obtain⟨L,hL⟩:∃ L,ns.reverse++l=L:=⟨_,rfl⟩; rw [hL] at hK ⊢; rcases L with _ | ⟨y,r⟩
 ·simp only [ag,gO,go_sem];exact hK _ rfl
 simp only [ag,gO,go_sem];exact hK _ rfl
end
end
section
theorem uP (mem:List ba) (l:List ByteArray):gu mem (fH l)=some (fH l):=by cases l <;> rfl
theorem uQ (l:List ByteArray):eR (fH l)=[]:=by cases l <;> rfl
theorem Sh {s:ByteArray} {l:List ByteArray} (h:s∈l):ma s l=true:=xG.2 h
theorem W9 {s:ByteArray} {l:List ByteArray} (h:¬ s∈l):ma s l=false:=anp.2 fun e=>h (xG.1 e)
theorem bF (g:List (ByteArray×ByteArray)) (n:Nat):((iF strVal 0 (cY g)).all fun e=>aH n e.2.2)=true:=by rw [CK strVal (aH n),aY];intro e he;obtain⟨p,-,rfl⟩:=cu.1 he;rfl
theorem nz (g:List (ByteArray×ByteArray)) (n:Nat) (a:Value) (b:Nat) (c:V) (h:(a,b,c)∈iF strVal 0 (cY g)):aH n c=true:=aY.1 (bF g n) _ h
theorem zr (σ:Nat→Nat) (g:List (ByteArray×ByteArray)) (c:Nat):mK σ (.map (iF strVal 0 (cY g)) c) = .map (iF strVal 0 (cY g)) c:=by
 have key:∀ (g:List (ByteArray×ByteArray)) (n:Nat),(iF strVal n (cY g)).map (fun e=>(e.1,e.2.1,ff σ e.2.2))=iF strVal n (cY g):=by intro g;induction g with | nil=>intro n; rfl | cons e r ih =>intro n;show _ :: (iF strVal (n+1) (cY r)).map _=_ :: iF strVal (n+1) (cY r);rw [ih]; rfl
 simp only [mK];rw [key]
theorem ko (σ:Nat→Nat) (l:List ByteArray):ff σ (fH l)=fH l:=by cases l <;> rfl
def Jk (X:Rv) (n v:Nat) (e:Int) (k1 k3:Nat):List V:=[str X.mp,.slice (X.cg.map bQ),.slice (X.decls.map aL),num X.idx,.ms k3 v 0 n,num e,.sc (.func (.func 85) #[] #[]),.sc (.func (.func 86) #[] #[]),.cC (.func 83) [] [.ptr k1 0]]
def L4 (X:Rv) (vs:List ByteArray) (v:Nat) (e:Int):List ba:=[.box (Jk X vs.length v e 1 3),.box [.mp 2],.map (iF strVal 0 (cY (cZ X.cg))) (cY (cZ X.cg)).length,.rows v 1 (vs.map str)]
structure Dv (M:List ba) (X:Rv) (vs:List ByteArray) (v:Nat) (e:Int) (k0 k1 k2 k3:Nat):Prop where
 h0:M[k0]?=some (.box (Jk X vs.length v e k1 k3))
 h1:M[k1]?=some (.box [.mp k2])
 h2:M[k2]?=some (.map (iF strVal 0 (cY (cZ X.cg))) (cY (cZ X.cg)).length)
 h3:M[k3]?=some (.rows v 1 (vs.map str))
 nd:[k0,k1,k2,k3].Nodup
theorem QU {f:FuncId} {args:List V} {r:V} {X:Rv} {vs:List ByteArray} {v:Nat} {e e':Int} (h:bk ab f args (L4 X vs v e) r (L4 X vs v e')) (ha:args.all (aH 4)=true) (hr:aH 4 r=true)
  {M:List ba} {k0 k1 k2 k3:Nat} (hM:Dv M X vs v e k0 k1 k2 k3):bk ab f (jx (m9 [k0,k1,k2,k3] M.length) args) M (ff (m9 [k0,k1,k2,k3] M.length) r) (M.set k0 (.box (Jk X vs.length v e' k1 k3))):=by
 refine bk.keys (mem:=L4 X vs v e) (B:=.box (Jk X vs.length v e' 1 3)) (j0:=0) h M [k0,k1,k2,k3] rfl hM.nd (by simp [L4]) ha ?_ ?_ hr ?_;·have hb:=bF (cZ X.cg) 4;simp only [L4,cA,dA,aD,aM,aI,Jk,aH,aO,hb]; rfl
 ·simp only [L4,aD,aM,aI,Jk,cA,dA,aH,aO]; rfl
 intro i B hi;rcases i with _ | _ | _ | _ | i
 ·cases hi; exact hM.h0
 ·cases hi; exact hM.h1
 ·cases hi; rw [zr]; exact hM.h2
 ·cases hi; exact hM.h3
 simp [L4] at hi
def Fp (o:Option ByteArray) (t:Ty):Ty:=match o with
 | some m=>.mk t.kind m t.name t.args t.bd
 | none=>.mk 9 ⟨#[]⟩ t.name [] []
def ndX (p:Int×ByteArray) (x:Ex):Ex:=.mk p.1 p.2 x.name x.text x.num x.types x.labels x.kids
theorem Og {s:ByteArray}:∀ {l:List Dc} {i:Nat} {x:Dc},l[i]?=some x→x.name=s→(∀ j<i,∀ y,l[j]?=some y→decide (y.name=s)=false)→(i:Int)=Aq l s
 | [],_,_,h,_,_=>by simp at h
 | d :: r,0,x,h,hn,_=>by
  simp only [fb,aB] at h
  subst h
  unfold Aq; rw [if_pos hn]; rfl
 | d :: r,i+1,x,h,hn,er=>by
  have h1:=of_decide_eq_false (er 0 (by omega) d rfl)
  have h2:=Og (l:=r) (i:=i) (x:=x) (by simpa using h) hn fun j hj y hy=>er (j+1) (by omega) y (by simpa using hy)
  unfold Aq; rw [if_neg h1,← h2,if_neg (by omega)]; rfl
theorem Fq {s:ByteArray}:∀ {l:List Dc},(∀ j<l.length,∀ y,l[j]?=some y→decide (y.name=s)=false)→(-1:Int)=Aq l s
 | [],_=>rfl
 | d :: r,er=>by
  have h1:=of_decide_eq_false (er 0 (by simp) d rfl)
  have h2:=Fq (l:=r) fun j hj y hy=>er (j+1) (by simpa using hj) y (by simpa using hy)
  unfold Aq; rw [if_neg h1,← h2,if_pos (by decide)]
section
attribute [local go_sem] ag
theorem Si (ns:List ByteArray) (s:ByteArray) (hl:ns.length≤1048576):∃ r_,(fun w=>∃ n:Int,w=num n∧decide (n≥0)=ma s ns) r_∧bG ab 102 [.slice (ns.map str),str s] r_:=by
 refine kc tt_ok [] 19 [.tmp 4] (fn:=Tryz.f102) Tryz.func102 rfl Tryz.call102 ⟨rfl,rfl,by simp⟩ fun K hK=>?_;simp only [go_sem];refine iB tt_ok [] [8] 0 [0,1,7] (fun vs=>((ns.length:Int)-Go.Eng.intOf (vs.headD .undef)).toNat) (fun vs=>∃ i:Nat,vs=[num i]∧i≤ns.length∧∀ j<i,∀ b,ns[j]?=some b→s≠b) (by omega) (by simp only [go_sem]) (⟨0,rfl,bx _,fun j hj=>absurd hj (iK j)⟩) fun vs hI Z1 ee=>?_;obtain⟨i,rfl,hi,r5⟩:=hI;simp only [go_sem];refine bY (fun lS=>?_) (fun lS=>?_);·(have bX:i<ns.length:=by simpa using lS);obtain⟨m,hx⟩:∃ m,ns[i]?=some m:=⟨_,ah bX⟩;have hw:=bB i (by omega);simp only [ae,hx,hw,go_sem];refine bY (fun fJ=>?_) (fun fJ=>?_);(·(have heq:s=m:=by rw [dk] at fJ; simpa using fJ);(have ck:decide ((i:Int)≥0)=ma s ns:=by rw [decide_eq_true (by omega:(i:Int)≥0),Sh (heq ▸ ay hx)]);simp only [ae,hx,hw,go_sem];exact hK _ ⟨_,rfl,ck⟩);(have dK:s≠m:=by rw [dk] at fJ; simpa using fJ);simp only [ae,hx,hw,go_sem];refine ee _ (oj (by omega) (by simp only [ae,hx,hw,go_sem]) ?_ ?_) <;> simp only [fC,lk,reduceIte,zE];(·refine⟨i+1,rfl,bX,fun j hj b hb=>?_⟩;(rcases bW j i with h | h);(·exact r5 j h b hb);(obtain rfl:j=i:=by omega);rw [hx] at hb; cases hb; exact dK);simp only [Go.Eng.intOf,cM]; omega
 have jw:¬ i<ns.length:=by simpa using lS
 have ck:decide ((-1:Int)≥0)=ma s ns:=by rw [decide_eq_false (by decide:¬ ((-1:Int)≥0)),W9];intro hm;obtain⟨j,hj⟩:=List.getElem?_of_mem hm;exact r5 j (by have:=(ax.1 hj).1; omega) s hj rfl
 simp only [go_sem];exact hK _ ⟨_,rfl,ck⟩
end
theorem Oh (ns:List ByteArray) (s:ByteArray) (hl:ns.length≤1048576):∃ r_,(fun w=>w=bl (ma s ns)) r_∧bG ab 45 [.slice (ns.map str),str s] r_:=by refine kc tt_ok [] 9 [.tmp 4] (fn:=Tryz.f45) Tryz.func45 rfl Tryz.call45 ⟨rfl,rfl,by simp⟩ fun K hK=>?_;simp only [go_sem];refine cF (Si ns s hl) ?_;rintro _ ⟨n,rfl,hn⟩;simp only [go_sem];exact hK _ (congrArg bl hn)
theorem Oi (ns:List ByteArray) (s:ByteArray) (hl:ns.length≤1048576):bG ab 45 [.slice (ns.map str),str s] (bl (ma s ns)):=by obtain⟨_,rfl,h⟩:=Oh ns s hl;exact h
theorem Sj (X:Rv) (vs:List ByteArray) (v:Nat) (e:Int) (c:Int):∃ r_ m_,(fun r m=>r = .eC []∧m=[.box [str X.mp,.slice (X.cg.map bQ),.slice (X.decls.map aL),num X.idx,.ms 3 v 0 vs.length,num (sY e c),.sc (.func (.func 85) #[] #[]),.sc (.func (.func 86) #[] #[]),.cC (.func 83) [] [.ptr 1 0]],.box [.mp 2],.map (iF strVal 0 (cY (cZ X.cg))) (cY (cZ X.cg)).length,.rows v 1 (vs.map str)]) r_ m_∧bk ab 84 [.ptr 0 0,num c] ([.box [str X.mp,.slice (X.cg.map bQ),.slice (X.decls.map aL),num X.idx,.ms 3 v 0 vs.length,num (e),.sc (.func (.func 85) #[] #[]),.sc (.func (.func 86) #[] #[]),.cC (.func 83) [] [.ptr 1 0]],.box [.mp 2],.map (iF strVal 0 (cY (cZ X.cg))) (cY (cZ X.cg)).length,.rows v 1 (vs.map str)]) r_ m_:=by
 refine I7 tt_ok [] 13 [] (4) (by simp) (fn:=Tryz.f84) Tryz.func84 rfl Tryz.call84 ⟨rfl,rfl,by simp⟩ fun K hK=>?_;simp only [bF,go_sem];refine bY (fun hc8=>?_) (fun hc8=>?_);·(have xn:sY e c=c:=by unfold sY; rw [if_pos (of_decide_eq_true hc8)]);simp only [bF,go_sem];exact hK _ _ ⟨rfl,by rw [xn]⟩
 have xn:sY e c=e:=by unfold sY; rw [if_neg (of_decide_eq_false hc8)]
 simp only [bF,go_sem];exact hK _ _ ⟨rfl,by rw [xn]⟩
theorem Sk (X:Rv) (vs:List ByteArray) (v:Nat) (e:Int) (c:Int):bk ab 84 [.ptr 0 0,num c] (L4 X vs v e) (.eC []) (L4 X vs v (sY e c)):=by obtain⟨r,m,⟨rfl,rfl⟩,h⟩:=Sj X vs v e c;exact h
theorem Sl (X:Rv) (vs:List ByteArray) (v:Nat) (e:Int) (c:Int) {M:List ba} {k0 k1 k2 k3:Nat} (hM:Dv M X vs v e k0 k1 k2 k3):bk ab 84 [.ptr k0 0,num c] M (.eC []) (M.set k0 (.box (Jk X vs.length v (sY e c) k1 k3))):=by have h:=QU (Sk X vs v e c) (by simp [aH,aO,aG,ai,a8,aC,az]) (by simp [aH,aO,aG,ai,a8,aC,az]) hM;simpa [jx,ff,m9,aG,ai,a8,aC,ko] using h
theorem zv (X:Rv) (vs:List ByteArray) (v:Nat) (e:Int) (c:Int) {M:List ba} (hM:Dv M X vs v e 0 1 2 3):∃ r_ m_,(fun r m=>r = .eC []∧m=M.set 0 (.box [str X.mp,.slice (X.cg.map bQ),.slice (X.decls.map aL),num X.idx,.ms 3 v 0 vs.length,num (sY e c),.sc (.func (.func 85) #[] #[]),.sc (.func (.func 86) #[] #[]),.cC (.func 83) [] [.ptr 1 0]])) r_ m_∧bk ab 84 [.ptr 0 0,num c] M r_ m_:=⟨_,_,⟨rfl,rfl⟩,Sl X vs v e c hM⟩
theorem Xa (X:Rv) (vs:List ByteArray) (v:Nat) (e:Int) (s:ByteArray):∃ r_ m_,(fun r m=>r=str (w6 X s)∧m=[.box [str X.mp,.slice (X.cg.map bQ),.slice (X.decls.map aL),num X.idx,.ms 3 v 0 vs.length,num (sY e (ve X s)),.sc (.func (.func 85) #[] #[]),.sc (.func (.func 86) #[] #[]),.cC (.func 83) [] [.ptr 1 0]],.box [.mp 2],.map (iF strVal 0 (cY (cZ X.cg))) (cY (cZ X.cg)).length,.rows v 1 (vs.map str)]) r_ m_∧bk ab 83 [.ptr 0 0,str s,.ptr 1 0] ([.box [str X.mp,.slice (X.cg.map bQ),.slice (X.decls.map aL),num X.idx,.ms 3 v 0 vs.length,num (e),.sc (.func (.func 85) #[] #[]),.sc (.func (.func 86) #[] #[]),.cC (.func 83) [] [.ptr 1 0]],.box [.mp 2],.map (iF strVal 0 (cY (cZ X.cg))) (cY (cZ X.cg)).length,.rows v 1 (vs.map str)]) r_ m_:=by
 refine I7 tt_ok [] 19 [.tmp 5] (4) (by simp) (fn:=Tryz.f83) Tryz.func83 rfl Tryz.call83 ⟨rfl,rfl,by simp⟩ fun K hK=>?_;have js:=ktS.get s (cY (cZ X.cg)) (mem:=[.box [str X.mp,.slice (X.cg.map bQ),.slice (X.decls.map aL),num X.idx,.ms 3 v 0 vs.length,num (e),.sc (.func (.func 85) #[] #[]),.sc (.func (.func 86) #[] #[]),.cC (.func 83) [] [.ptr 1 0]],.box [.mp 2],.map (iF strVal 0 (cY (cZ X.cg))) (cY (cZ X.cg)).length,.rows v 1 (vs.map str)]) (b:=2) rfl (z:=str ⟨#[]⟩) (by kernel_rfl) true;rw [Fi] at js;rcases pY:kV s (cZ X.cg) with _ | p
 ·simp only [pY,amZ,anT,anL,QA] at js;(have ZH:w6 X s=⟨#[]⟩:=by unfold w6; rw [pY]; rfl);(have hle:sY e (ve X s)=sY e 6:=by unfold ve; rw [pY]; rfl);simp only [bF,js,go_sem];refine cW (zv X vs v e 6 ⟨rfl,rfl,rfl,rfl,by decide⟩) ?_;rintro _ _ ⟨rfl,rfl⟩;simp only [bF,js,go_sem];exact hK _ _ ⟨by rw [ZH],by rw [hle]⟩
 simp only [pY,bz,anU,amY,QA] at js;have ZH:w6 X s=p:=by unfold w6; rw [pY]; rfl
 have hle:sY e (ve X s)=e:=by unfold ve; rw [pY]; exact uO e
 simp only [bF,js,go_sem];exact hK _ _ ⟨by rw [ZH],by rw [hle]⟩
theorem Xb (X:Rv) (vs:List ByteArray) (v:Nat) (e:Int) (s:ByteArray):bk ab 83 [.ptr 0 0,str s,.ptr 1 0] (L4 X vs v e) (str (w6 X s)) (L4 X vs v (sY e (ve X s))):=by obtain⟨r,m,⟨rfl,rfl⟩,h⟩:=Xa X vs v e s;exact h
theorem Oj (X:Rv) (vs:List ByteArray) (v:Nat) (e:Int) (s:ByteArray) {M:List ba} {k0 k1 k2 k3:Nat} (hM:Dv M X vs v e k0 k1 k2 k3):bk ab 83 [.ptr k0 0,str s,.ptr k1 0] M (str (w6 X s)) (M.set k0 (.box (Jk X vs.length v (sY e (ve X s)) k1 k3))):=by have h:=QU (Xb X vs v e s) (by simp [aH,aO,aG,ai,a8,aC,az]) (by simp [aH,aO,aG,ai,a8,aC,az]) hM;simpa [jx,ff,m9,aG,ai,a8,aC,ko] using h
theorem UA (X:Rv) (vs:List ByteArray) (v:Nat) (e:Int) (s:ByteArray) {M:List ba} (hM:Dv M X vs v e 0 1 2 3):∃ r_ B_,(fun r B=>r=str (w6 X s)∧B=ba.box [str X.mp,.slice (X.cg.map bQ),.slice (X.decls.map aL),num X.idx,.ms 3 v 0 vs.length,num (sY e (ve X s)),.sc (.func (.func 85) #[] #[]),.sc (.func (.func 86) #[] #[]),.cC (.func 83) [] [.ptr 1 0]]) r_ B_∧B_.dw=0∧bk ab 83 [.ptr 0 0,str s,.ptr 1 0] M r_ (M.set 0 B_):=⟨_,_,⟨rfl,rfl⟩,rfl,Oj X vs v e s hM⟩
theorem Xc (s:ByteArray) (d:Dc):∃ r_,(fun w=>w=bl (decide (d.name=s))) r_∧bk ab 199 [aL d,.ptr 0 0] ([.box [str s]]) r_ ([.box [str s]]):=by refine Bd tt_ok [] 8 [.tmp 3] (fn:=Tryz.f199) Tryz.func199 rfl Tryz.call199 ⟨rfl,rfl,by simp⟩ fun K hK=>?_;simp only [dO,aL,ai,aC];simp only [dk,go_sem];exact hK _ _ ⟨rfl,rfl⟩
section
attribute [local go_sem] ag
theorem Sm (s:ByteArray) (l:List Dc) (hl:l.length≤1048576):∃ r_,(fun w=>w=num (Aq l s)) r_∧bk ab 32 [.slice (l.map aL),.cC (.func 199) [] [.ptr 0 0]] ([.box [str s]]) r_ ([.box [str s]]):=by
 refine Bd tt_ok [] 19 [.tmp 4] (fn:=Tryz.f32) Tryz.func32 rfl Tryz.call32 ⟨rfl,rfl,by simp⟩ fun K hK=>?_;simp only [go_sem];refine iB tt_ok [] [8] 1 [0,1,7] (fun vs=>((l.length:Int)-Go.Eng.intOf (vs.headD .undef)).toNat) (fun vs=>∃ i:Nat,vs=[num i]∧i≤l.length∧∀ j<i,∀ x,l[j]?=some x→decide (x.name=s)=false) (by omega) (by simp only [go_sem]) (⟨0,rfl,bx _,fun j hj=>absurd hj (iK j)⟩) fun vs hI Z1 ee=>?_;obtain⟨i,rfl,hi,er⟩:=hI;simp only [go_sem];refine bY (fun lS=>?_) (fun lS=>?_);·(have bX:i<l.length:=by simpa using lS);have hw:=bB i (by omega);obtain⟨x,hx⟩:∃ x,l[i]?=some x:=⟨_,ah bX⟩;simp only [hw,ae,hx,aL,ai,aC,aj,ak,go_sem];refine cS (by have h:=Xc s x; simp only [dO,aL,ai,aC] at h; exact h) ?_;rintro _ rfl;simp only [hw,ae,hx,aL,ai,aC,aj,ak,go_sem];refine bY (fun fJ=>?_) (fun fJ=>?_);(·have ck:(i:Int)=Aq l s:=Og hx (of_decide_eq_true fJ) er;simp only [hw,ae,hx,aL,ai,aC,aj,ak,go_sem];exact hK _ _ ⟨congrArg num ck,rfl⟩);simp only [hw,ae,hx,aL,ai,aC,aj,ak,go_sem];refine ee _ (oj (by omega) (by simp only [hw,ae,hx,aL,ai,aC,aj,ak,go_sem]) ?_ ?_) <;> simp only [fC,lk,reduceIte,zE];(·refine⟨i+1,rfl,bX,fun j hj=>?_⟩;(rcases bW j i with h | h);(·exact er j h);(obtain rfl:j=i:=by omega);intro y hy;rw [hx] at hy; cases hy; exact fJ);simp only [Go.Eng.intOf,cM]; omega
 have jw:¬ i<l.length:=by simpa using lS
 have ck:(-1:Int)=Aq l s:=Fq fun j hj=>er j (by omega);simp only [go_sem];exact hK _ _ ⟨congrArg num ck,rfl⟩
end
theorem Sn (s:ByteArray) (l:List Dc) (hl:l.length≤1048576) {M:List ba} {k:Nat} (hM:M[k]?=some (.box [str s])):∃ r_,(fun w=>w=num (Aq l s)) r_∧bk ab 32 [.slice (l.map aL),.cC (.func 199) [] [.ptr k 0]] M r_ M:=by obtain⟨_,rfl,h⟩:=Sm s l hl;have h2:=bk.keys (mem:=[.box [str s]]) (B:=.box [str s]) (j0:=0) h M [k] rfl (by simp) (by simp) (by simp [aH,aO]) rfl rfl rfl (fun i B hi=>by (rcases i with _ | i);(·cases hi; exact hM);simp at hi);have e:M.set (m9 [k] M.length 0) (mK (m9 [k] M.length) (.box [str s]))=M:=pr hM;rw [e] at h2;exact⟨_,rfl,h2⟩
theorem uR (X:Rv) (vs:List ByteArray) (v:Nat) (e:Int) (kq:X.decls.length≤1048576) (s:ByteArray):∃ r_,(fun w=>w=num (Aq X.decls s)) r_∧bk ab 142 [.ptr 0 0,str s] ([.box [str X.mp,.slice (X.cg.map bQ),.slice (X.decls.map aL),num X.idx,.ms 3 v 0 vs.length,num (e),.sc (.func (.func 85) #[] #[]),.sc (.func (.func 86) #[] #[]),.cC (.func 83) [] [.ptr 1 0]],.box [.mp 2],.map (iF strVal 0 (cY (cZ X.cg))) (cY (cZ X.cg)).length,.rows v 1 (vs.map str)]) r_ ([.box [str X.mp,.slice (X.cg.map bQ),.slice (X.decls.map aL),num X.idx,.ms 3 v 0 vs.length,num (e),.sc (.func (.func 85) #[] #[]),.sc (.func (.func 86) #[] #[]),.cC (.func 83) [] [.ptr 1 0]],.box [.mp 2],.map (iF strVal 0 (cY (cZ X.cg))) (cY (cZ X.cg)).length,.rows v 1 (vs.map str)]):=by refine Bd tt_ok [] 12 [.tmp 4] (fn:=Tryz.f142) Tryz.func142 rfl Tryz.call142 ⟨rfl,rfl,by simp⟩ fun K hK=>?_;simp only [bF,go_sem];refine cS (Sn s X.decls kq rfl) ?_;rintro _ rfl;simp only [bF,go_sem];exact hK _ _ ⟨rfl,rfl⟩
theorem Sp (X:Rv) (vs:List ByteArray) (v:Nat) (e:Int) (kq:X.decls.length≤1048576) (s:ByteArray):∃ r_,(fun w=>w=num (vS X s)) r_∧bk ab 144 [.ptr 0 0,str s] ([.box [str X.mp,.slice (X.cg.map bQ),.slice (X.decls.map aL),num X.idx,.ms 3 v 0 vs.length,num (e),.sc (.func (.func 85) #[] #[]),.sc (.func (.func 86) #[] #[]),.cC (.func 83) [] [.ptr 1 0]],.box [.mp 2],.map (iF strVal 0 (cY (cZ X.cg))) (cY (cZ X.cg)).length,.rows v 1 (vs.map str)]) r_ ([.box [str X.mp,.slice (X.cg.map bQ),.slice (X.decls.map aL),num X.idx,.ms 3 v 0 vs.length,num (e),.sc (.func (.func 85) #[] #[]),.sc (.func (.func 86) #[] #[]),.cC (.func 83) [] [.ptr 1 0]],.box [.mp 2],.map (iF strVal 0 (cY (cZ X.cg))) (cY (cZ X.cg)).length,.rows v 1 (vs.map str)]):=by
 refine Bd tt_ok [] 19 [.tmp 4] (fn:=Tryz.f144) Tryz.func144 rfl Tryz.call144 ⟨rfl,rfl,by simp⟩ fun K hK=>?_;simp only [bF,go_sem];refine cS (uR X vs v e kq s) ?_;rintro _ rfl;simp only [bF,go_sem];refine bY (fun lS=>?_) (fun lS=>?_);·(have ck:6=vS X s:=by unfold vS; rw [if_pos (of_decide_eq_true lS)]);simp only [bF,go_sem];exact hK _ _ ⟨congrArg num ck,rfl⟩
 have hn9:=of_decide_eq_false lS;simp only [bF,go_sem];refine bY (fun AK=>?_) (fun AK=>?_);·(have ck:14=vS X s:=by unfold vS; rw [if_neg hn9,if_pos (of_decide_eq_true AK)]);simp only [bF,go_sem];exact hK _ _ ⟨congrArg num ck,rfl⟩
 have ck:0=vS X s:=by unfold vS; rw [if_neg hn9,if_neg (of_decide_eq_false AK)]
 simp only [bF,go_sem];exact hK _ _ ⟨congrArg num ck,rfl⟩
theorem Fs (X:Rv) (vs:List ByteArray) (v:Nat) (e:Int) (kq:X.decls.length≤1048576) (s:ByteArray) {M:List ba} (hM:Dv M X vs v e 0 1 2 3):∃ r_,(fun w=>w=num (Aq X.decls s)) r_∧bk ab 142 [.ptr 0 0,str s] M r_ M:=by obtain⟨_,rfl,h⟩:=uR X vs v e kq s;have h2:=QU (e':=e) h rfl rfl hM;rw [pr hM.h0] at h2;exact⟨_,rfl,h2⟩
theorem Xd (X:Rv) (vs:List ByteArray) (v:Nat) (e:Int) (kq:X.decls.length≤1048576) (s:ByteArray) {M:List ba} (hM:Dv M X vs v e 0 1 2 3):∃ r_,(fun w=>w=num (vS X s)) r_∧bk ab 144 [.ptr 0 0,str s] M r_ M:=by obtain⟨_,rfl,h⟩:=Sp X vs v e kq s;have h2:=QU (e':=e) h rfl rfl hM;rw [pr hM.h0] at h2;exact⟨_,rfl,h2⟩
end
section
theorem Ok (mem:List ba) (ks:List (Nat×Nat)) (b:Bool):fQ mem ks (bl b)=mem:=rfl
theorem Gk (l:List ByteArray):(l.map str).take l.length=l.map str:=bE (by simp)
section
attribute [local go_sem] bF aq aJ dk ag aw Ok
theorem KL (X:Rv) (vs:List ByteArray) (v:Nat) (e:Int) (kq:X.decls.length≤1048576) (ke:vs.length≤1048576) (t:Ty):∃ r_ m_,(fun r m=>Gv r=cf (Fp (gR X vs t) t)∧m=[.box [str X.mp,.slice (X.cg.map bQ),.slice (X.decls.map aL),num X.idx,.ms 3 v 0 vs.length,num (sR X vs e t),.sc (.func (.func 85) #[] #[]),.sc (.func (.func 86) #[] #[]),.cC (.func 83) [] [.ptr 1 0]],.box [.mp 2],.map (iF strVal 0 (cY (cZ X.cg))) (cY (cZ X.cg)).length,.rows v 1 (vs.map str)]) r_ m_∧bk ab 85 [.ptr 0 0,cf t] ([.box [str X.mp,.slice (X.cg.map bQ),.slice (X.decls.map aL),num X.idx,.ms 3 v 0 vs.length,num (e),.sc (.func (.func 85) #[] #[]),.sc (.func (.func 86) #[] #[]),.cC (.func 83) [] [.ptr 1 0]],.box [.mp 2],.map (iF strVal 0 (cY (cZ X.cg))) (cY (cZ X.cg)).length,.rows v 1 (vs.map str)]) r_ m_:=by
 refine I7 tt_ok [] 49 [.cell 4 41] (4) (by simp) (fn:=Tryz.f85) Tryz.func85 rfl Tryz.call85 ⟨rfl,rfl,by simp⟩ fun K hK=>?_;simp only [aG,ai];simp only [Gk vs,go_sem];refine bY (fun oq=>?_) (fun oq=>?_);·(have hm:¬ t.mod=⟨#[]⟩:=by simpa using oq);(have lu:gR X vs t=some (w6 X t.mod):=by unfold gR; rw [if_neg hm]);(have Ft:sR X vs e t=sY e (ve X t.mod):=by unfold sR tE; rw [if_neg hm]);simp only [Gk vs,go_sem];refine dT tt_ok bU [⟨.n,0,[],[],[]⟩,⟨.n,0,[],[0],[]⟩,⟨.n,0,[],[0,1],[]⟩,⟨.r,0,[],[0,1,2],[]⟩,⟨.n,0,[],[],[]⟩,⟨.n,0,[],[],[]⟩,⟨.r,0,[],[5],[]⟩,⟨.e,0,[],[0,1,2,3,4,5,6],[]⟩,⟨.n,0,[],[0,1,2,3,4,5,6,7],[]⟩,⟨.w,0,[],[0,1,2,3,4,5,6,7,8],[]⟩] 1 (by kernel_rfl) ?_;simp only [Gk vs,go_sem];refine va rfl rfl (UA X vs v e t.mod ⟨rfl,rfl,rfl,rfl,by decide⟩) ?_;rintro _ _ ⟨rfl,rfl⟩;simp only [Gk vs,go_sem];exact hK _ _ ⟨by rw [lu]; rfl,by rw [Ft]⟩
 have hm:t.mod=⟨#[]⟩:=by simpa using oq
 simp only [Gk vs,go_sem];refine dT tt_ok bU [⟨.n,0,[],[],[]⟩,⟨.n,0,[],[0],[]⟩,⟨.n,0,[],[0,1],[]⟩,⟨.r,0,[],[0,1,2],[]⟩,⟨.n,0,[],[],[]⟩,⟨.r,0,[],[4],[]⟩,⟨.z,0,[],[0,1,2,3,4,5],[]⟩,⟨.n,0,[],[0,1,2,3,4,5,6],[]⟩] 0 (by kernel_rfl) ?_;simp only [Gk vs,go_sem];refine cGZ (Oi vs t.name ke) ?_;simp only [Gk vs,go_sem];refine bY (fun HF=>?_) (fun HF=>?_);·(have lu:gR X vs t=none:=by unfold gR; rw [if_pos hm,if_pos HF]);simp only [Gk vs,go_sem];refine bY (fun zw=>?_) (fun zw=>?_);(·(have Ft:sR X vs e t=sY e 11:=by unfold sR tE; rw [if_pos hm,if_pos HF,if_pos (by have h_:=of_decide_eq_true zw; (try rw [aq] at h_); omega)]);simp only [Gk vs,go_sem];refine cW (zv X vs v e _ ⟨rfl,rfl,rfl,rfl,by decide⟩) ?_;rintro _ _ ⟨rfl,rfl⟩;simp only [Gk vs,go_sem];exact hK _ _ ⟨by rw [lu]; rfl,by rw [Ft]⟩);(have Ft:sR X vs e t=e:=by unfold sR tE; rw [if_pos hm,if_pos HF,if_neg (by have h_:=of_decide_eq_false zw; (try rw [aq] at h_); omega),uO]);simp only [Gk vs,go_sem];exact hK _ _ ⟨by rw [lu]; rfl,by rw [Ft]⟩
 have lu:gR X vs t=some X.mp:=by unfold gR; rw [if_pos hm,if_neg (by rw [HF]; simp)]
 simp only [Gk vs,go_sem];refine cS (Fs X vs v e kq t.name ⟨rfl,rfl,rfl,rfl,by decide⟩) ?_;rintro _ rfl;simp only [Gk vs,go_sem];refine bY (fun lS=>?_) (fun lS=>?_);·(have Ft:sR X vs e t=sY e 6:=by unfold sR tE; rw [if_pos hm,if_neg (by rw [HF]; simp),if_pos (of_decide_eq_true lS)]);simp only [Gk vs,go_sem];refine cW (zv X vs v e _ ⟨rfl,rfl,rfl,rfl,by decide⟩) ?_;rintro _ _ ⟨rfl,rfl⟩;simp only [Gk vs,go_sem];exact hK _ _ ⟨by rw [lu]; rfl,by rw [Ft]⟩
 have Ft:sR X vs e t=e:=by unfold sR tE; rw [if_pos hm,if_neg (by rw [HF]; simp),if_neg (of_decide_eq_false lS),uO]
 simp only [Gk vs,go_sem];exact hK _ _ ⟨by rw [lu]; rfl,by rw [Ft]⟩
end
theorem Ol (X:Rv) (vs:List ByteArray) (v:Nat) (e:Int) (kq:X.decls.length≤1048576) (ke:vs.length≤1048576) (t:Ty):∃ r_ m_,(fun r m=>r=cf (Fp (gR X vs t) t)∧m=[.box [str X.mp,.slice (X.cg.map bQ),.slice (X.decls.map aL),num X.idx,.ms 3 v 0 vs.length,num (sR X vs e t),.sc (.func (.func 85) #[] #[]),.sc (.func (.func 86) #[] #[]),.cC (.func 83) [] [.ptr 1 0]],.box [.mp 2],.map (iF strVal 0 (cY (cZ X.cg))) (cY (cZ X.cg)).length,.rows v 1 (vs.map str)]) r_ m_∧bk ab 85 [.ptr 0 0,cf t] ([.box [str X.mp,.slice (X.cg.map bQ),.slice (X.decls.map aL),num X.idx,.ms 3 v 0 vs.length,num (e),.sc (.func (.func 85) #[] #[]),.sc (.func (.func 86) #[] #[]),.cC (.func 83) [] [.ptr 1 0]],.box [.mp 2],.map (iF strVal 0 (cY (cZ X.cg))) (cY (cZ X.cg)).length,.rows v 1 (vs.map str)]) r_ m_:=by obtain⟨r,m,⟨h1,rfl⟩,h⟩:=KL X vs v e kq ke t;exact⟨_,_,⟨h1,rfl⟩,h.row⟩
theorem Om (X:Rv) (vs:List ByteArray) (v:Nat) (e:Int) (kq:X.decls.length≤1048576) (ke:vs.length≤1048576) (t:Ty):bk ab 85 [.ptr 0 0,cf t] (L4 X vs v e) (cf (Fp (gR X vs t) t)) (L4 X vs v (sR X vs e t)):=by obtain⟨r,m,⟨rfl,rfl⟩,h⟩:=Ol X vs v e kq ke t;exact h
theorem On (X:Rv) (vs:List ByteArray) (v:Nat) (e:Int) (kq:X.decls.length≤1048576) (ke:vs.length≤1048576) (t:Ty) {M:List ba} {k0 k1 k2 k3:Nat} (hM:Dv M X vs v e k0 k1 k2 k3):bk ab 85 [.ptr k0 0,cf t] M (cf (Fp (gR X vs t) t)) (M.set k0 (.box (Jk X vs.length v (sR X vs e t) k1 k3))):=by have h:=QU (Om X vs v e kq ke t) (by simp [aH,aO,aG,ai,a8,aC,az]) (by simp [aH,aO,aG,ai,a8,aC,az]) hM;simpa [jx,ff,m9,aG,ai,a8,aC,ko] using h
theorem Sq (X:Rv) (vs:List ByteArray) (v:Nat) (e:Int) (kq:X.decls.length≤1048576) (ke:vs.length≤1048576) (t:Ty) {M:List ba} (hM:Dv M X vs v e 0 1 2 3):∃ r_ B_,(fun r B=>r=cf (Fp (gR X vs t) t)∧B=ba.box [str X.mp,.slice (X.cg.map bQ),.slice (X.decls.map aL),num X.idx,.ms 3 v 0 vs.length,num (sR X vs e t),.sc (.func (.func 85) #[] #[]),.sc (.func (.func 86) #[] #[]),.cC (.func 83) [] [.ptr 1 0]]) r_ B_∧B_.dw=0∧bk ab 85 [.ptr 0 0,cf t] M r_ (M.set 0 B_):=⟨_,_,⟨rfl,rfl⟩,rfl,On X vs v e kq ke t hM⟩
section
attribute [local go_sem] bF az aq aA ag dk Ok
attribute [local go_sem ↓] uP uQ
theorem KM (X:Rv) (vs:List ByteArray) (v:Nat) (e:Int) (kq:X.decls.length≤1048576) (ke:vs.length≤1048576) (loc:List ByteArray) (x:Ex):∃ r_ m_,(fun r m=>r=cx (ndX (hR X loc x) x)∧m=[.box [str X.mp,.slice (X.cg.map bQ),.slice (X.decls.map aL),num X.idx,.ms 3 v 0 vs.length,num (vR X loc e x),.sc (.func (.func 85) #[] #[]),.sc (.func (.func 86) #[] #[]),.cC (.func 83) [] [.ptr 1 0]],.box [.mp 2],.map (iF strVal 0 (cY (cZ X.cg))) (cY (cZ X.cg)).length,.rows v 1 (vs.map str)]) r_ m_∧bk ab 86 [.ptr 0 0,fH loc,cx x] ([.box [str X.mp,.slice (X.cg.map bQ),.slice (X.decls.map aL),num X.idx,.ms 3 v 0 vs.length,num (e),.sc (.func (.func 85) #[] #[]),.sc (.func (.func 86) #[] #[]),.cC (.func 83) [] [.ptr 1 0]],.box [.mp 2],.map (iF strVal 0 (cY (cZ X.cg))) (cY (cZ X.cg)).length,.rows v 1 (vs.map str)]) r_ m_:=by
 refine I7 tt_ok [] 46 [.cell 6 45] (4) (by simp) (fn:=Tryz.f86) Tryz.func86 rfl Tryz.call86 ⟨rfl,rfl,by simp⟩ fun K hK=>?_;simp only [a8,aC];simp only [go_sem];refine bY (fun HG=>?_) (fun HG=>?_);·(have hm:¬ x.mod=⟨#[]⟩:=by simpa using HG);(have lu:hR X loc x=(x.kind,w6 X x.mod):=by unfold hR; rw [if_neg hm]);(have Ft:vR X loc e x=sY e (ve X x.mod):=by unfold vR vE; rw [if_neg hm]);simp only [go_sem];refine dT tt_ok bU [⟨.n,0,[],[],[]⟩,⟨.n,0,[],[0],[]⟩,⟨.n,0,[],[0,1],[]⟩,⟨.r,0,[],[0,1,2],[]⟩,⟨.n,0,[],[],[]⟩,⟨.n,0,[],[],[]⟩,⟨.r,0,[],[5],[]⟩,⟨.e,0,[],[0,1,2,3,4,5,6],[]⟩,⟨.n,0,[],[0,1,2,3,4,5,6,7],[]⟩,⟨.w,0,[],[0,1,2,3,4,5,6,7,8],[]⟩] 1 (by kernel_rfl) ?_;simp only [go_sem];refine va rfl rfl (UA X vs v e x.mod ⟨rfl,rfl,rfl,rfl,by decide⟩) ?_;rintro _ _ ⟨rfl,rfl⟩;simp only [go_sem];exact hK _ _ ⟨by rw [lu]; rfl,by rw [Ft]⟩
 have hm:x.mod=⟨#[]⟩:=by simpa using HG
 simp only [go_sem];refine cF (Sg loc x.name) ?_;rintro _ rfl;simp only [go_sem];refine bY (fun KN=>?_) (fun KN=>?_);·(have lu:hR X loc x=(x.kind,x.mod):=by unfold hR; rw [if_pos hm,if_pos KN]);simp only [go_sem];refine bY (fun zy=>?_) (fun zy=>?_);(·(have Ft:vR X loc e x=sY e 11:=by unfold vR vE; rw [if_pos hm,if_pos KN,if_pos (of_decide_eq_true zy)]);simp only [go_sem];refine cW (zv X vs v e _ ⟨rfl,rfl,rfl,rfl,by decide⟩) ?_;rintro _ _ ⟨rfl,rfl⟩;simp only [go_sem];exact hK _ _ ⟨by rw [lu]; rfl,by rw [Ft]⟩);(have Ft:vR X loc e x=e:=by unfold vR vE; rw [if_pos hm,if_pos KN,if_neg (of_decide_eq_false zy),uO]);simp only [go_sem];exact hK _ _ ⟨by rw [lu]; rfl,by rw [Ft]⟩
 have lu:hR X loc x=(4,X.mp):=by unfold hR; rw [if_pos hm,if_neg (by rw [KN]; simp)]
 have Ft:vR X loc e x=sY e (vS X x.name):=by unfold vR vE; rw [if_pos hm,if_neg (by rw [KN]; simp)]
 simp only [go_sem];refine cS (Xd X vs v e kq x.name ⟨rfl,rfl,rfl,rfl,by decide⟩) ?_;rintro _ rfl;simp only [go_sem];refine cW (zv X vs v e _ ⟨rfl,rfl,rfl,rfl,by decide⟩) ?_;rintro _ _ ⟨rfl,rfl⟩;simp only [go_sem];refine dT tt_ok bU [⟨.n,0,[],[],[]⟩,⟨.n,0,[],[0],[]⟩,⟨.n,0,[],[0,1],[]⟩,⟨.n,0,[],[0,1,2],[]⟩,⟨.r,0,[],[0,1,2,3],[4]⟩,⟨.n,0,[],[],[]⟩,⟨.e,4,[],[5],[]⟩,⟨.n,0,[],[0,1,2,3,4,5,6],[]⟩,⟨.e,4,[],[0,1,2,3,4,5,6,7],[]⟩] 0 (by kernel_rfl) ?_;simp only [go_sem];exact hK _ _ ⟨by rw [lu]; rfl,by rw [Ft]⟩
end
theorem KO (X:Rv) (vs:List ByteArray) (v:Nat) (e:Int) (kq:X.decls.length≤1048576) (ke:vs.length≤1048576) (loc:List ByteArray) (x:Ex):bk ab 86 [.ptr 0 0,fH loc,cx x] (L4 X vs v e) (cx (ndX (hR X loc x) x)) (L4 X vs v (vR X loc e x)):=by obtain⟨r,m,⟨rfl,rfl⟩,h⟩:=KM X vs v e kq ke loc x;exact h
theorem KP (X:Rv) (vs:List ByteArray) (v:Nat) (e:Int) (kq:X.decls.length≤1048576) (ke:vs.length≤1048576) (loc:List ByteArray) (x:Ex) {M:List ba} {k0 k1 k2 k3:Nat} (hM:Dv M X vs v e k0 k1 k2 k3):bk ab 86 [.ptr k0 0,fH loc,cx x] M (cx (ndX (hR X loc x) x)) (M.set k0 (.box (Jk X vs.length v (vR X loc e x) k1 k3))):=by have h:=QU (KO X vs v e kq ke loc x) (by simp [aH,aO,aG,ai,a8,aC,az]) (by simp [aH,aO,aG,ai,a8,aC,az]) hM;simpa [jx,ff,m9,aG,ai,a8,aC,ko] using h
theorem Oo (X:Rv) (vs:List ByteArray) (v:Nat) (e:Int) (kq:X.decls.length≤1048576) (ke:vs.length≤1048576) (loc:List ByteArray) (x:Ex) {M:List ba} (hM:Dv M X vs v e 0 1 2 3):∃ r_ B_,(fun r B=>r=cx (ndX (hR X loc x) x)∧B=ba.box [str X.mp,.slice (X.cg.map bQ),.slice (X.decls.map aL),num X.idx,.ms 3 v 0 vs.length,num (vR X loc e x),.sc (.func (.func 85) #[] #[]),.sc (.func (.func 86) #[] #[]),.cC (.func 83) [] [.ptr 1 0]]) r_ B_∧B_.dw=0∧bk ab 86 [.ptr 0 0,fH loc,cx x] M r_ (M.set 0 B_):=⟨_,_,⟨rfl,rfl⟩,rfl,KP X vs v e kq ke loc x hM⟩
end
theorem zH (l:List Fd) (n:Nat):dx (bV l) n 7=true:=by
 unfold dx; split;·rename_i h; simp [hY] at h; obtain⟨t,-,rfl⟩:=h; simp [Kt]
 rfl
theorem zI (l:List Lb) (n:Nat):dx (l.map bO) n 8=true:=by
 unfold dx; split;·rename_i h; simp at h; obtain⟨t,-,rfl⟩:=h; simp [bO,ai,V.cells]
 rfl
theorem zJ (l:List Ex) (n:Nat):dx (cr l) n 8=true:=by
 unfold dx; split;·rename_i h; simp [jJ] at h; obtain⟨t,-,rfl⟩:=h; simp [Ku]
 rfl
theorem Oq (l:List Pm) (n:Nat):dx (l.map cX) n 7=true:=by
 unfold dx; split;·rename_i h; simp at h; obtain⟨t,-,rfl⟩:=h; simp [cX,ai,V.cells]
 rfl
theorem Fu (l:List Im) (n:Nat):dx (l.map bQ) n 2=true:=by
 unfold dx; split;·rename_i h; simp at h; obtain⟨t,-,rfl⟩:=h; simp [bQ,V.cells]
 rfl
theorem Ot (l:List Dc) (n:Nat):dx (l.map aL) n 31=true:=by
 unfold dx; split;·rename_i h; simp at h; obtain⟨t,-,rfl⟩:=h; simp [aL,ai,aC,V.cells]
 rfl
theorem sZ (rows:List V) (h1:dx rows 0 7=true) (hl:rows.length≤34359738368):bk ab 54 [.slice rows] [] (.ms 0 1 0 rows.length) [.rows 1 7 rows]:=by refine jD tt_ok (fn:=Tryz.f54) 1 (by simp) Tryz.func54 rfl Tryz.call54 ?_;simp only [dO,cn,Tryz.ntmps54,aD,aM,zA,zF,aE,aF];refine af tt_ok fun K hK=>?_;simp only [go_sem];refine hK _ ?_;refine bj ?_;refine af tt_ok fun K hK=>?_;simp only [go_sem];intro b hb;refine hK _ ?_;cases b with | true =>((have h0:rows=[]:=by cases rows with | nil=>rfl | cons a r=>have:=hb (by simp); cases this);subst h0;refine aU rfl ?_;refine af tt_ok fun K hK=>?_;simp only [go_sem];refine hK _ ?_;refine lO 2 1 7 rfl ?_;exact bK ⟨.inl rfl,rfl,rfl,rfl,rfl⟩) | false =>refine aU rfl (bZ ?_);show dN _ _ _ _ _ _;refine af tt_ok fun K hK=>?_;simp only [h1,hl,go_sem];refine hK _ ?_;refine bK ⟨.inl rfl,?_⟩;simp [ka,mZ,oe,Tryz.f54,aH,aI,aO]
theorem s5 (rows:List V) (h1:dx rows 0 8=true) (hl:rows.length≤34359738368):bk ab 55 [.slice rows] [] (.ms 0 1 0 rows.length) [.rows 1 8 rows]:=by refine jD tt_ok (fn:=Tryz.f55) 1 (by simp) Tryz.func55 rfl Tryz.call55 ?_;simp only [dO,cn,Tryz.ntmps55,aD,aM,zA,zF,aE,aF];refine af tt_ok fun K hK=>?_;simp only [go_sem];refine hK _ ?_;refine bj ?_;refine af tt_ok fun K hK=>?_;simp only [go_sem];intro b hb;refine hK _ ?_;cases b with | true =>((have h0:rows=[]:=by cases rows with | nil=>rfl | cons a r=>have:=hb (by simp); cases this);subst h0;refine aU rfl ?_;refine af tt_ok fun K hK=>?_;simp only [go_sem];refine hK _ ?_;refine lO 2 1 8 rfl ?_;exact bK ⟨.inl rfl,rfl,rfl,rfl,rfl⟩) | false =>refine aU rfl (bZ ?_);show dN _ _ _ _ _ _;refine af tt_ok fun K hK=>?_;simp only [h1,hl,go_sem];refine hK _ ?_;refine bK ⟨.inl rfl,?_⟩;simp [ka,mZ,oe,Tryz.f55,aH,aI,aO]
theorem s6 (rows:List V) (h1:dx rows 0 8=true) (hl:rows.length≤34359738368):bk ab 56 [.slice rows] [] (.ms 0 1 0 rows.length) [.rows 1 8 rows]:=by refine jD tt_ok (fn:=Tryz.f56) 1 (by simp) Tryz.func56 rfl Tryz.call56 ?_;simp only [dO,cn,Tryz.ntmps56,aD,aM,zA,zF,aE,aF];refine af tt_ok fun K hK=>?_;simp only [go_sem];refine hK _ ?_;refine bj ?_;refine af tt_ok fun K hK=>?_;simp only [go_sem];intro b hb;refine hK _ ?_;cases b with | true =>((have h0:rows=[]:=by cases rows with | nil=>rfl | cons a r=>have:=hb (by simp); cases this);subst h0;refine aU rfl ?_;refine af tt_ok fun K hK=>?_;simp only [go_sem];refine hK _ ?_;refine lO 2 1 8 rfl ?_;exact bK ⟨.inl rfl,rfl,rfl,rfl,rfl⟩) | false =>refine aU rfl (bZ ?_);show dN _ _ _ _ _ _;refine af tt_ok fun K hK=>?_;simp only [h1,hl,go_sem];refine hK _ ?_;refine bK ⟨.inl rfl,?_⟩;simp [ka,mZ,oe,Tryz.f56,aH,aI,aO]
theorem HH (rows:List V) (h1:dx rows 0 7=true) (hl:rows.length≤34359738368):bk ab 21 [.slice rows] [] (.ms 0 1 0 rows.length) [.rows 1 7 rows]:=by refine jD tt_ok (fn:=Tryz.f21) 1 (by simp) Tryz.func21 rfl Tryz.call21 ?_;simp only [dO,cn,Tryz.ntmps21,aD,aM,zA,zF,aE,aF];refine af tt_ok fun K hK=>?_;simp only [go_sem];refine hK _ ?_;refine bj ?_;refine af tt_ok fun K hK=>?_;simp only [go_sem];intro b hb;refine hK _ ?_;cases b with | true =>((have h0:rows=[]:=by cases rows with | nil=>rfl | cons a r=>have:=hb (by simp); cases this);subst h0;refine aU rfl ?_;refine af tt_ok fun K hK=>?_;simp only [go_sem];refine hK _ ?_;refine lO 2 1 7 rfl ?_;exact bK ⟨.inl rfl,rfl,rfl,rfl,rfl⟩) | false =>refine aU rfl (bZ ?_);show dN _ _ _ _ _ _;refine af tt_ok fun K hK=>?_;simp only [h1,hl,go_sem];refine hK _ ?_;refine bK ⟨.inl rfl,?_⟩;simp [ka,mZ,oe,Tryz.f21,aH,aI,aO]
theorem zK (rows:List V) (h1:dx rows 0 2=true) (hl:rows.length≤34359738368):bk ab 19 [.slice rows] [] (.ms 0 1 0 rows.length) [.rows 1 2 rows]:=by refine jD tt_ok (fn:=Tryz.f19) 1 (by simp) Tryz.func19 rfl Tryz.call19 ?_;simp only [dO,cn,Tryz.ntmps19,aD,aM,zA,zF,aE,aF];refine af tt_ok fun K hK=>?_;simp only [go_sem];refine hK _ ?_;refine bj ?_;refine af tt_ok fun K hK=>?_;simp only [go_sem];intro b hb;refine hK _ ?_;cases b with | true =>((have h0:rows=[]:=by cases rows with | nil=>rfl | cons a r=>have:=hb (by simp); cases this);subst h0;refine aU rfl ?_;refine af tt_ok fun K hK=>?_;simp only [go_sem];refine hK _ ?_;refine lO 2 1 2 rfl ?_;exact bK ⟨.inl rfl,rfl,rfl,rfl,rfl⟩) | false =>refine aU rfl (bZ ?_);show dN _ _ _ _ _ _;refine af tt_ok fun K hK=>?_;simp only [h1,hl,go_sem];refine hK _ ?_;refine bK ⟨.inl rfl,?_⟩;simp [ka,mZ,oe,Tryz.f19,aH,aI,aO]
theorem HI (rows:List V) (h1:dx rows 0 31=true) (hl:rows.length≤34359738368):bk ab 20 [.slice rows] [] (.ms 0 1 0 rows.length) [.rows 1 31 rows]:=by refine jD tt_ok (fn:=Tryz.f20) 1 (by simp) Tryz.func20 rfl Tryz.call20 ?_;simp only [dO,cn,Tryz.ntmps20,aD,aM,zA,zF,aE,aF];refine af tt_ok fun K hK=>?_;simp only [go_sem];refine hK _ ?_;refine bj ?_;refine af tt_ok fun K hK=>?_;simp only [go_sem];intro b hb;refine hK _ ?_;cases b with | true =>((have h0:rows=[]:=by cases rows with | nil=>rfl | cons a r=>have:=hb (by simp); cases this);subst h0;refine aU rfl ?_;refine af tt_ok fun K hK=>?_;simp only [go_sem];refine hK _ ?_;refine lO 2 1 31 rfl ?_;exact bK ⟨.inl rfl,rfl,rfl,rfl,rfl⟩) | false =>refine aU rfl (bZ ?_);show dN _ _ _ _ _ _;refine af tt_ok fun K hK=>?_;simp only [h1,hl,go_sem];refine hK _ ?_;refine bK ⟨.inl rfl,?_⟩;simp [ka,mZ,oe,Tryz.f20,aH,aI,aO]
theorem Ty.eta (t:Ty):Ty.mk t.kind t.mod t.name t.args t.bd=t:=by obtain⟨k,m,n,ts,fs⟩:=t; rfl
theorem Fd.eta (f:Fd):Fd.mk f.name f.ty f.opt=f:=by obtain⟨n,t,o⟩:=f; rfl
theorem Ty.induct {p:Ty→Prop} (h:∀ t:Ty,(∀ u∈t.parts,p u)→p t):∀ t,p t:=by
 have key:∀ (N:Nat) (t:Ty),t.size≤N→p t:=by intro N;induction N with | zero=>intro t ht; have:=t.size_pos; omega | succ N ih =>intro t ht;refine h t fun u hu=>ih u ?_;obtain⟨i,hi⟩:=bL.1 hu;have e1:=cb Ty.size hi;have e2:=t.de;omega
 exact fun t=>key t.size t (aw _)
theorem Ty.zL {t u:Ty} (h:u∈t.args):u∈t.parts:=dU _ h
theorem Ty.zN {t:Ty} {f:Fd} (h:f∈t.bd):f.ty∈t.parts:=dG _ (cu.2 ⟨f,h,rfl⟩)
def Ty.vars (t:Ty):List ByteArray:=(t.nodes.filter fun u=>decide (u.kind=9)).map Ty.name
section
theorem aa8 {g:Ty→Option ByteArray} {t u:Ty} (hu:u=if t.kind=10∨t.kind=9 then Fp (g t) t else t):t.res g = .mk u.kind u.mod u.name (u.args.map (Ty.res g)) (u.bd.map (Fd.res g)):=by
 rw [Ty.iY];unfold om;by_cases hk:t.kind=10∨t.kind=9;·rw [if_pos hk] at hu ⊢;cases hg:g t with | some m=>rw [hg] at hu; subst hu; rfl | none=>rw [hg] at hu; subst hu; rfl
 rw [if_neg hk] at hu ⊢;subst hu; rfl
theorem UB {S:Type} {g:Ty→Option ByteArray} {s:S→Ty→S} {t u:Ty} (a:S) (hu:u=if t.kind=10∨t.kind=9 then Fp (g t) t else t) :
  t.fold g s a=u.bd.foldl (fun a f=>f.ty.fold g s a) (u.args.foldl (fun a t=>t.fold g s a) (if t.kind=10∨t.kind=9 then s a t else a)):=by
 rw [Ty.fold_eq];unfold om;by_cases hk:t.kind=10∨t.kind=9;·rw [if_pos hk] at hu;simp only [if_pos hk];cases hg:g t with | some m=>rw [hg] at hu; subst hu; rfl | none=>rw [hg] at hu; subst hu; rfl
 rw [if_neg hk] at hu;simp only [if_neg hk];subst hu; rfl
theorem Xe {g:Ty→Option ByteArray} {t u:Ty} (hu:u=if t.kind=10∨t.kind=9 then Fp (g t) t else t):(u.args=t.args∧u.bd=t.bd)∨(u.args=[]∧u.bd=[]):=by
 by_cases hk:t.kind=10∨t.kind=9;·rw [if_pos hk] at hu;cases hg:g t with | some m=>rw [hg] at hu; subst hu; exact .inl ⟨rfl,rfl⟩ | none=>rw [hg] at hu; subst hu; exact .inr ⟨rfl,rfl⟩
 rw [if_neg hk] at hu;subst hu; exact .inl ⟨rfl,rfl⟩
theorem aa9 {g:Ty→Option ByteArray} {t u:Ty} (hu:u=if t.kind=10∨t.kind=9 then Fp (g t) t else t):u.args.length≤t.args.length∧u.bd.length≤t.bd.length∧(∀ x∈u.args,x∈t.parts)∧∀ f∈u.bd,f.ty∈t.parts:=by
 rcases Xe hu with ⟨h1,h2⟩ | ⟨h1,h2⟩
 ·rw [h1,h2]; exact⟨aw _,aw _,fun x hx=>Ty.zL hx,fun f hf=>Ty.zN hf⟩
 rw [h1,h2]; exact⟨bx _,bx _,fun x hx=>(by cases hx),fun f hf=>(by cases hf)⟩
theorem eJ {α:Type} {g:α→α} {l al:List α} {i:Nat} {x:α} (has:al=(l.take i).map g++l.drop i) (hx:l[i]?=some x):al.set i (g x)=(l.take (i+1)).map g++l.drop (i+1):=by
 have bX:=(ax.1 hx).1;have hg:=(ax.1 hx).2;have hl:((l.take i).map g).length=i:=by simp; omega
 rw [has,ep _ _ (by omega),hl,c5,cQ bX,eI,bC,hx];simp
theorem fU {α:Type} {g:α→α} {l al:List α} {i:Nat} {x:α} (has:al=(l.take i).map g++l.drop i) (hx:l[i]?=some x):al[i]?=some x∧al.length=l.length:=by
 have bX:=(ax.1 hx).1;have hl:((l.take i).map g).length=i:=by simp; omega
 constructor;·rw [has,aW (by omega),hl,c5,Yx]; simpa using hx
 rw [has]; simp; omega
theorem YV {α β:Type} (h:α→β) (l:List α) (n:Nat) (hn:l.length=n):(l.map h).take n=l.map h:=bE (by simp [hn])
theorem Ou (X:Rv) (vs:List ByteArray) (v:Nat) (e:Int) (kq:X.decls.length≤1048576) (ke:vs.length≤1048576) (t u:Ty) (hu:u=Fp (gR X vs t) t) (e1:Int) (he:e1=sR X vs e t) {M:List ba} (hM:Dv M X vs v e 0 1 2 3):∃ r_ B_,(fun r B=>r = .agg [num u.kind,str u.mod,str u.name,.slice (aQ u.args),.slice (bV u.bd)]∧B=ba.box [str X.mp,.slice (X.cg.map bQ),.slice (X.decls.map aL),num X.idx,.ms 3 v 0 vs.length,num (e1),.sc (.func (.func 85) #[] #[]),.sc (.func (.func 86) #[] #[]),.cC (.func 83) [] [.ptr 1 0]]) r_ B_∧B_.dw=0∧bk ab 85 [.ptr 0 0,.agg [num t.kind,str t.mod,str t.name,.slice (aQ t.args),.slice (bV t.bd)]] M r_ (M.set 0 B_):=by subst hu; subst he;have h:=Sq X vs v e kq ke t hM;rw [aG,aG] at h;exact h
theorem rJ {X:Rv} {vs:List ByteArray} {v:Nat} {x y:Ty} {e1 e2:Int} (h:bk ab 87 [.ptr 0 0,cf x] (L4 X vs v e1) (cf y) (L4 X vs v e2)) {M:List ba} (hM:Dv M X vs v e1 0 1 2 3):∃ r_ B_,(fun r B=>r = .agg [num y.kind,str y.mod,str y.name,.slice (aQ y.args),.slice (bV y.bd)]∧B=ba.box [str X.mp,.slice (X.cg.map bQ),.slice (X.decls.map aL),num X.idx,.ms 3 v 0 vs.length,num (e2),.sc (.func (.func 85) #[] #[]),.sc (.func (.func 86) #[] #[]),.cC (.func 83) [] [.ptr 1 0]]) r_ B_∧B_.dw=0∧bk ab 87 [.ptr 0 0,.agg [num x.kind,str x.mod,str x.name,.slice (aQ x.args),.slice (bV x.bd)]] M r_ (M.set 0 B_):=by have h2:=QU h (by simp [aH,aO,aG,ai]) (by simp [aH,aO,aG,ai]) hM;refine⟨_,_,⟨rfl,rfl⟩,rfl,?_⟩;simpa [jx,ff,m9,aG,ai,Jk] using h2
section
attribute [local go_sem] bF az aq aJ
theorem HJ (X:Rv) (vs:List ByteArray) (v:Nat) (e:Int) (kq:X.decls.length≤1048576) (ke:vs.length≤1048576) (t:Ty) (QS:t.args.length≤1048576) (Me:t.bd.length≤1048576) (fK:∀ p∈t.parts,∀ e,bk ab 87 [.ptr 0 0,cf p] (L4 X vs v e) (cf (p.res (gR X vs))) (L4 X vs v (p.fold (gR X vs) (sR X vs) e))):∃ r_ m_,(fun r m=>r=cf (t.res (gR X vs))∧m=[.box [str X.mp,.slice (X.cg.map bQ),.slice (X.decls.map aL),num X.idx,.ms 3 v 0 vs.length,num (t.fold (gR X vs) (sR X vs) e),.sc (.func (.func 85) #[] #[]),.sc (.func (.func 86) #[] #[]),.cC (.func 83) [] [.ptr 1 0]],.box [.mp 2],.map (iF strVal 0 (cY (cZ X.cg))) (cY (cZ X.cg)).length,.rows v 1 (vs.map str)]) r_ m_∧bk ab 87 [.ptr 0 0,cf t] ([.box [str X.mp,.slice (X.cg.map bQ),.slice (X.decls.map aL),num X.idx,.ms 3 v 0 vs.length,num (e),.sc (.func (.func 85) #[] #[]),.sc (.func (.func 86) #[] #[]),.cC (.func 83) [] [.ptr 1 0]],.box [.mp 2],.map (iF strVal 0 (cY (cZ X.cg))) (cY (cZ X.cg)).length,.rows v 1 (vs.map str)]) r_ m_:=by
 refine I7 tt_ok [1,14,30000] 67 [.cell 4 41] (4) (by simp) (fn:=Tryz.f87) Tryz.func87 rfl Tryz.call87 ⟨rfl,rfl,by simp⟩ fun K hK=>?_;obtain⟨u,hu⟩:∃ u,u=(if t.kind=10∨t.kind=9 then Fp ((gR X vs) t) t else t):=⟨_,rfl⟩;obtain⟨e1,HK⟩:∃ x,x=(if t.kind=10∨t.kind=9 then (sR X vs) e t else e):=⟨_,rfl⟩;obtain⟨hul,huf,IA,LJ⟩:=aa9 hu;have Fv:=aa8 hu;have zO:=UB (s:=(sR X vs)) e hu;rw [← HK] at zO;simp only [aG,ai];simp only [go_sem];refine pq (n:=67) tt_ok [1,14,30000] (fun _:Unit=>[(0,.ptr 0 0),(3,.ptr 4 0),(4,.ptr 5 0)]) (fun _:Unit=>[.box [str X.mp,.slice (X.cg.map bQ),.slice (X.decls.map aL),num X.idx,.ms 3 v 0 vs.length,num (e1),.sc (.func (.func 85) #[] #[]),.sc (.func (.func 86) #[] #[]),.cC (.func 83) [] [.ptr 1 0]],.box [.mp 2],.map (iF strVal 0 (cY (cZ X.cg))) (cY (cZ X.cg)).length,.rows v 1 (vs.map str),.box [num u.kind,str u.mod,str u.name,.slice (aQ u.args),.slice (bV u.bd)],.box [num 0,str ⟨#[]⟩,str ⟨#[]⟩,.sc (.slice none 0 0),.sc (.slice none 0 0)]]) 6 (fun _=>True) (fun Z1 ee=>?_) ?_;·simp only [go_sem];refine im tt_ok [1,14,30000] [16] 6 [0,1,3,4] (fun vs=>vs=[bl (decide (t.kind=10)||decide (t.kind=9))]) (fun Z2 mc=>?_) ?_;(·simp only [go_sem];refine mw tt_ok ?_;simp only [go_sem];refine bY (fun fj=>?_) (fun fj=>?_);(·simp only [go_sem];refine mc _ (dP (by omega) (by simp only [go_sem]) ?_);simp only [fC,lk,reduceIte,zE];exact congrArg (fun b=>[bl b]) (by rw [fj]; first | rfl | simp));simp only [go_sem];refine mc _ (dP (by omega) (by simp only [go_sem]) ?_);simp only [fC,lk,reduceIte,zE];exact congrArg (fun b=>[bl b]) (by rw [fj]; first | rfl | simp));intro vs hJ;obtain rfl:=hJ;simp only [go_sem];refine bY (fun fJ=>?_) (fun fJ=>?_);(·(have hk:t.kind=10∨t.kind=9:=by simpa using fJ);(have r9:u=Fp ((gR X vs) t) t:=by rw [hu,if_pos hk]);(have CS:e1=(sR X vs) e t:=by rw [HK,if_pos hk]);simp only [go_sem];refine dT tt_ok bU [⟨.n,0,[],[],[]⟩,⟨.n,0,[],[0],[]⟩,⟨.n,0,[],[0,1],[]⟩,⟨.r,0,[],[0,1,2],[]⟩,⟨.n,0,[],[],[]⟩,⟨.r,0,[],[],[]⟩,⟨.e,0,[],[0,1,2,3,4,5],[]⟩,⟨.w,0,[],[0,1,2,3,4,5,6],[]⟩] 1 (by kernel_rfl) ?_;simp only [go_sem];refine va rfl rfl (Ou X vs v e kq ke t u r9 e1 CS ⟨rfl,rfl,rfl,rfl,by decide⟩) ?_;rintro _ _ ⟨rfl,rfl⟩;simp only [go_sem];(try rw [← r9,← CS]);refine ee _ ⟨(),?_,dj (by omega) (by simp only [go_sem])⟩;exact trivial);(have hk:¬ (t.kind=10∨t.kind=9):=by simpa using fJ);(have r9:u=t:=by rw [hu,if_neg hk]);(have CS:e1=e:=by rw [HK,if_neg hk]);simp only [go_sem];(try rw [← r9,← CS]);refine ee _ ⟨(),?_,dj (by omega) (by simp only [go_sem])⟩;exact trivial
 intro _ _;simp only [go_sem];refine dT tt_ok bU [⟨.n,0,[],[],[]⟩,⟨.r,0,[],[0],[]⟩,⟨.a,0,[],[0,1],[]⟩,⟨.n,0,[],[],[]⟩,⟨.r,0,[0],[3],[]⟩,⟨.a,1,[],[0,1,2,3,4],[]⟩,⟨.n,0,[],[0,1,2,3,4],[]⟩,⟨.w,2,[],[0,1,2,3,4,5,6],[]⟩,⟨.n,0,[],[0,1,2,3,4,5,6,7],[]⟩,⟨.w,3,[],[0,1,2,3,4,5,6,7,8],[]⟩] 4 (by kernel_rfl) ?_;simp only [go_sem];refine Du ⟨_,jK (aQ u.args) (kl u.args 0) (by rw [aq]; omega)⟩ ?_;simp only [go_sem];refine Du ⟨_,sZ (bV u.bd) (zH u.bd 0) (by rw [aJ]; omega)⟩ ?_;simp only [go_sem];refine sq tt_ok [1,14,30000] ?_;simp only [go_sem];refine fL tt_ok [1,14,30000] (fun a:Nat×List Ty×Int=>[(0,.ptr 0 0),(3,.ptr 4 0),(4,.ptr 5 0),(33,.ms 6 0 0 u.args.length),(34,num u.args.length),(35,num a.1)]) (fun a:Nat×List Ty×Int=>[.box [str X.mp,.slice (X.cg.map bQ),.slice (X.decls.map aL),num X.idx,.ms 3 v 0 vs.length,num (a.2.2),.sc (.func (.func 85) #[] #[]),.sc (.func (.func 86) #[] #[]),.cC (.func 83) [] [.ptr 1 0]],.box [.mp 2],.map (iF strVal 0 (cY (cZ X.cg))) (cY (cZ X.cg)).length,.rows v 1 (vs.map str),.box [num u.kind,str u.mod,str u.name,.ms 6 0 0 u.args.length,.ms 7 0 0 u.bd.length],.box [num 0,str ⟨#[]⟩,str ⟨#[]⟩,.sc (.slice none 0 0),.sc (.slice none 0 0)],.rows 0 5 (aQ a.2.1),.rows 0 7 (bV u.bd),.hole,.hole]) (fun a=>u.args.length-a.1) (fun a=>a.1≤u.args.length∧a.2.1=(u.args.take a.1).map (Ty.res (gR X vs))++u.args.drop a.1∧a.2.2=(u.args.take a.1).foldl (fun a t=>t.fold (gR X vs) (sR X vs) a) e1) ((0,u.args,e1)) 10 (dj (by omega) (by simp only [bD,go_sem] <;> rfl)) (⟨bx _,by simp,rfl⟩) ?_;rintro⟨i,al,ei⟩ ⟨hi,has,lA⟩;try dsimp only at hi has lA
 try dsimp only
 intro Z3 vT;simp only [go_sem];refine bY (fun vK=>?_) (fun vK=>?_);·(have bX:i<u.args.length:=by simpa using vK);rw [vK];obtain⟨x,hx⟩:∃ x,u.args[i]?=some x:=⟨_,ah bX⟩;obtain⟨iJ,dH⟩:=fU has hx;(have eU:((i:Nat):Int)<((u.args.length:Nat):Int):=by omega);have hw:=bB i (by omega);simp only [eU,b8,iJ,aG,ai,hw,setRow,dH,go_sem];refine dT tt_ok bU [⟨.n,0,[],[],[]⟩,⟨.r,0,[],[0],[0]⟩,⟨.n,0,[],[],[]⟩,⟨.n,0,[],[],[]⟩,⟨.r,0,[],[],[]⟩,⟨.e,0,[],[3,4],[]⟩,⟨.r,0,[],[0,1,2,3,4,5],[]⟩,⟨.w,0,[],[0,1,2,3,4,5,6],[]⟩] 1 (by kernel_rfl) ?_;simp only [eU,b8,iJ,aG,ai,hw,setRow,dH,go_sem];refine va rfl rfl (rJ (fK x (IA x (ay hx)) ei) ⟨rfl,rfl,rfl,rfl,by decide⟩) ?_;rintro _ _ ⟨rfl,rfl⟩;simp only [eU,b8,iJ,aG,ai,hw,setRow,dH,go_sem];refine vT _ ⟨(i+1,al.set i (x.res (gR X vs)),x.fold (gR X vs) (sR X vs) ei),?_,?_,dj (by omega) (by (simp [qI,lk,ea,eV,aH,aI,aO,cV,df,aG,aG,ai]; exact fun a b c h=>nz _ _ a b c h))⟩;(·exact⟨bX,eJ has hx,by rw [ia hx,← lA]⟩);dsimp only; omega
 have jw:¬ i<u.args.length:=by simpa using vK
 have gB:i=u.args.length:=by omega
 have jM:al=u.args.map (Ty.res (gR X vs)):=by rw [has,gB]; simp
 subst jM;obtain⟨ej,zP⟩:∃ y,y=ei:=⟨_,rfl⟩;have zQ:ej=u.args.foldl (fun a t=>t.fold (gR X vs) (sR X vs) a) e1:=by rw [zP,lA,gB,au]
 rw [← zP];clear zP lA;simp only [go_sem];refine sq tt_ok [1,14,30000] ?_;simp only [go_sem];refine fL tt_ok [1,14,30000] (fun a:Nat×List Fd×Int=>[(0,.ptr 0 0),(3,.ptr 4 0),(4,.ptr 5 0),(49,.ms 7 0 0 u.bd.length),(50,num u.bd.length),(51,num a.1)]) (fun a:Nat×List Fd×Int=>[.box [str X.mp,.slice (X.cg.map bQ),.slice (X.decls.map aL),num X.idx,.ms 3 v 0 vs.length,num (a.2.2),.sc (.func (.func 85) #[] #[]),.sc (.func (.func 86) #[] #[]),.cC (.func 83) [] [.ptr 1 0]],.box [.mp 2],.map (iF strVal 0 (cY (cZ X.cg))) (cY (cZ X.cg)).length,.rows v 1 (vs.map str),.box [num u.kind,str u.mod,str u.name,.ms 6 0 0 u.args.length,.ms 7 0 0 u.bd.length],.box [num 0,str ⟨#[]⟩,str ⟨#[]⟩,.sc (.slice none 0 0),.sc (.slice none 0 0)],.rows 0 5 (aQ (u.args.map (Ty.res (gR X vs)))),.rows 0 7 (bV a.2.1),.hole,.hole]) (fun a=>u.bd.length-a.1) (fun a=>a.1≤u.bd.length∧a.2.1=(u.bd.take a.1).map (Fd.res (gR X vs))++u.bd.drop a.1∧a.2.2=(u.bd.take a.1).foldl (fun a f=>f.ty.fold (gR X vs) (sR X vs) a) ej) ((0,u.bd,ej)) 10 (dj (by omega) (by simp only [bD,go_sem] <;> rfl)) (⟨bx _,by simp,rfl⟩) ?_;rintro⟨i,al,ei⟩ ⟨hi,has,lA⟩;try dsimp only at hi has lA
 try dsimp only
 intro Z4 w7;simp only [go_sem];refine bY (fun vU=>?_) (fun vU=>?_);·(have bX:i<u.bd.length:=by simpa using vU);rw [vU];obtain⟨x,hx⟩:∃ x,u.bd[i]?=some x:=⟨_,ah bX⟩;obtain⟨iJ,dH⟩:=fU has hx;(have eU:((i:Nat):Int)<((u.bd.length:Nat):Int):=by omega);have hw:=bB i (by omega);simp only [eU,bI,iJ,aG,ai,hw,setRow,dH,bN,go_sem];refine dT tt_ok bU [⟨.n,0,[],[],[]⟩,⟨.r,0,[],[0],[0]⟩,⟨.n,0,[],[],[]⟩,⟨.n,0,[],[],[]⟩,⟨.n,0,[],[],[]⟩,⟨.r,0,[],[4],[]⟩,⟨.e,0,[],[3,4,5],[]⟩,⟨.r,0,[],[0,1,2,3,4,5,6],[]⟩,⟨.n,0,[],[0,1,2,3,4,5,6,7],[]⟩,⟨.w,0,[],[0,1,2,3,4,5,6,7,8],[]⟩] 1 (by kernel_rfl) ?_;simp only [eU,bI,iJ,aG,ai,hw,setRow,dH,bN,go_sem];refine va rfl rfl (rJ (fK x.ty (LJ x (ay hx)) ei) ⟨rfl,rfl,rfl,rfl,by decide⟩) ?_;rintro _ _ ⟨rfl,rfl⟩;simp only [eU,bI,iJ,aG,ai,hw,setRow,dH,bN,go_sem];refine w7 _ ⟨(i+1,al.set i (x.res (gR X vs)),x.ty.fold (gR X vs) (sR X vs) ei),?_,?_,dj (by omega) (by (simp [qI,lk,ea,eV,aH,aI,aO,hY,df,bN,aG,ai,Fd.oU,Fd.qS,Fd.xM]; exact fun a b c h=>nz _ _ a b c h))⟩;(·exact⟨bX,eJ has hx,by rw [ia hx,← lA]⟩);dsimp only; omega
 have Xf:¬ i<u.bd.length:=by simpa using vU
 have gB:i=u.bd.length:=by omega
 have jM:al=u.bd.map (Fd.res (gR X vs)):=by rw [has,gB]; simp
 subst jM;have HL:ei=u.bd.foldl (fun a f=>f.ty.fold (gR X vs) (sR X vs) a) ej:=by rw [lA,gB,au]
 rw [zO,← zQ,← HL,Fv] at hK;simp only [go_sem];refine jm (k:=4) (vs':=[num u.kind,str u.mod,str u.name,.slice (aQ (u.args.map (Ty.res (gR X vs)))),.slice (bV (u.bd.map (Fd.res (gR X vs))))]) rfl (by simp [fh,gu,dg,jX,cV,hY,YV]) ?_;refine Ki tt_ok [1,14,30000] ?_;simp only [go_sem];exact hK _ _ ⟨rfl,rfl⟩
end
theorem lU (X:Rv) (vs:List ByteArray) (v:Nat) (kq:X.decls.length≤1048576) (ke:vs.length≤1048576):∀ (N:Nat) (t:Ty),t.size≤N→N≤1048576→∀ e,bk ab 87 [.ptr 0 0,cf t] (L4 X vs v e) (cf (t.res (gR X vs))) (L4 X vs v (t.fold (gR X vs) (sR X vs) e)):=by intro N;induction N with | zero=>intro t h; have:=t.size_pos; omega | succ N ih =>intro t hN hb e;have Ap:=t.fG;(obtain⟨_,_,⟨rfl,rfl⟩,h⟩:=HJ X vs v e kq ke t (by omega) (by omega) fun p hp=>by obtain⟨i,hi⟩:=bL.1 hp;have e1:=cb Ty.size hi;have e2:=t.de;exact ih p (by omega) (by omega));exact h
end
section
theorem Xg (mem:List ba) (ks:List (Nat×Nat)) (cs:List V):fQ mem ks (.eL cs)=ey mem ks:=rfl
theorem Ov (loc:List ByteArray) (n:ByteArray):bG ab 200 [fH loc,.slice [str n]] (.eL [str n,fH loc]):=by obtain⟨_,rfl,h⟩:=zq loc [n] (by simp);exact h
theorem Xh (loc:List ByteArray) (n t:ByteArray):bG ab 200 [fH loc,.slice [str n,str t]] (.eL [str t,.eL [str n,fH loc]]):=by obtain⟨_,rfl,h⟩:=zq loc [n,t] (by simp);exact h
theorem aba {k:Int} {ls:List Lb} {n t:ByteArray} {nk:Nat} {loc:List ByteArray} {i:Nat} (h:(decide (k=8)&&decide ((i:Int)=(nk:Int)-1))=true):nJ k ls n t nk loc i=(ls.map Lb.name).reverse++loc:=by simp only [aN,decide_eq_true_eq] at h;unfold nJ; rw [if_pos ⟨h.1,by omega⟩]
theorem Xi {k:Int} {ls:List Lb} {n t:ByteArray} {nk:Nat} {loc:List ByteArray} {i:Nat} (h:(decide (k=8)&&decide ((i:Int)=(nk:Int)-1))=false):nJ k ls n t nk loc i =
  if k=10∧i=1 then n :: loc else if k=13∧0<i then ((ls[i-1]?).elim ⟨#[]⟩ Lb.var) :: loc else if k=15∧i=2 then t :: n :: loc else loc:=by
 have:¬ (k=8∧i+1=nk):=fun ⟨h1,h2⟩=>by rw [decide_eq_true h1,decide_eq_true (by omega)] at h; cases h
 unfold nJ; rw [if_neg this]
theorem Ow {p q:Prop} [Decidable p] [Decidable q] (h:(decide p&&decide q)=true):p∧q:=by simpa using h
theorem Ox {p q:Prop} [Decidable p] [Decidable q] (h:(decide p&&decide q)=false):¬ (p∧q):=by simpa using h
theorem agP (n:Nat):((n:Int)=1)=(n=1):=by rw [eq_iff_iff]; omega
theorem agQ (n:Nat):((n:Int)=2)=(n=2):=by rw [eq_iff_iff]; omega
theorem agR (n:Nat):(0<(n:Int))=(0<n):=by rw [eq_iff_iff]; omega
section
attribute [local go_sem] ag
theorem HM (ls:List Lb) (nl:Nat) (Jg:ls.length=nl) (hl:ls.length≤1048576):∃ r_,(fun w=>w = .slice ((ls.map Lb.name).map str)) r_∧bk ab 201 [.ms 0 0 0 nl] ([.rows 0 8 (ls.map bO)]) r_ ([.rows 0 8 (ls.map bO)]):=by
 refine Bd tt_ok [2,7] 19 [.tmp 2] (fn:=Tryz.f201) Tryz.func201 rfl Tryz.call201 ⟨rfl,rfl,by simp⟩ fun K hK=>?_;subst Jg;simp only [lT,go_sem];refine agx 3 0 1 (by decide) rfl ?_;refine Ki tt_ok [2,7] ?_;simp only [lT,go_sem];refine fL tt_ok [2,7] (fun a:Nat×Nat=>[(3,.ms 1 a.2 0 (ls.take a.1).length),(6,.ms 0 0 0 ls.length),(7,num ls.length),(8,num a.1)]) (fun a:Nat×Nat=>[.rows 0 8 (ls.map bO),.rows a.2 1 ((ls.take a.1).map fun x=>str x.name)]) (fun a=>ls.length-a.1) (fun a=>a.1≤ls.length) ((0,0)) 2 (dj (by omega) (by simp only [lT,mQ,dY,aM,bD,go_sem] <;> rfl)) (bx _) ?_;intro ⟨i,w⟩ hi;try dsimp only at hi
 try dsimp only
 intro Z1 ee;simp only [lT,go_sem];refine bY (fun lS=>?_) (fun lS=>?_);·(have oo:i<ls.length:=by simpa using lS);have jo:=bB i (by omega);obtain⟨x,hx⟩:∃ x,ls[i]?=some x:=⟨_,ah oo⟩;(have tq:ls.take (i+1)=ls.take i++[x]:=by rw [bC,hx]; rfl);(have sd:(ls.take i).length+1≤34359738368:=by rw [dz]; omega);(have eU:((i:Nat):Int)<((ls.length:Nat):Int):=by omega);simp only [eU,jo,hx,ae,sd,bO,ai,aj,ak,lT,go_sem];refine ee _ ⟨(i+1,w+1),?_,?_,dj (by omega) (by (simp only [jo,tq,agN,aa6,go_sem]))⟩;(·exact oo);dsimp only; omega
 have Fm:i=ls.length:=by have h_:¬ i<ls.length:=(by simpa using lS); omega
 rw [Fm,au];simp only [lT,go_sem];refine agw (v':=.slice ((ls.map Lb.name).map str)) 3 (by decide) rfl (by simp [lk,gu,dg,jX,bE]) ?_;refine Ki tt_ok [2,7] ?_;simp only [lT,go_sem];exact hK _ _ ⟨rfl,rfl⟩
end
theorem HN (ls:List Lb) (nl:Nat) (Jg:ls.length=nl) (hl:ls.length≤1048576) {M:List ba} {k:Nat} (hM:M[k]?=some (.rows 0 8 (ls.map bO))):∃ r_,(fun w=>w = .slice ((ls.map Lb.name).map str)) r_∧bk ab 201 [.ms k 0 0 nl] M r_ M:=by obtain⟨_,rfl,h⟩:=HM ls nl Jg hl;have h2:=bk.keys (mem:=[.rows 0 8 (ls.map bO)]) (B:=.rows 0 8 (ls.map bO)) (j0:=0) h M [k] rfl (by simp) (by simp) (by simp [aH]) rfl rfl rfl (fun i B hi=>by (rcases i with _ | i);(·cases hi; exact hM);simp at hi);have e:M.set (m9 [k] M.length 0) (mK (m9 [k] M.length) (.rows 0 8 (ls.map bO)))=M:=pr hM;rw [e] at h2;exact⟨_,rfl,h2⟩
section
attribute [local go_sem] az ag pb Xg ey DV
attribute [local go_sem ↓] uP uQ
theorem HO (k:Int) (m n tx:ByteArray) (j:Int) (ts:List V) (ls:List Lb) (ks:List V) (loc:List ByteArray) (i nt nl nk:Nat) (Jg:ls.length=nl) (hl:nl≤1048576) (hk:nk≤1048576) (hi:i<nk) (AL:k=13→nk≤nl+1):∃ r_,(fun w=>w=fH (nJ k ls n tx nk loc i)) r_∧bk ab 145 [.agg [num k,str m,str n,str tx,num j,.ms 0 0 0 nt,.ms 1 0 0 nl,.ms 2 0 0 nk],fH loc,num i] ([.rows 0 5 ts,.rows 0 8 (ls.map bO),.rows 0 8 ks]) r_ ([.rows 0 5 ts,.rows 0 8 (ls.map bO),.rows 0 8 ks]):=by
 refine Bd tt_ok [1,3,5,7] 71 [.tmp 6] (fn:=Tryz.f145) Tryz.func145 rfl Tryz.call145 ⟨rfl,rfl,by simp⟩ fun K hK=>?_;have iy:IntKind.i64.wrap ((nk:Int)-1)=(nk:Int)-1:=IntWalk.i64_in _ (by omega);have jo:IntKind.i64.wrap ((i:Int)-1)=(i:Int)-1:=IntWalk.i64_in _ (by omega);simp only [iy,jo,go_sem];refine im tt_ok [1,3,5,7] [7] 4 [0,1,2,3,6] (fun vs=>vs=[bl (decide (k=8)&&decide ((i:Int)=(nk:Int)-1))]) (fun Z1 ee=>?_) ?_;·simp only [iy,jo,go_sem];refine mw tt_ok ?_;simp only [iy,jo,go_sem];refine bY (fun fj=>?_) (fun fj=>?_);(·simp only [iy,jo,go_sem];refine ee _ (dP (by omega) (by simp only [iy,jo,go_sem]) ?_);simp only [fC,lk,reduceIte,zE];exact congrArg (fun b=>[bl b]) (by clear hK ee; simp_all));simp only [iy,jo,go_sem];refine ee _ (dP (by omega) (by simp only [iy,jo,go_sem]) ?_);simp only [fC,lk,reduceIte,zE];exact congrArg (fun b=>[bl b]) (by clear hK ee; simp_all)
 intro vs hJ;obtain rfl:=hJ;simp only [iy,jo,go_sem];refine bY (fun HG=>?_) (fun HG=>?_);·have ck:=aba (ls:=ls) (n:=n) (t:=tx) (loc:=loc) HG;simp only [iy,jo,go_sem];refine cS (HN ls nl Jg (by omega) rfl) ?_;rintro _ rfl;simp only [iy,jo,go_sem];refine cF (zq loc (ls.map Lb.name) (by rw [ag]; omega)) ?_;rintro _ rfl;simp only [iy,jo,go_sem];exact hK _ _ ⟨by rw [ck] <;> rfl,rfl⟩
 have h8:=Xi (ls:=ls) (n:=n) (t:=tx) (loc:=loc) HG;simp only [← agP,← agQ,← agR] at h8;simp only [iy,jo,go_sem];refine im tt_ok [1,3,5,7] [24] 4 [0,1,2,3,6,7,8,9,10,11,12,13,14,15,16,17,18,19,20,21,22,23] (fun vs=>vs=[bl (decide (k=10)&&decide ((i:Int)=1))]) (fun Z2 mc=>?_) ?_;·simp only [iy,jo,go_sem];refine mw tt_ok ?_;simp only [iy,jo,go_sem];refine bY (fun Fw=>?_) (fun Fw=>?_);(·simp only [iy,jo,go_sem];refine mc _ (dP (by omega) (by simp only [iy,jo,go_sem]) ?_);simp only [fC,lk,reduceIte,zE];exact congrArg (fun b=>[bl b]) (by clear hK mc; simp_all));simp only [iy,jo,go_sem];refine mc _ (dP (by omega) (by simp only [iy,jo,go_sem]) ?_);simp only [fC,lk,reduceIte,zE];exact congrArg (fun b=>[bl b]) (by clear hK mc; simp_all)
 intro vs hJ;obtain rfl:=hJ;simp only [iy,jo,go_sem];refine bY (fun Xj=>?_) (fun Xj=>?_);·have ck:=h8;rw [if_pos (Ow Xj)] at ck;simp only [iy,jo,go_sem];refine cF (⟨_,rfl,Ov loc n⟩) ?_;rintro _ rfl;simp only [iy,jo,go_sem];exact hK _ _ ⟨by rw [ck] <;> rfl,rfl⟩
 rw [if_neg (Ox Xj)] at h8;simp only [iy,jo,go_sem];refine im tt_ok [1,3,5,7] [37] 4 [0,1,2,3,6,7,8,9,10,11,12,13,14,15,16,17,18,19,20,21,22,23,24,25,26,27,28,29,30,31,32,33,34,35,36] (fun vs=>vs=[bl (decide (k=13)&&decide (0<(i:Int)))]) (fun Z3 vT=>?_) ?_;·simp only [iy,jo,go_sem];refine mw tt_ok ?_;simp only [iy,jo,go_sem];refine bY (fun Fx=>?_) (fun Fx=>?_);(·simp only [iy,jo,go_sem];refine vT _ (dP (by omega) (by simp only [iy,jo,go_sem]) ?_);simp only [fC,lk,reduceIte,zE];exact congrArg (fun b=>[bl b]) (by clear hK vT; simp_all));simp only [iy,jo,go_sem];refine vT _ (dP (by omega) (by simp only [iy,jo,go_sem]) ?_);simp only [fC,lk,reduceIte,zE];exact congrArg (fun b=>[bl b]) (by clear hK vT; simp_all)
 intro vs hJ;obtain rfl:=hJ;simp only [iy,jo,go_sem];refine bY (fun xp=>?_) (fun xp=>?_);·have h37:=Ow xp;have Mx:=AL h37.1;obtain⟨y,hy⟩:∃ y,ls[i-1]?=some y:=⟨_,ah (by omega)⟩;have ck:=h8;rw [if_pos h37,hy] at ck;(have hci:(i:Int)-1=((i-1:Nat):Int):=by omega);(have abb:((i-1:Nat):Int)<(nl:Int):=by omega);have kK:IntKind.i64.wrap ((i-1:Nat):Int)=((i-1:Nat):Int):=IntWalk.i64_in _ (by omega);simp only [hci,abb,kK,hy,ae,bO,ai,aj,ak,iy,jo,go_sem];refine cF (⟨_,rfl,Ov loc y.var⟩) ?_;rintro _ rfl;simp only [hci,abb,kK,hy,ae,bO,ai,aj,ak,iy,jo,go_sem];exact hK _ _ ⟨by rw [ck] <;> rfl,rfl⟩
 rw [if_neg (Ox xp)] at h8;simp only [iy,jo,go_sem];refine im tt_ok [1,3,5,7] [55] 4 [0,1,2,3,6,7,8,9,10,11,12,13,14,15,16,17,18,19,20,21,22,23,24,25,26,27,28,29,30,31,32,33,34,35,36,37,38,39,40,41,42,43,44,45,46,47,48,49,50,51,52,53,54] (fun vs=>vs=[bl (decide (k=15)&&decide ((i:Int)=2))]) (fun Z4 w7=>?_) ?_;·simp only [iy,jo,go_sem];refine mw tt_ok ?_;simp only [iy,jo,go_sem];refine bY (fun abc=>?_) (fun abc=>?_);(·simp only [iy,jo,go_sem];refine w7 _ (dP (by omega) (by simp only [iy,jo,go_sem]) ?_);simp only [fC,lk,reduceIte,zE];exact congrArg (fun b=>[bl b]) (by clear hK w7; simp_all));simp only [iy,jo,go_sem];refine w7 _ (dP (by omega) (by simp only [iy,jo,go_sem]) ?_);simp only [fC,lk,reduceIte,zE];exact congrArg (fun b=>[bl b]) (by clear hK w7; simp_all)
 intro vs hJ;obtain rfl:=hJ;simp only [iy,jo,go_sem];refine bY (fun Xk=>?_) (fun Xk=>?_);·have ck:=h8;rw [if_pos (Ow Xk)] at ck;simp only [iy,jo,go_sem];refine cF (⟨_,rfl,Xh loc n tx⟩) ?_;rintro _ rfl;simp only [iy,jo,go_sem];exact hK _ _ ⟨by rw [ck] <;> rfl,rfl⟩
 have ck:=h8;rw [if_neg (Ox Xk)] at ck;simp only [iy,jo,go_sem];exact hK _ _ ⟨by rw [ck] <;> rfl,rfl⟩
end
theorem zR (k:Int) (m n tx:ByteArray) (j:Int) (ts:List V) (ls:List Lb) (ks:List V) (loc:List ByteArray) (i nt nl nk:Nat) (Jg:ls.length=nl) (hl:nl≤1048576) (hk:nk≤1048576) (hi:i<nk) (AL:k=13→nk≤nl+1) {M:List ba} {B0:ba} {k0 a b c:Nat}
  (h0:M[k0]?=some B0) (hv:B0.dw=0) (ha:M[a]?=some (.rows 0 5 ts)) (hb:M[b]?=some (.rows 0 8 (ls.map bO))) (hc:M[c]?=some (.rows 0 8 ks)) (lu:[a,b,c].Nodup) :
  ∃ r_ B_,(fun r B=>r=fH (nJ k ls n tx nk loc i)∧B=B0) r_ B_∧B_.dw=0∧bk ab 145 [.agg [num k,str m,str n,str tx,num j,.ms a 0 0 nt,.ms b 0 0 nl,.ms c 0 0 nk],fH loc,num i] M r_ (M.set k0 B_):=by obtain⟨_,rfl,h⟩:=HO k m n tx j ts ls ks loc i nt nl nk Jg hl hk hi AL;have h2:=bk.keys (mem:=[.rows 0 5 ts,.rows 0 8 (ls.map bO),.rows 0 8 ks]) (B:=.rows 0 5 ts) (j0:=0) h M [a,b,c] rfl lu (by simp) (by simp [aH,aO,az]) rfl rfl (az _ _) (fun i B hi=>by (rcases i with _ | _ | _ | i);(·cases hi; exact ha);(·cases hi; exact hb);(·cases hi; exact hc);simp at hi);have e:M.set (m9 [a,b,c] M.length 0) (mK (m9 [a,b,c] M.length) (.rows 0 5 ts))=M:=pr ha;rw [e] at h2;refine⟨_,_,⟨rfl,rfl⟩,hv,?_⟩;rw [pr h0];simpa [jx,ff,m9,ko] using h2
end
end Go.Proofs.YtnboooapeopjoaaGreatDoor
end
