import Derived.Test.YtnboooapeopjoaaGreatDoorJ4
import Derived.WalkKit
import Derived.ProofKit
import Derived.OpenShut
import Derived.WideKeyArgs
import Derived.Deep.DeepHandedRow
open Array renaming getElem?_eq_getElem→b9,length_toList→j6,toList_append→j7,toList_inj→ajq
open Bool renaming and_eq_false_iff→xq,and_eq_true→aD,and_false→aM,and_self→jP,and_true→aF,eq_false_iff→ad3,false_and→aN,false_eq_true→bJ,false_or→aQ,not_eq_true→Gv,not_eq_true'→Dk,not_false→aE,not_or→asX,not_true→aO,or_comm→asO,or_eq_false_iff→pe,or_eq_true→qb,or_false→aP,or_self→aY,or_true→aU,true_and→aL,true_or→aV
open ByteArray renaming data_append→xp,size_append→Vk
open Go.Proofs.Tryz renaming prog→ab
open Int renaming cast_ofNat_Int→bB,le_refl→as0,natCast_nonneg→CN,reduceEq→kI
open List renaming all_append→mP,all_cons→ct,all_eq_true→aX,all_nil→dO,any_eq_false→atA,any_eq_true→Gu,append_assoc→sf,append_nil→ij,cons_append→ai,drop_eq_getElem_cons→cr,drop_eq_nil_of_le→cH,eq_nil_of_length_eq_zero→kl,flatMap_append→asT,foldl_cons→fq,foldl_nil→as6,getElem?_append_left→bx,getElem?_append_right→a6,getElem?_cons_zero→ee,getElem?_eq_getElem→af,getElem?_eq_some_iff→aq,getElem?_map→ae,head?_cons→atu,headD_cons→bg,length_append→bc,length_cons→aj,length_drop→ux,length_eq_zero_iff→b7,length_map→aw,length_nil→aA,length_take→cn,lt_irrefl→asW,lt_trans→atj,map_congr_left→iq,map_cons→cz,map_id→as3,map_nil→bW,mem_append→ft,mem_append_left→fH,mem_append_right→gD,mem_cons→dj,mem_cons_of_mem→bE,mem_cons_self→bZ,mem_flatMap→gK,mem_iff_getElem?→bS,mem_map→dr,mem_of_getElem?→ay,nil_append→ak,nodup_cons→asN,nodup_nil→atq,not_mem_nil→o3,replicate_succ→aH,replicate_zero→aI,set_append_right→dt,set_cons_succ→je,set_cons_zero→eD,take_add_one→bn,take_append_drop→ld,take_left→rM,take_length→au,take_of_length_le→bu,take_zero→dV
open Nat renaming add_comm→UU,add_sub_cancel_left→ef,add_zero→kG,le_of_ble_eq_true→jf,le_refl→ax,lt_or_ge→br,lt_succ_self→l5,not_lt_zero→cf,sub_self→cI,zero_add→aZ,zero_le→aW
open Option renaming getD_some→ajp,isNone_none→ads,toList_some→kH
open Option.some renaming inj→vH,injEq→aB
open Std renaming lt_of_le_of_ne→atL
set_option linter.all false
section
namespace Go.Proofs.YtnboooapeopjoaaGreatDoor
open Go.Eng
variable [bk]
open Nat renaming reduceAdd → zA, reduceLT → zB, reduceLeDiff → zC, reduceMul → zD, reduceEqDiff → zE, reduceSub → zF
set_option maxHeartbeats 4000000
set_option maxRecDepth 100000
def qT (t:Ty):Bool:=!decide (t.kind=9) && !dY t.mod
def qX (x:Ex):Bool:=decide (x.kind=3)||(!dY x.mod&&(!decide (x.mod=⟨#[]⟩)||decide (0<x.types.length)))
def gQ (_:List ByteArray) (t:Ty):Option ByteArray:=some t.mod
def sQ (_:List ByteArray) (ok:Bool) (t:Ty):Bool:=ok&&qT t
def hQ (_:List ByteArray) (x:Ex):Int×ByteArray:=(x.kind,x.mod)
def vQ (_:List ByteArray) (ok:Bool) (x:Ex):Bool:=ok&&qX x
theorem tm {α:Type} {f:α→α} {l:List α} (h:∀ x∈l,f x=x):l.map f=l:=by
 conv=>rhs;rw [← as3 l]
 exact iq fun x hx=>h x hx
theorem F0 (vs:List ByteArray):∀ t:Ty,t.res (gQ vs)=t:=by
 refine Ty.induct fun t ih=>?_;rw [t.ke];have e:wW (gQ vs) t=some t.mod:=by unfold wW gQ;split <;> rfl
 rw [e];dsimp only;rw [tm fun u hu=>ih u (Ty.oU hu),tm fun f hf=>by rw [f.ke,ih f.ty (Ty.oV hf),f.eta],t.eta]
theorem Ex.eta (x:Ex):Ex.mk x.kind x.mod x.name x.text x.num x.types x.labels x.kids=x:=by obtain⟨k,m,n,t,i,ts,ls,ks⟩:=x;rfl
theorem IY (vs:List ByteArray) (lo:Nat→List ByteArray):∀ (ks:List Ex) (i:Nat),(∀ k∈ks,∀ loc,k.res (gQ vs) hQ loc=k)→dR (gQ vs) hQ lo i ks=ks
 | [],_,_=>by rw [dR]
 | k :: r,i,h=>by
  rw [dR,h k (bZ ..),IY vs lo r (i+1) fun k hk=>h k (bE _ hk)]
theorem acb (vs:List ByteArray):∀ (N:Nat) (x:Ex),x.wt≤N→∀ loc,x.res (gQ vs) hQ loc=x:=by intro N;induction N with|zero=>intro x h;have:=ow x;omega|succ N ih =>intro x hN loc;(have e:kC hQ loc x=(x.kind,x.mod):=by unfold kC hQ;split <;> rfl);rw [ab5 e,tm fun t _=>F0 vs t,tm (l:=x.labels) fun l _=>?_,IY vs _ _ _ fun k hk loc=>ih k (by have:=Cb hk;omega) loc,x.eta];unfold Ao;split;(·show { l with ty:=l.ty.res (gQ vs) }=l;rw [F0]);rfl
theorem IZ:∀ (l:List Pm) (vs:List ByteArray),fj gQ vs l=l
 | [],_=>rfl
 | p :: r,vs=>by rw [fj,F0,IZ r]
theorem ama (loc:List ByteArray) (x:Ex) (hk:x.kind=3∨x.kind=4):(hQ loc x).1≠13:=by unfold hQ;dsimp only;omega
noncomputable def okD (d:Dc) (ok:Bool):Bool :=
 d.expr.fold (gQ (ey d)) hQ (sQ (ey d)) vQ [] (d.type.fold (gQ (ey d)) (sQ (ey d)) (d.upper.fold (gQ (ey d)) (sQ (ey d)) (d.lower.fold (gQ (ey d)) (sQ (ey d)) (gG gQ sQ [] d.params ok))))
noncomputable def pd (d:Dc):Bool:=!dY d.mod&&okD d true
def Da (p:Dc→Bool):List Dc→Int
 | [] => -1
 | d :: r=>if p d=true then 0 else if Da p r<0 then -1 else Da p r+1
def Xm (m:Md) (i:Nat):Rv:=⟨m.path,m.imports,m.decls,i⟩
noncomputable def fT (m:Md):Nat→List Dc→Option (Nat×Int)
 | _,[]=>none
 | i,d :: r=>if kS (Xm m i) d=0 then fT m (i+1) r else some (i,kS (Xm m i) d)
noncomputable def ff (m:Md):Nat→List Dc→List Dc
 | _,[]=>[]
 | i,d :: r=>od (Xm m i) d :: ff m (i+1) r
def xd:Md:=⟨⟨#[]⟩,[],[]⟩
noncomputable def mH (m:Md):Md×Int×Int :=
 if (ov m).2≠0 then (xd,(ov m).1,(ov m).2)
 else if 0≤Da (fun d=>!pd d) m.decls then (xd,Da (fun d=>!pd d) m.decls,1)
 else match fT m 0 m.decls with
  | some p=>(xd,((p.1:Nat):Int),p.2)
  | none=>(⟨m.path,m.imports,ff m 0 m.decls⟩,0,0)
theorem Lz {p:Dc→Bool}:∀ {l:List Dc} {i:Nat} {x:Dc},l[i]?=some x→p x=true→(∀ j<i,∀ y,l[j]?=some y→p y=false)→(i:Int)=Da p l
 | [],_,_,h,_,_=>by simp at h
 | d :: r,0,x,h,hn,_=>by
  simp only [ee,aB] at h
  subst h
  unfold Da;rw [if_pos hn];rfl
 | d :: r,i+1,x,h,hn,cD=>by
  have h1:=cD 0 (by omega) d rfl
  have h2:=Lz (l:=r) (i:=i) (x:=x) (by simpa using h) hn fun j hj y hy=>cD (j+1) (by omega) y (by simpa using hy)
  unfold Da;rw [if_neg (by rw [h1];simp),← h2,if_neg (by omega)];rfl
theorem Cd {p:Dc→Bool}:∀ {l:List Dc},(∀ j<l.length,∀ y,l[j]?=some y→p y=false)→(-1:Int)=Da p l
 | [],_=>rfl
 | d :: r,cD=>by
  have h1:=cD 0 (by simp) d rfl
  have h2:=Cd (l:=r) fun j hj y hy=>cD (j+1) (by simpa using hj) y (by simpa using hy)
  unfold Da;rw [if_neg (by rw [h1];simp),← h2,if_pos (by decide)]
theorem rG (m:Md):∀ (l l':List Dc) (i:Nat),fT m i l=none→fT m i (l++l')=fT m (i+l.length) l'
 | [],l',i,_=>by simp
 | d :: r,l',i,h=>by
  unfold fT at h
  split at h
  ·rename_i h0
   rw [ai,fT,if_pos h0,rG m r l' (i+1) h,aj,show i+1+r.length=i+(r.length+1) by omega]
  cases h
theorem nx {m:Md} {i:Nat} {d:Dc} (hd:m.decls[i]?=some d) (h:fT m 0 (m.decls.take i)=none):(kS (Xm m i) d=0→fT m 0 (m.decls.take (i+1))=none)∧(kS (Xm m i) d≠0→fT m 0 m.decls=some (i,kS (Xm m i) d)):=by
 have bR:=(aq.1 hd).1;have hl:(m.decls.take i).length=i:=by rw [cn];omega
 constructor;·intro he;rw [bn,hd,kH,rG m _ _ _ h,hl,aZ,fT,if_pos he];rfl
 intro he;have e:m.decls=m.decls.take i++(d :: m.decls.drop (i+1)):=by conv=>lhs;rw [← ld i m.decls,cr bR,(aq.1 hd).2]
 rw [e,rG m _ _ _ h,hl,aZ,fT,if_neg he]
theorem Ce (m:Md):∀ (l l':List Dc) (i:Nat),ff m i (l++l')=ff m i l++ff m (i+l.length) l'
 | [],l',i=>by simp [ff]
 | d :: r,l',i=>by
  rw [ai,ff,Ce m r l' (i+1),ff,aj,show i+1+r.length=i+(r.length+1) by omega];rfl
theorem zj {m:Md} {i:Nat} {d:Dc} (hd:m.decls[i]?=some d):ff m 0 (m.decls.take (i+1))=ff m 0 (m.decls.take i)++[od (Xm m i) d]:=by
 have bR:=(aq.1 hd).1;have hl:(m.decls.take i).length=i:=by rw [cn];omega
 rw [bn,hd,kH,Ce,hl,aZ];rfl
theorem j5 (m:Md):∀ (l:List Dc) (i:Nat),(ff m i l).length=l.length
 | [],i=>by rw [ff]
 | d :: r,i=>by rw [ff,aj,j5 m r,aj]
theorem yj {m:Md} (h:(ov m).2≠0):mH m=(xd,(ov m).1,(ov m).2):=by unfold mH;rw [if_pos h]
theorem Cf {m:Md} (h:¬ (ov m).2≠0) (h2:0≤Da (fun d=>!pd d) m.decls):mH m=(xd,Da (fun d=>!pd d) m.decls,1):=by unfold mH;rw [if_neg h,if_pos h2]
theorem Cg {m:Md} (h:¬ (ov m).2≠0) (h2:¬ 0≤Da (fun d=>!pd d) m.decls) {p:Nat×Int} (h3:fT m 0 m.decls=some p):mH m=(xd,((p.1:Nat):Int),p.2):=by unfold mH;rw [if_neg h,if_neg h2,h3]
theorem yl {m:Md} (h:¬ (ov m).2≠0) (h2:¬ 0≤Da (fun d=>!pd d) m.decls) (h3:fT m 0 m.decls=none):mH m=(⟨m.path,m.imports,ff m 0 m.decls⟩,0,0):=by unfold mH;rw [if_neg h,if_neg h2,h3]
def zz (s:ByteArray):ByteArray:=⟨#[122]⟩++s
theorem Na (s:ByteArray):(zz s).size=s.size+1:=by unfold zz;rw [Vk,UU];rfl
theorem F1 (s:ByteArray):(zz s).data.toList=122 :: s.data.toList:=by unfold zz;rw [xp,j7];rfl
def zM (k k0:Int) (m:ByteArray):ByteArray:=if k=k0∧m≠⟨#[]⟩ then zz m else m
def gZ (t:Ty):Option ByteArray:=some (zM t.kind 10 t.mod)
def Ty.oO (t:Ty):Ty:=t.res gZ
theorem ace (t:Ty):wW gZ t=some (zM t.kind 10 t.mod):=by
 unfold wW gZ;split;·rfl
 rename_i h;unfold zM;rw [if_neg fun h2=>h (.inl h2.1)]
theorem Ty.rH (t:Ty):t.oO = .mk t.kind (zM t.kind 10 t.mod) t.name (t.args.map Ty.oO) (t.bp.map (Fd.res gZ)):=by show t.res gZ=_;rw [Ty.ke,ace];rfl
theorem Ty.Ch (t:Ty):t.oO.kind=t.kind:=by rw [t.rH];rfl
theorem Ty.Nb (t:Ty):t.oO.mod=zM t.kind 10 t.mod:=by rw [t.rH];rfl
theorem Ty.I0 (t:Ty):t.oO.name=t.name:=by rw [t.rH];rfl
theorem Ty.Nc {t p:Ty} (h:p∈t.parts):p.size<t.size:=by obtain⟨i,hi⟩:=bS.1 h;have:=cb Ty.size hi;have:=t.dQ;omega
def OU (t:Ty):Prop:=∀ u∈t.nodes,(u.kind=9→u.mod=⟨#[]⟩)∧(u.kind=10∨u.kind=9→u.bp=[])
theorem Ss {t p:Ty} (h:OU t) (hp:p∈t.parts):OU p:=fun u hu=>h u (by rw [t.dy];exact bE _ (gK.2 ⟨p,hp,hu⟩))
theorem Su {t:Ty} (h:OU t):(t.kind=9→t.mod=⟨#[]⟩)∧(t.kind=10∨t.kind=9→t.bp=[]):=h t (by rw [t.dy];exact bZ ..)
structure Twin (X Y:Rv):Prop where
 mp:Y.mp=X.mp
 idx:Y.idx=X.idx
 ids:∀ s,Am Y.decls s=Am X.decls s
 al:∀ s,kj (zz s) (gB Y.dM)=kj s (gB X.dM)
mutual
def Ex.oO:Ex→Ex
 | .mk k m n t i ts ls ks=>.mk k (zM k 4 m) n t i (ts.map Ty.oO) (ls.map (Lb.res gZ)) (F2 ks)
def F2:List Ex→List Ex
 | []=>[]
 | x :: r=>x.oO :: F2 r
end
theorem LA (l:List Ex):F2 l=l.map Ex.oO:=by induction l with|nil=>rfl|cons a r ih=>rw [F2,ih];rfl
theorem Ex.rH (x:Ex):x.oO = .mk x.kind (zM x.kind 4 x.mod) x.name x.text x.num (x.types.map Ty.oO) (x.labels.map (Lb.res gZ)) (x.kids.map Ex.oO):=by obtain⟨k,m,n,t,i,ts,ls,ks⟩:=x;rw [Ex.oO,LA];rfl
theorem Ex.Ch (x:Ex):x.oO.kind=x.kind:=by rw [x.rH];rfl
theorem Ex.Nb (x:Ex):x.oO.mod=zM x.kind 4 x.mod:=by rw [x.rH];rfl
theorem Ex.I0 (x:Ex):x.oO.name=x.name:=by rw [x.rH];rfl
theorem Ex.Sv (x:Ex):x.oO.text=x.text:=by rw [x.rH];rfl
theorem Ex.LC (x:Ex):x.oO.labels=x.labels.map (Lb.res gZ):=by rw [x.rH];rfl
theorem Ex.LD {x k:Ex} (h:k∈x.kids):k.size<x.size:=by obtain⟨i,hi⟩:=bS.1 h;have:=cb Ex.size hi;have:=x.OB;omega
def nmX (x:Ex):Prop:=∀ u∈x.nodes,(u.kind=3→u.mod=⟨#[]⟩)∧(u.kind=3∨u.kind=4→u.labels=[])∧(u.kind≠8→∀ l∈u.labels,eh l.ty=true)∧∀ t∈u.own,OU t
theorem W5 {x k:Ex} (h:nmX x) (hk:k∈x.kids):nmX k:=fun u hu=>h u (by rw [x.dy];exact bE _ (gK.2 ⟨k,hk,hu⟩))
theorem Sw {x:Ex} (h:nmX x):(x.kind=3→x.mod=⟨#[]⟩)∧(x.kind=3∨x.kind=4→x.labels=[])∧(x.kind≠8→∀ l∈x.labels,eh l.ty=true)∧∀ t∈x.own,OU t:=h x (by rw [x.dy];exact bZ ..)
theorem F3 (X:Rv) (loc:List ByteArray) (x:Ex):(kC (hR X) loc x).1=8↔x.kind=8:=by
 unfold kC;by_cases hk:x.kind=3∨x.kind=4;·rw [if_pos hk];unfold hR;split;(·split;(·exact Iff.rfl);exact⟨fun h=>(by cases h),fun h=>(by omega)⟩);exact Iff.rfl
 rw [if_neg hk]
def Pm.oO (p:Pm):Pm := { p with bound:=p.bound.oO }
def Dc.oO (d:Dc):Dc := { d with params:=d.params.map Pm.oO,lower:=d.lower.oO,upper:=d.upper.oO,type:=d.type.oO,expr:=d.expr.oO,mod:=zM d.kind 2 d.mod }
section
theorem vl (a b:ByteArray):(Rz a b=true∧a≠b∧Rz b a=false∧x4 a b = -1)∨(a=b∧Rz b a=false∧x4 a b=0)∨(Rz b a=true∧a≠b∧x4 a b=1):=by
 unfold x4;rw [FI,FI];by_cases h1:a.data.toList<b.data.toList;·(have cK:a≠b:=fun e=>by subst e;exact asW _ h1);have h2:¬ b.data.toList<a.data.toList:=fun h2=>asW _ (atj h1 h2);exact .inl ⟨decide_eq_true h1,cK,decide_eq_false h2,by rw [if_pos (decide_eq_true h1)]⟩
 by_cases he:a=b;·subst he;exact .inr (.inl ⟨rfl,decide_eq_false h1,by rw [if_neg (by simpa using h1),if_pos rfl]⟩)
 have cK:a.data.toList≠b.data.toList:=fun e=>he (by cases a;cases b;congr 1;exact ajq.1 e);have h2:b.data.toList<a.data.toList:=atL h1 cK.symm;exact .inr (.inr ⟨decide_eq_true h2,he,by rw [if_neg (by simpa using h1),if_neg he]⟩)
theorem agc {a b:ByteArray} (h:x4 a b=0):yc a b=5:=by
 rcases vl a b with ⟨-,-,-,h4⟩|⟨h1,-,-⟩|⟨-,-,h4⟩
 ·rw [h] at h4;cases h4
 ·unfold yc;rw [if_pos h1]
 rw [h] at h4;cases h4
theorem agd {a b:ByteArray} (h:0<x4 a b):yc a b=1:=by
 rcases vl a b with ⟨-,-,-,h4⟩|⟨-,-,h4⟩|⟨h1,h2,-⟩
 ·rw [h4] at h;exact absurd h (by decide)
 ·rw [h4] at h;exact absurd h (by decide)
 unfold yc;rw [if_neg h2,if_pos h1]
theorem age {a b:ByteArray} (h:¬ x4 a b=0) (h':¬ 0<x4 a b):yc a b=0:=by
 rcases vl a b with ⟨-,h2,h3,-⟩|⟨-,-,h4⟩|⟨-,-,h4⟩
 ·unfold yc;rw [if_neg h2,if_neg (by rw [h3];simp)]
 ·exact absurd h4 h
 rw [h4] at h';exact absurd (by decide) h'
theorem F4 {ns:List ByteArray} {i:Nat} {a b:ByteArray} (hi:1≤i) (ha:ns[i-1]?=some a) (hb:ns[i]?=some b):iN (ns.drop (i-1))=if yc a b=0 then iN (ns.drop i) else yc a b:=by have h1:=(aq.1 ha);have h2:=(aq.1 hb);rw [cr h1.1,h1.2,show i-1+1=i by omega,cr h2.1,h2.2];rfl
theorem Ap {ns:List ByteArray} {i:Nat} (h:ns.length≤i+1):iN (ns.drop i)=0:=by cases hd:ns.drop i with|nil=>rfl|cons a r =>have:=congrArg List.length hd;rw [ux,aj] at this;have:r=[]:=b7.1 (by omega);subst this;rfl
theorem zo:∀ (a b:List UInt8),Lib.compareBytes a b=if Op.bytesLess a b=true then -1 else if a=b then 0 else 1
 | [],[]=>by simp [Lib.compareBytes,Op.bytesLess]
 | [],_ :: _=>by simp [Lib.compareBytes,Op.bytesLess]
 | _ :: _,[]=>by simp [Lib.compareBytes,Op.bytesLess]
 | a :: l1,b :: l2=>by
  have ih:=zo l1 l2
  unfold Lib.compareBytes Op.bytesLess
  by_cases h1:a<b
  ·simp [h1]
  by_cases h2:b<a
  ·have cK:a≠b:=fun e=>by subst e;exact UInt8.lt_irrefl _ h2
   simp [h1,h2,cK]
  have e:a=b:=UInt8.le_antisymm (UInt8.not_lt.1 h2) (UInt8.not_lt.1 h1)
  subst e
  simp [h1,ih]
theorem W6 (s t:ByteArray):∃ r,(fun v=>v=num (x4 s t)) r∧sx ab 320 [str s,str t] r:=by
 refine⟨_,rfl,(show sx ab 320 [str s,str t] (lj (.int .i64 (x4 s t))) from QZ (P:=ab) (fn:=Tryz.f320) (ext:=Extern.BytealgCompare.compare) Tryz.func320 kr rfl kr kr (l:=[.string s,.string t]) rfl fun w=>?_)⟩;have h:=Lib.run_compareString (P:=ab) s t w;rw [h];congr 2;rw [zo];unfold x4 Rz;rw [← ByteArray.toList_eq,← ByteArray.toList_eq];by_cases hl:Op.bytesLess s.toList t.toList=true;·rw [if_pos hl,if_pos hl]
 rw [if_neg hl,if_neg hl];by_cases he:s=t;·rw [if_pos he,if_pos (by rw [he])]
 rw [if_neg he,if_neg fun e=>he (by have h:=de s t;rw [e] at h;simpa using h)]
theorem W7 (s t:ByteArray):Cn 302 [str s,str t] (num (x4 s t)):=by refine fZ tt_ok [] 8 [.tmp 4] (fn:=Tryz.f302) Tryz.func302 rfl Tryz.call302 ⟨rfl,rfl,by simp⟩ fun K hK=>?_;simp only [go_sem];refine cN (W6 _ _) ?_;rintro _ rfl;simp only [go_sem];exact hK _ rfl
theorem Ci (s t:ByteArray):Cn 273 [str s,str t] (num (x4 s t)):=by refine fZ tt_ok [] 8 [.tmp 4] (fn:=Tryz.f273) Tryz.func273 rfl Tryz.call273 ⟨rfl,rfl,by simp⟩ fun K hK=>?_;simp only [go_sem];refine dg (W7 _ _) ?_;simp only [go_sem];exact hK _ rfl
theorem OV (hG:bk.g=some 1) (x:Fd):Cn 239 [mI x] (bl (!dJ x.name)):=by refine fZ tt_ok [] 7 [.tmp 2] (fn:=Tryz.f239) Tryz.func239 rfl Tryz.call239 ⟨rfl,rfl,by simp⟩ fun K hK=>?_;simp only [dG,bO,ah];simp only [go_sem];refine dg (jn hG _) ?_;simp only [go_sem];exact hK _ rfl
theorem LF (x:Fd):Cn 271 [mI x] (bl (x.opt)):=by refine fZ tt_ok [] 5 [.tmp 2] (fn:=Tryz.f271) Tryz.func271 rfl Tryz.call271 ⟨rfl,rfl,by simp⟩ fun K hK=>?_;simp only [dG,bO,ah];simp only [go_sem];exact hK _ rfl
theorem OW (x:Fd):Cn 241 [mI x] (str x.name):=by refine fZ tt_ok [] 5 [.tmp 2] (fn:=Tryz.f241) Tryz.func241 rfl Tryz.call241 ⟨rfl,rfl,by simp⟩ fun K hK=>?_;simp only [dG,bO,ah];simp only [go_sem];exact hK _ rfl
section
attribute [local go_sem] cp
theorem Sx (g:FuncId) (q:Fd→Bool) (l:List Fd) (hg:∀ x∈l,Cn g [mI x] (bl (q x))) (hl:l.length≤1048576):∃ r_,(fun w=>∃ k:Int,w=num k∧decide (0≤k)=l.any q) r_∧cx ab 272 [.slice (ew l),.sc (.func (.func g) #[] #[])] r_:=by
 refine fZ tt_ok [] 19 [.tmp 4] (fn:=Tryz.f272) Tryz.func272 rfl Tryz.call272 ⟨rfl,rfl,by simp⟩ fun K hK=>?_;simp only [go_sem];refine cZ tt_ok [] [8] 0 [0,1,7] (fun vs=>((l.length:Int)-Go.Eng.intOf (vs.headD .undef)).toNat) (fun vs=>∃ i:Nat,vs=[num i]∧i≤l.length∧∀ j<i,∀ x,l[j]?=some x→q x=false) (by omega) (by simp only [go_sem]) (⟨0,rfl,aW _,fun j hj=>absurd hj (cf j)⟩) fun vs hI Z1 dv=>?_;obtain⟨i,rfl,hi,cD⟩:=hI;simp only [go_sem];refine bQ (fun kQ=>?_) (fun kQ=>?_);·(have bR:i<l.length:=by simpa using kQ);have hw:=a7 i (by omega);obtain⟨x,hx⟩:∃ x,l[i]?=some x:=⟨_,af bR⟩;simp only [dG,hw,bA,hx,bO,ah,go_sem];refine dg (by have h:=hg x (ay hx);simp only [dG,bO,ah] at h;exact h) ?_;simp only [dG,hw,bA,hx,bO,ah,go_sem];refine bQ (fun gw=>?_) (fun gw=>?_);(·(have bM:decide (0≤(i:Int))=l.any q:=by rw [mr hx gw];exact decide_eq_true (CN i));simp only [dG,hw,bA,hx,bO,ah,go_sem];exact hK _ ⟨_,rfl,bM⟩);simp only [dG,hw,bA,hx,bO,ah,go_sem];refine dv _ (fR (by omega) (by simp only [dG,hw,bA,hx,bO,ah,go_sem]) ?_ ?_) <;> simp only [eE,lk,reduceIte,zE];(·refine⟨i+1,rfl,bR,fun j hj=>?_⟩;(rcases br j i with h|h);(·exact cD j h);(obtain rfl:j=i:=by omega);intro y hy;rw [hx] at hy;cases hy;exact gw);simp only [Go.Eng.intOf,bg];omega
 have hZ:¬ i<l.length:=by simpa using kQ
 have bM:decide (0≤(-1:Int))=l.any q:=(any_none fun j hj=>cD j (by omega)).symm ▸ rfl;simp only [go_sem];exact hK _ ⟨_,rfl,bM⟩
end
theorem I1 (g:FuncId) (q:Fd→Bool) (l:List Fd) (hg:∀ x∈l,Cn g [mI x] (bl (q x))) (hl:l.length≤1048576):Cn 238 [.slice (ew l),.sc (.func (.func g) #[] #[])] (bl (l.any q)):=by refine fZ tt_ok [] 9 [.tmp 4] (fn:=Tryz.f238) Tryz.func238 rfl Tryz.call238 ⟨rfl,rfl,by simp⟩ fun K hK=>?_;simp only [go_sem];refine cF (Sx g q l hg hl) ?_;rintro _ ⟨k,rfl,hk⟩;simp only [go_sem];exact hK _ (congrArg bl hk)
section
attribute [local go_sem] cp bA bO ah
theorem Sy (g:FuncId) (l:List Fd) (hg:∀ x∈l,Cn g [mI x] (str (Fd.name x))) (hl:l.length≤1048576):Cn 240 [.slice (ew l),.sc (.func (.func g) #[] #[])] (num (iN (l.map Fd.name))):=by
 refine fZ tt_ok [] 33 [.tmp 4] (fn:=Tryz.f240) Tryz.func240 rfl Tryz.call240 ⟨rfl,rfl,by simp⟩ fun K hK=>?_;simp only [go_sem];refine cZ tt_ok [] [5] 0 [0,1] (fun vs=>((l.length:Int)-Go.Eng.intOf (vs.headD .undef)).toNat) (fun vs=>∃ i:Nat,vs=[num i]∧1≤i∧(1<i→i≤l.length)∧iN (l.map Fd.name)=iN ((l.map Fd.name).drop (i-1))) (by omega) (by simp only [go_sem]) (⟨1,rfl,ax _,fun h=>absurd h (by decide),rfl⟩) fun vs hI Z1 dv=>?_;obtain⟨i,rfl,hi,hle,hinv⟩:=hI;simp only [go_sem];refine bQ (fun ix=>?_) (fun ix=>?_);·(have bR:i<l.length:=by simpa using ix);obtain⟨x,hx⟩:∃ x,l[i-1]?=some x:=⟨_,af (by omega)⟩;obtain⟨y,hy⟩:∃ y,l[i]?=some y:=⟨_,af bR⟩;have hw:=a7 i (by omega);(have ez:IntKind.i64.wrap ((i:Int)-1)=((i-1:Nat):Int):=by rw [IntWalk.i64_in _ (by omega)];omega);have jB:iN ((l.map Fd.name).drop (i-1))=if yc (Fd.name x) (Fd.name y)=0 then iN ((l.map Fd.name).drop i) else yc (Fd.name x) (Fd.name y):=F4 hi (by rw [ae,hx];rfl) (by rw [ae,hy];rfl);simp only [dG,hw,ez,hx,hy,go_sem];refine dW tt_ok bU [pN,pN,pN,pN,pR,pR,pN,pN,pN,pN,pR,pR,pN,pN,pN] 0 kr ?_;simp only [dG,hw,ez,hx,hy,go_sem];refine FF (by have h:=hg x (ay hx);simp only [dG,bO,ah] at h;exact h) ?_;simp only [dG,hw,ez,hx,hy,go_sem];refine FF (by have h:=hg y (ay hy);simp only [dG,bO,ah] at h;exact h) ?_;simp only [dG,hw,ez,hx,hy,go_sem];refine FF (Ci _ _) ?_;simp only [dG,hw,ez,hx,hy,go_sem];refine bQ (fun mZ=>?_) (fun mZ=>?_);(·(have bM:5=iN (l.map Fd.name):=by rw [hinv,jB,agc (of_decide_eq_true mZ)];rfl);simp only [dG,hw,ez,hx,hy,go_sem];exact hK _ (congrArg num bM));simp only [dG,hw,ez,hx,hy,go_sem];refine bQ (fun nU=>?_) (fun nU=>?_);(·(have bM:1=iN (l.map Fd.name):=by rw [hinv,jB,agd (of_decide_eq_true nU)];rfl);simp only [dG,hw,ez,hx,hy,go_sem];exact hK _ (congrArg num bM));have qM:yc (Fd.name x) (Fd.name y)=0:=age (of_decide_eq_false mZ) (of_decide_eq_false nU);simp only [dG,hw,ez,hx,hy,go_sem];refine dv _ (fR (by omega) (by simp only [dG,hw,ez,hx,hy,go_sem]) ?_ ?_) <;> simp only [eE,lk,reduceIte,zE];(·exact⟨i+1,rfl,by omega,fun _=>bR,by rw [hinv,jB,if_pos qM];rfl⟩);simp only [Go.Eng.intOf,bg];omega
 have hZ:¬ i<l.length:=by simpa using ix
 have bM:(0:Int)=iN (l.map Fd.name):=by rw [hinv];exact (Ap (by rw [aw];omega)).symm
 simp only [go_sem];exact hK _ (congrArg num bM)
end
end
theorem ci0 (n:Nat):((n:Int)=0)=(n=0):=by rw [eq_iff_iff];omega
theorem ci1 (n:Nat):((n:Int)=1)=(n=1):=by rw [eq_iff_iff];omega
def agh (t:Ty) (ao:Bool):Bool :=
  (decide (t.kind=8) || !ao) &&
  (if t.kind=0∨t.kind=1∨t.kind=2∨t.kind=3∨t.kind=4 then jQ t.mod&&jQ t.name&&decide (t.args.length=0)&&decide (t.bp.length=0)
   else if t.kind=5 then jQ t.mod&&jQ t.name&&decide (t.args.length=1)&&decide (t.bp.length=0)
   else if t.kind=6∨t.kind=7 then jQ t.mod&&jQ t.name&&decide (t.args.length=0)
   else if t.kind=8 then jQ t.mod&&jQ t.name&&decide (t.args.length=1)
   else if t.kind=9 then jQ t.mod&&decide (t.args.length=0)&&decide (t.bp.length=0)
   else if t.kind=10 then decide (t.bp.length=0) else false)
theorem acf (t:Ty):K8 t=agh t (t.bp.any Fd.opt):=rfl
theorem OX (t:Ty) (hl:t.bp.length≤1048576):Cn 236 [cd t] (bl (K8 t)):=by refine fZ tt_ok [] 106 [.tmp 2] (fn:=Tryz.f236) Tryz.func236 rfl Tryz.call236 ⟨rfl,rfl,by simp⟩ fun K hK=>?_;have Vi:=acf t;have AO:=I1 271 Fd.opt t.bp (fun x _=>LF x) hl;obtain⟨ao,Za⟩:∃ b,t.bp.any Fd.opt=b:=⟨_,rfl⟩;obtain⟨em,iD⟩:∃ b,decide (t.mod=⟨#[]⟩)=b:=⟨_,rfl⟩;obtain⟨en,fX⟩:∃ b,decide (t.name=⟨#[]⟩)=b:=⟨_,rfl⟩;obtain⟨na,tK⟩:∃ b,t.args.length=b:=⟨_,rfl⟩;obtain⟨nf,PC⟩:∃ b,t.bp.length=b:=⟨_,rfl⟩;rw [Za] at Vi AO;unfold agh jQ at Vi;rw [iD,fX,tK,PC] at Vi;obtain⟨k,hk⟩:∃ k,t.kind=k:=⟨_,rfl⟩;rw [hk] at Vi;rw [Vi] at hK;clear Za Vi;simp only [az,ah];rw [hk];clear hk;simp only [cp,aK,de,iD,fX,tK,PC,go_sem];refine dW tt_ok bU [pN,pR,pN,pN,pR,pN,pN,pR,pN,pN,pR,pN,pN,pN,pN,pN] 0 kr ?_;repeat' (simp only [cp,aK,de,iD,fX,tK,PC,go_sem];first|refine bQ (fun hg=>?_) (fun hg=>?_)|refine dg (AO) ?_|(exact hK _ (congrArg bl (by clear hK AO iD fX tK PC;simp_all [ci0,ci1]))))
theorem Zb (n:Nat):(32<(n:Int))=(32<n):=by rw [eq_iff_iff];omega
theorem agi (n:Nat):(8<(n:Int))=(8<n):=by rw [eq_iff_iff];omega
theorem Sz (t:Ty):tU t=if K8 t=false then 1 else if 32<t.bp.length∨8<t.args.length then 7
 else if (t.kind=9∧x9 t.name=false)∨(t.kind=10∧(nT t.mod=false∨ka t.name=false)) then 4
 else if (t.bp.any fun x=>!dJ x.name)=true then 4 else iN (t.bp.map Fd.name):=rfl
theorem I2 (hG:bk.g=some 1) (t:Ty) (hl:t.bp.length≤1048576) (hm:t.mod.size≤1048576):Cn 190 [cd t] (num (tU t)):=by refine fZ tt_ok [] 50 [.tmp 2] (fn:=Tryz.f190) Tryz.func190 rfl Tryz.call190 ⟨rfl,rfl,by simp⟩ fun K hK=>?_;have hS:=OX t hl;rw [az] at hS;simp only [ah] at hS;obtain⟨sb,hsb⟩:∃ b,b=K8 t:=⟨_,rfl⟩;obtain⟨nb,qM⟩:∃ b,b=t.bp.any (fun x=>!dJ x.name):=⟨_,rfl⟩;have gu:=Sz t;have hA:=I1 239 (fun x=>!dJ x.name) t.bp (fun x _=>OV hG x) hl;have hI:=Sy 241 t.bp (fun x _=>OW x) hl;rw [← hsb] at gu hS;rw [← qM] at gu hA;clear hsb qM;simp only [az,ah];simp only [cp,aK,go_sem];refine dg (hS) ?_;repeat' (simp only [cp,aK,go_sem];first|refine bQ (fun hg=>?_) (fun hg=>?_)|refine dg (Ia _) ?_|refine dg (ya hG t.mod hm) ?_|refine dg (qB _) ?_|refine dg (hA) ?_|refine dg (hI) ?_|(exact hK _ (congrArg num (by clear hK hA hI hS;rw [gu];clear gu;simp_all [Zb,agi] <;> (intro h;omega)))))
section
theorem F5 (l:List Lb):lM l≤l.length:=List.length_filter_le _ _
theorem D9 {l:List Lb} {i:Nat} {x:Lb} (h:l[i]?=some x) (ho:x.opt=true):lM (l.take (i+1))=lM (l.take i)+1:=by unfold lM;rw [bn,h];simp [ho]
theorem Ea {l:List Lb} {i:Nat} {x:Lb} (h:l[i]?=some x) (ho:x.opt=false):lM (l.take (i+1))=lM (l.take i):=by unfold lM;rw [bn,h];simp [ho]
theorem jE (t:Ty):Cn 182 [cd t] (bl (eh t)):=by refine fZ tt_ok [] 28 [.tmp 2] (fn:=Tryz.f182) Tryz.func182 rfl Tryz.call182 ⟨rfl,rfl,by simp⟩ fun K hK=>?_;simp only [az,ah];repeat' (simp only [cp,aK,de,go_sem];first|refine bQ (fun hg=>?_) (fun hg=>?_)|(exact hK _ (congrArg bl (by clear hK;unfold eh jQ;simp_all))))
section
attribute [local go_sem] de
theorem I3 (s:ByteArray):Cn 303 [str s] (num (ID s)):=by
 refine fZ tt_ok [30000] 17 [.tmp 2] (fn:=Tryz.f303) Tryz.func303 rfl Tryz.call303 ⟨rfl,rfl,by simp⟩ fun K hK=>?_;simp only [go_sem];refine sq tt_ok [30000] ?_;simp only [go_sem];refine dI tt_ok [30000] [4] 0 [0,2,3] (fun vs=>vs=[bl (jC s C9)]) (fun Z1 dv=>?_) ?_;·repeat' (simp only [go_sem];first|refine bQ (fun hg=>?_) (fun hg=>?_)|(refine dv _ (eI (by omega) (by simp only [go_sem]) ?_);simp only [eE,lk,reduceIte,zE];exact congrArg (fun b=>[bl b]) (by simp_all [C9,jC])))
 intro vs hJ;obtain rfl:=hJ;simp only [go_sem];refine bQ (fun hc4=>?_) (fun hc4=>?_) <;> simp only [go_sem];·exact hK _ (congrArg num (by clear hK;unfold ID;simp_all [C9,FT,jC]))
 refine dI tt_ok [30000] [14] 0 [0,2,3,4,5,6,7,8,9,10,11,12,13] (fun vs=>vs=[bl (jC s FT)]) (fun Z2 jk=>?_) ?_;·repeat' (simp only [go_sem];first|refine bQ (fun hg=>?_) (fun hg=>?_)|(refine jk _ (eI (by omega) (by simp only [go_sem]) ?_);simp only [eE,lk,reduceIte,zE];exact congrArg (fun b=>[bl b]) (by simp_all [FT,jC])))
 intro vs hJ;obtain rfl:=hJ;repeat' (simp only [go_sem];first|refine bQ (fun hg=>?_) (fun hg=>?_)|(exact hK _ (congrArg num (by clear hK;unfold ID;simp_all [C9,FT,jC]))))
end
section
attribute [local go_sem] aw
theorem W8 (x:Ex) (fl:ByteArray) (ty kd:Int) (lb:Bool) (hl:x.labels.length≤1048576) (hkd : -1≤kd∧kd≤100):Cn 275 [cu x,.agg [str fl,num ty,bl lb,num kd]] (num (lN x kd)):=by
 refine fZ tt_ok [] 42 [.tmp 4] (fn:=Tryz.f275) Tryz.func275 rfl Tryz.call275 ⟨rfl,rfl,by simp⟩ fun K hK=>?_;simp only [aT,aJ];simp only [go_sem];refine bQ (fun JS=>?_) (fun JS=>?_) <;> simp only [go_sem];·refine dg (I3 _) ?_;simp only [go_sem];first|exact hK _ (congrArg num bM)|exact hK _ (congrArg num (by clear hK;unfold lN;simp_all <;> omega))
 refine bQ (fun td=>?_) (fun td=>?_) <;> simp only [go_sem];·refine cZ tt_ok [] [22,5] 2 [2,3,4,8,15,20,21] (fun vs=>((x.labels.length:Int)-Go.Eng.intOf (vs.headD .undef)).toNat) (fun vs=>∃ i:Nat,vs=[num i,num ((1+lM (x.labels.take i):Nat):Int)]∧i≤x.labels.length) (by omega) (by simp only [go_sem]) (⟨0,rfl,aW _⟩) fun vs hI Z1 dv=>?_;obtain⟨i,rfl,hi⟩:=hI;simp only [go_sem];refine bQ (fun te=>?_) (fun te=>?_);(·(have bR:i<x.labels.length:=by simpa using te);have hw:=a7 i (by omega);obtain⟨l,hx⟩:∃ l,x.labels[i]?=some l:=⟨_,af bR⟩;have lH:=F5 (x.labels.take i);rw [cn] at lH;have gb:IntKind.i64.wrap (((1+lM (x.labels.take i):Nat):Int)+1)=((1+lM (x.labels.take i)+1:Nat):Int):=a7 _ (by omega);simp only [hw,gb,ae,hx,b8,ah,ai,ak,go_sem];refine bQ (fun mZ=>?_) (fun mZ=>?_);(·(have DW:((1+lM (x.labels.take (i+1)):Nat):Int)=((1+lM (x.labels.take i)+1:Nat):Int):=by rw [D9 hx mZ];omega);simp only [hw,gb,ae,hx,b8,ah,ai,ak,go_sem];refine dv _ (fR (by omega) (by simp only [hw,gb,ae,hx,b8,ah,ai,ak,go_sem]) ?_ ?_) <;> simp only [eE,lk,reduceIte,zE];(·exact⟨i+1,by rw [DW],bR⟩);simp only [Go.Eng.intOf,bg];omega);(have DW:((1+lM (x.labels.take (i+1)):Nat):Int)=((1+lM (x.labels.take i):Nat):Int):=by rw [Ea hx mZ]);simp only [hw,gb,ae,hx,b8,ah,ai,ak,go_sem];refine dv _ (fR (by omega) (by simp only [hw,gb,ae,hx,b8,ah,ai,ak,go_sem]) ?_ ?_) <;> simp only [eE,lk,reduceIte,zE];(·exact⟨i+1,by rw [DW],bR⟩);simp only [Go.Eng.intOf,bg];omega);(have hZ:¬ i<x.labels.length:=by simpa using te);have hlen:x.labels.take i=x.labels:=bu (by omega);(have bM:((1+lM (x.labels.take i):Nat):Int)=lN x kd:=by rw [hlen];unfold lN;simp_all);simp only [go_sem];first|exact hK _ (congrArg num bM)|exact hK _ (congrArg num (by clear hK;unfold lN;simp_all <;> omega))
 refine bQ (fun K0=>?_) (fun K0=>?_);·simp only [go_sem];first|exact hK _ (congrArg num bM)|exact hK _ (congrArg num (by clear hK;unfold lN;simp_all <;> omega))
 have CP:IntKind.i64.wrap (kd+(x.labels.length:Int))=kd+x.labels.length:=IntWalk.i64_in _ (by omega);simp only [CP,go_sem];first|exact hK _ (congrArg num bM)|exact hK _ (congrArg num (by clear hK;unfold lN;simp_all <;> omega))
end
theorem oX (hG:bk.g=some 1) (m:List bm) (hm:m.all (aS m.length)=true) (k:Nat) (fl:ByteArray) (ty kd:Int) (lb:Bool) (hk:m[k]?=some (.box [str fl,num ty,bl lb,num kd])) (s:ByteArray) (hf:fl.size≤1048576):∃ r_,(fun w=>w=bl (cy fl s)) r_∧bw ab 274 [str s,.ptr k 0] (m) r_ (m):=by refine DN tt_ok [] 8 [.tmp 3] (fn:=Tryz.f274) Tryz.func274 rfl Tryz.call274 ⟨rfl,rfl,by simp⟩ fun K hK=>?_;simp only [au,hm,hk,decide_true,hk,go_sem];refine dg (⟨_,rfl,sZ hG _ _ (by omega)⟩) ?_;simp only [au,hm,hk,decide_true,hk,go_sem];exact hK _ _ ⟨rfl,rfl⟩
theorem F6 (hG:bk.g=some 1) (m:List bm) (hm:m.all (aS m.length)=true) (k:Nat) (fl:ByteArray) (ty kd:Int) (lb:Bool) (hk:m[k]?=some (.box [str fl,num ty,bl lb,num kd])) (s:ByteArray) (hf:fl.size≤1048576):∃ r_,(fun w=>w=bl (cy fl s)) r_∧bw ab 278 [str s,.ptr k 0] (m) r_ (m):=by refine DN tt_ok [] 8 [.tmp 3] (fn:=Tryz.f278) Tryz.func278 rfl Tryz.call278 ⟨rfl,rfl,by simp⟩ fun K hK=>?_;simp only [au,hm,hk,decide_true,hk,go_sem];refine dg (⟨_,rfl,sZ hG _ _ (by omega)⟩) ?_;simp only [au,hm,hk,decide_true,hk,go_sem];exact hK _ _ ⟨rfl,rfl⟩
section
attribute [local go_sem] de
theorem SA (hG:bk.g=some 1) (b0:bm) (lv:∀ n,3≤n→aS n b0=true) (fl:ByteArray) (ty kd:Int) (lb:Bool) (hf:fl.size≤1048576) (l:Lb):∃ r_,(fun w=>w=bl (mw fl l)) r_∧bw ab 277 [b8 l,.ptr 2 0] ([b0,.box [str fl,num ty,bl lb,num kd],.box [.dU (.func 274) [] [.ptr 1 0]]]) r_ ([b0,.box [str fl,num ty,bl lb,num kd],.box [.dU (.func 274) [] [.ptr 1 0]]]):=by
 refine DN tt_ok [] 32 [.tmp 3] (fn:=Tryz.f277) Tryz.func277 rfl Tryz.call277 ⟨rfl,rfl,by simp⟩ fun K hK=>?_;have j9:=lv 3 (ax _);simp only [dG,b8,ah];simp only [↓j9,go_sem];refine bQ (fun jD=>?_) (fun jD=>?_) <;> simp only [↓j9,go_sem];·refine xv (oX hG _ (by simp only [ct,dO,sS,sT,pE,sU,pF,pG,aG,a8,aj,aA,zA,zB,decide_true,jP,aF,lv,zC]) 1 fl ty kd lb rfl _ hf) ?_;simp only [↓j9,go_sem];refine bQ (fun wH=>?_) (fun wH=>?_) <;> simp only [↓j9,go_sem];(·exact hK _ _ ⟨congrArg bl (by clear hK;unfold mw jQ;simp_all),rfl⟩);refine dg (by have h:=jE l.ty;rw [az] at h;exact h) ?_;simp only [↓j9,go_sem];refine bQ (fun BC=>?_) (fun BC=>?_) <;> simp only [↓j9,go_sem];(·refine xv (oX hG _ (by simp only [ct,dO,sS,sT,pE,sU,pF,pG,aG,a8,aj,aA,zA,zB,decide_true,jP,aF,lv,zC]) 1 fl ty kd lb rfl _ hf) ?_;simp only [↓j9,go_sem];refine bQ (fun LG=>?_) (fun LG=>?_) <;> simp only [↓j9,go_sem];(·exact hK _ _ ⟨congrArg bl (by clear hK;unfold mw jQ;simp_all),rfl⟩);refine bQ (fun vm=>?_) (fun vm=>?_) <;> simp only [↓j9,go_sem];(·refine xv (oX hG _ (by simp only [ct,dO,sS,sT,pE,sU,pF,pG,aG,a8,aj,aA,zA,zB,decide_true,jP,aF,lv,zC]) 1 fl ty kd lb rfl _ hf) ?_;simp only [↓j9,go_sem];exact hK _ _ ⟨congrArg bl (by clear hK;unfold mw jQ;simp_all),rfl⟩);exact hK _ _ ⟨congrArg bl (by clear hK;unfold mw jQ;simp_all),rfl⟩);refine bQ (fun vm=>?_) (fun vm=>?_) <;> simp only [↓j9,go_sem];(·refine xv (oX hG _ (by simp only [ct,dO,sS,sT,pE,sU,pF,pG,aG,a8,aj,aA,zA,zB,decide_true,jP,aF,lv,zC]) 1 fl ty kd lb rfl _ hf) ?_;simp only [↓j9,go_sem];exact hK _ _ ⟨congrArg bl (by clear hK;unfold mw jQ;simp_all),rfl⟩);exact hK _ _ ⟨congrArg bl (by clear hK;unfold mw jQ;simp_all),rfl⟩
 refine dg (by have h:=jE l.ty;rw [az] at h;exact h) ?_;simp only [↓j9,go_sem];refine bQ (fun BC=>?_) (fun BC=>?_) <;> simp only [↓j9,go_sem];·refine xv (oX hG _ (by simp only [ct,dO,sS,sT,pE,sU,pF,pG,aG,a8,aj,aA,zA,zB,decide_true,jP,aF,lv,zC]) 1 fl ty kd lb rfl _ hf) ?_;simp only [↓j9,go_sem];refine bQ (fun LG=>?_) (fun LG=>?_) <;> simp only [↓j9,go_sem];(·exact hK _ _ ⟨congrArg bl (by clear hK;unfold mw jQ;simp_all),rfl⟩);refine bQ (fun vm=>?_) (fun vm=>?_) <;> simp only [↓j9,go_sem];(·refine xv (oX hG _ (by simp only [ct,dO,sS,sT,pE,sU,pF,pG,aG,a8,aj,aA,zA,zB,decide_true,jP,aF,lv,zC]) 1 fl ty kd lb rfl _ hf) ?_;simp only [↓j9,go_sem];exact hK _ _ ⟨congrArg bl (by clear hK;unfold mw jQ;simp_all),rfl⟩);exact hK _ _ ⟨congrArg bl (by clear hK;unfold mw jQ;simp_all),rfl⟩
 refine bQ (fun vm=>?_) (fun vm=>?_) <;> simp only [↓j9,go_sem];·refine xv (oX hG _ (by simp only [ct,dO,sS,sT,pE,sU,pF,pG,aG,a8,aj,aA,zA,zB,decide_true,jP,aF,lv,zC]) 1 fl ty kd lb rfl _ hf) ?_;simp only [↓j9,go_sem];exact hK _ _ ⟨congrArg bl (by clear hK;unfold mw jQ;simp_all),rfl⟩
 exact hK _ _ ⟨congrArg bl (by clear hK;unfold mw jQ;simp_all),rfl⟩
end
theorem xe (hG:bk.g=some 1) (b0:bm) (lv:∀ n,3≤n→aS n b0=true) (fl:ByteArray) (ty kd:Int) (lb:Bool) (hf:fl.size≤1048576) (l:Lb):∃ r_,(fun w=>w=bl (uK fl l)) r_∧bw ab 279 [b8 l,.ptr 2 0] ([b0,.box [str fl,num ty,bl lb,num kd],.box [.dU (.func 278) [] [.ptr 1 0]]]) r_ ([b0,.box [str fl,num ty,bl lb,num kd],.box [.dU (.func 278) [] [.ptr 1 0]]]):=by
 refine DN tt_ok [] 18 [.tmp 3] (fn:=Tryz.f279) Tryz.func279 rfl Tryz.call279 ⟨rfl,rfl,by simp⟩ fun K hK=>?_;have j9:=lv 3 (ax _);simp only [dG,b8,ah];simp only [↓j9,go_sem];refine dg (jn hG _) ?_;simp only [↓j9,go_sem];refine bQ (fun agj=>?_) (fun agj=>?_) <;> simp only [↓j9,go_sem];·exact hK _ _ ⟨congrArg bl (by clear hK;unfold uK;simp_all),rfl⟩
 refine xv (F6 hG _ (by simp only [ct,dO,sS,sT,pE,sU,pF,pG,aG,a8,aj,aA,zA,zB,decide_true,jP,aF,lv,zC]) 1 fl ty kd lb rfl _ hf) ?_;repeat' (simp only [↓j9,go_sem];first|refine bQ (fun hg=>?_) (fun hg=>?_)|refine dg (jn hG _) ?_|(exact hK _ _ ⟨congrArg bl (by clear hK;unfold uK;simp_all),rfl⟩))
section
attribute [local go_sem] aw
theorem SB (c:Nat) (b0:bm) (lv:∀ n,3≤n→aS n b0=true) (fl:ByteArray) (ty kd:Int) (lb:Bool) (hf:fl.size≤1048576) (g:FuncId) (q:Lb→Bool) (l:List Lb) (hg:∀ x∈l,∃ r,(fun v=>v=bl (q x)) r∧bw ab g [b8 x,.ptr 2 0] ([b0,.box [str fl,num ty,bl lb,num kd],.box [.dU (.func c) [] [.ptr 1 0]]]) r ([b0,.box [str fl,num ty,bl lb,num kd],.box [.dU (.func c) [] [.ptr 1 0]]])) (hl:l.length≤1048576):∃ r_,(fun w=>∃ k:Int,w=num k∧decide (0≤k)=l.any q) r_∧bw ab 304 [.slice (l.map b8),.dU (.func g) [] [.ptr 2 0]] ([b0,.box [str fl,num ty,bl lb,num kd],.box [.dU (.func c) [] [.ptr 1 0]]]) r_ ([b0,.box [str fl,num ty,bl lb,num kd],.box [.dU (.func c) [] [.ptr 1 0]]]):=by
 refine DN tt_ok [] 19 [.tmp 4] (fn:=Tryz.f304) Tryz.func304 rfl Tryz.call304 ⟨rfl,rfl,by simp⟩ fun K hK=>?_;have j9:=lv 3 (ax _);simp only [↓j9,go_sem];refine cZ tt_ok [] [8] 3 [0,1,7] (fun vs=>((l.length:Int)-Go.Eng.intOf (vs.headD .undef)).toNat) (fun vs=>∃ i:Nat,vs=[num i]∧i≤l.length∧∀ j<i,∀ x,l[j]?=some x→q x=false) (by omega) (by simp only [↓j9,go_sem]) (⟨0,rfl,aW _,fun j hj=>absurd hj (cf j)⟩) fun vs hI Z1 dv=>?_;obtain⟨i,rfl,hi,cD⟩:=hI;simp only [↓j9,go_sem];refine bQ (fun kQ=>?_) (fun kQ=>?_);·(have bR:i<l.length:=by simpa using kQ);have hw:=a7 i (by omega);obtain⟨x,hx⟩:∃ x,l[i]?=some x:=⟨_,af bR⟩;simp only [↓j9,hw,ae,hx,b8,ah,ai,ak,go_sem];refine xv (by have h:=hg x (ay hx);simp only [dG,b8,ah] at h;exact h) ?_;simp only [↓j9,hw,ae,hx,b8,ah,ai,ak,go_sem];refine bQ (fun gw=>?_) (fun gw=>?_);(·(have bM:decide (0≤(i:Int))=l.any q:=by rw [mr hx gw];exact decide_eq_true (CN i));simp only [↓j9,hw,ae,hx,b8,ah,ai,ak,go_sem];exact hK _ _ ⟨⟨_,rfl,bM⟩,rfl⟩);simp only [↓j9,hw,ae,hx,b8,ah,ai,ak,go_sem];refine dv _ (fR (by omega) (by simp only [↓j9,hw,ae,hx,b8,ah,ai,ak,go_sem]) ?_ ?_) <;> simp only [eE,lk,reduceIte,zE];(·refine⟨i+1,rfl,bR,fun j hj=>?_⟩;(rcases br j i with h|h);(·exact cD j h);(obtain rfl:j=i:=by omega);intro y hy;rw [hx] at hy;cases hy;exact gw);simp only [Go.Eng.intOf,bg];omega
 have hZ:¬ i<l.length:=by simpa using kQ
 have bM:decide (0≤(-1:Int))=l.any q:=(any_none fun j hj=>cD j (by omega)).symm ▸ rfl;simp only [↓j9,go_sem];exact hK _ _ ⟨⟨_,rfl,bM⟩,rfl⟩
end
theorem Cj (c:Nat) (b0:bm) (lv:∀ n,3≤n→aS n b0=true) (fl:ByteArray) (ty kd:Int) (lb:Bool) (hf:fl.size≤1048576) (g:FuncId) (q:Lb→Bool) (l:List Lb) (hg:∀ x∈l,∃ r,(fun v=>v=bl (q x)) r∧bw ab g [b8 x,.ptr 2 0] ([b0,.box [str fl,num ty,bl lb,num kd],.box [.dU (.func c) [] [.ptr 1 0]]]) r ([b0,.box [str fl,num ty,bl lb,num kd],.box [.dU (.func c) [] [.ptr 1 0]]])) (hl:l.length≤1048576):∃ r_,(fun w=>w=bl (l.any q)) r_∧bw ab 276 [.slice (l.map b8),.dU (.func g) [] [.ptr 2 0]] ([b0,.box [str fl,num ty,bl lb,num kd],.box [.dU (.func c) [] [.ptr 1 0]]]) r_ ([b0,.box [str fl,num ty,bl lb,num kd],.box [.dU (.func c) [] [.ptr 1 0]]]):=by refine DN tt_ok [] 9 [.tmp 4] (fn:=Tryz.f276) Tryz.func276 rfl Tryz.call276 ⟨rfl,rfl,by simp⟩ fun K hK=>?_;have j9:=lv 3 (ax _);simp only [↓j9,go_sem];refine cS (SB c b0 lv fl ty kd lb hf g q l hg hl) ?_;rintro _ ⟨k,rfl,hk⟩;simp only [↓j9,go_sem];exact hK _ _ ⟨congrArg bl hk,rfl⟩
end
section
theorem xg (x:Ex) (fl:ByteArray) (ty:Int) (lb:Bool) (kd:Int):mJ x fl ty lb kd=(!(q1 x fl||q2 x fl||q3 x fl||q4 x fl) && !(q5 x||q6 x kd) && !(q7 x ty||q8 x lb||q9 x kd) && !(x.labels.any (mw fl))):=by unfold mJ;cases q1 x fl <;> cases q2 x fl <;> cases q3 x fl <;> cases q4 x fl <;> cases q5 x <;> cases q6 x kd <;> cases q7 x ty <;> cases q8 x lb <;> cases q9 x kd <;> rfl
section
attribute [local go_sem] aK bF aw de
theorem W9 (hG:bk.g=some 1) (x:Ex) (fl:ByteArray) (ty kd:Int) (lb:Bool) (hf:fl.size≤1048576) (hl:x.labels.length≤1048576) (hkd : -1≤kd∧kd≤100):Cn 244 [cu x,.agg [str fl,num ty,bl lb,num kd]] (bl (mJ x fl ty lb kd)):=by
 refine fZ tt_ok [3,4,5,8,11,12,30000] 100 [.tmp 4] (fn:=Tryz.f244) Tryz.func244 rfl Tryz.call244 ⟨rfl,rfl,by simp⟩ fun K hK=>?_;simp only [aT,aJ];simp only [go_sem];refine dg (by have h:=W8 x fl ty kd lb hl hkd;rw [aT] at h;simp only [aJ] at h;exact h) ?_;simp only [go_sem];refine dI tt_ok [3,4,5,8,11,12,30000] [11] 3 [2,3,4,5,6] (fun vs=>vs=[bl (q1 x fl||q2 x fl||q3 x fl||q4 x fl)]) (fun Z1 dv=>?_) ?_;·simp only [go_sem];refine dI tt_ok [3,4,5,8,11,12,30000] [11] 3 [2,3,4,5,6] (fun vs=>vs=[bl (q1 x fl)]) (fun Z2 jk=>?_) ?_;(·simp only [go_sem];refine gA tt_ok ?_;simp only [go_sem];refine bQ (fun agk=>?_) (fun agk=>?_) <;> simp only [go_sem];(·refine xv (oX hG _ rfl 1 fl ty kd lb rfl _ hf) ?_;simp only [go_sem];refine jk _ (eI (by omega) (by simp only [go_sem]) ?_);simp only [eE,lk,reduceIte,zE];exact congrArg (fun b=>[bl b]) (by clear hK dv jk;unfold q1;simp_all [jQ] <;> (intros;omega)));refine jk _ (eI (by omega) (by simp only [go_sem]) ?_);simp only [eE,lk,reduceIte,zE];exact congrArg (fun b=>[bl b]) (by clear hK dv jk;unfold q1;simp_all [jQ] <;> (intros;omega)));intro vs hJ;obtain rfl:=hJ;simp only [go_sem];refine bQ (fun rI=>?_) (fun rI=>?_) <;> simp only [go_sem];(·refine dv _ (eI (by omega) (by simp only [go_sem]) ?_);simp only [eE,lk,reduceIte,zE];exact congrArg (fun b=>[bl b]) (by clear hK dv;first|(simp only [*,aO,aE,aL,aF,aN,aM,aV,aU,aQ,aP,aY];done)|(unfold q4;simp only [*,aO,aE,aL,aF,aN,aM,aV,aU,aQ,aP,aY];done)|(unfold q4;simp_all)));refine dI tt_ok [3,4,5,8,11,12,30000] [11] 3 [2,3,4,5,6] (fun vs=>vs=[bl (q2 x fl)]) (fun Z3 pY=>?_) ?_;(·simp only [go_sem];refine gA tt_ok ?_;simp only [go_sem];refine bQ (fun SC=>?_) (fun SC=>?_) <;> simp only [go_sem];(·refine xv (oX hG _ rfl 1 fl ty kd lb rfl _ hf) ?_;simp only [go_sem];refine pY _ (eI (by omega) (by simp only [go_sem]) ?_);simp only [eE,lk,reduceIte,zE];exact congrArg (fun b=>[bl b]) (by clear hK dv pY;unfold q2;simp_all [jQ] <;> (intros;omega)));refine pY _ (eI (by omega) (by simp only [go_sem]) ?_);simp only [eE,lk,reduceIte,zE];exact congrArg (fun b=>[bl b]) (by clear hK dv pY;unfold q2;simp_all [jQ] <;> (intros;omega)));intro vs hJ;obtain rfl:=hJ;simp only [go_sem];refine bQ (fun rI=>?_) (fun rI=>?_) <;> simp only [go_sem];(·refine dv _ (eI (by omega) (by simp only [go_sem]) ?_);simp only [eE,lk,reduceIte,zE];exact congrArg (fun b=>[bl b]) (by clear hK dv;first|(simp only [*,aO,aE,aL,aF,aN,aM,aV,aU,aQ,aP,aY];done)|(unfold q4;simp only [*,aO,aE,aL,aF,aN,aM,aV,aU,aQ,aP,aY];done)|(unfold q4;simp_all)));refine dI tt_ok [3,4,5,8,11,12,30000] [11] 3 [2,3,4,5,6] (fun vs=>vs=[bl (q3 x fl)]) (fun Z4 rE=>?_) ?_;(·simp only [go_sem];refine gA tt_ok ?_;simp only [go_sem];refine bQ (fun agl=>?_) (fun agl=>?_) <;> simp only [go_sem];(·refine xv (oX hG _ rfl 1 fl ty kd lb rfl _ hf) ?_;simp only [go_sem];refine rE _ (eI (by omega) (by simp only [go_sem]) ?_);simp only [eE,lk,reduceIte,zE];exact congrArg (fun b=>[bl b]) (by clear hK dv rE;unfold q3;simp_all [jQ] <;> (intros;omega)));refine rE _ (eI (by omega) (by simp only [go_sem]) ?_);simp only [eE,lk,reduceIte,zE];exact congrArg (fun b=>[bl b]) (by clear hK dv rE;unfold q3;simp_all [jQ] <;> (intros;omega)));intro vs hJ;obtain rfl:=hJ;simp only [go_sem];refine bQ (fun rI=>?_) (fun rI=>?_) <;> simp only [go_sem];(·refine dv _ (eI (by omega) (by simp only [go_sem]) ?_);simp only [eE,lk,reduceIte,zE];exact congrArg (fun b=>[bl b]) (by clear hK dv;first|(simp only [*,aO,aE,aL,aF,aN,aM,aV,aU,aQ,aP,aY];done)|(unfold q4;simp only [*,aO,aE,aL,aF,aN,aM,aV,aU,aQ,aP,aY];done)|(unfold q4;simp_all)));refine bQ (fun agm=>?_) (fun agm=>?_) <;> simp only [go_sem];(·refine xv (oX hG _ rfl 1 fl ty kd lb rfl _ hf) ?_;simp only [go_sem];refine dv _ (eI (by omega) (by simp only [go_sem]) ?_);simp only [eE,lk,reduceIte,zE];exact congrArg (fun b=>[bl b]) (by clear hK dv;first|(simp only [*,aO,aE,aL,aF,aN,aM,aV,aU,aQ,aP,aY];done)|(unfold q4;simp only [*,aO,aE,aL,aF,aN,aM,aV,aU,aQ,aP,aY];done)|(unfold q4;simp_all)));refine dv _ (eI (by omega) (by simp only [go_sem]) ?_);simp only [eE,lk,reduceIte,zE];exact congrArg (fun b=>[bl b]) (by clear hK dv;first|(simp only [*,aO,aE,aL,aF,aN,aM,aV,aU,aQ,aP,aY];done)|(unfold q4;simp only [*,aO,aE,aL,aF,aN,aM,aV,aU,aQ,aP,aY];done)|(unfold q4;simp_all))
 intro vs hJ;obtain rfl:=hJ;simp only [go_sem];refine bQ (fun rI=>?_) (fun rI=>?_) <;> simp only [go_sem];·exact hK _ (congrArg bl (by clear hK;rw [xg];simp only [*,aO,aE,aL,aF,aN,aM,aV,aU,aQ,aP,aY]))
 refine dI tt_ok [3,4,5,8,11,12,30000] [44] 3 [2,3,4,5,6,11] (fun vs=>vs=[bl (q5 x||q6 x kd)]) (fun Z5 Ca=>?_) ?_;·simp only [go_sem];refine dI tt_ok [3,4,5,8,11,12,30000] [44] 3 [2,3,4,5,6,11] (fun vs=>vs=[bl (q5 x)]) (fun Z6 JU=>?_) ?_;(·simp only [go_sem];refine gA tt_ok ?_;repeat' (simp only [go_sem];first|refine bQ (fun hg=>?_) (fun hg=>?_)|(refine JU _ (eI (by omega) (by simp only [go_sem]) ?_);simp only [eE,lk,reduceIte,zE];exact congrArg (fun b=>[bl b]) (by clear hK Ca JU;unfold q5;simp_all [jQ] <;> (intros;omega)))));intro vs hJ;obtain rfl:=hJ;repeat' (simp only [go_sem];first|refine bQ (fun hg=>?_) (fun hg=>?_)|(refine Ca _ (eI (by omega) (by simp only [go_sem]) ?_);simp only [eE,lk,reduceIte,zE];exact congrArg (fun b=>[bl b]) (by clear hK Ca;first|(simp only [*,aO,aE,aL,aF,aN,aM,aV,aU,aQ,aP,aY];done)|(unfold q6;simp only [*,aO,aE,aL,aF,aN,aM,aV,aU,aQ,aP,aY];done)|(unfold q6;simp_all))))
 intro vs hJ;obtain rfl:=hJ;simp only [go_sem];refine bQ (fun vi=>?_) (fun vi=>?_) <;> simp only [go_sem];·exact hK _ (congrArg bl (by clear hK;rw [xg];simp only [*,aO,aE,aL,aF,aN,aM,aV,aU,aQ,aP,aY]))
 refine dI tt_ok [3,4,5,8,11,12,30000] [65] 3 [2,3,4,5,6,11,44] (fun vs=>vs=[bl (q7 x ty||q8 x lb||q9 x kd)]) (fun Z7 Eb=>?_) ?_;·simp only [go_sem];refine dI tt_ok [3,4,5,8,11,12,30000] [65] 3 [2,3,4,5,6,11,44] (fun vs=>vs=[bl (q7 x ty)]) (fun Z8 Nd=>?_) ?_;(·simp only [go_sem];refine gA tt_ok ?_;repeat' (simp only [go_sem];first|refine bQ (fun hg=>?_) (fun hg=>?_)|(refine Nd _ (eI (by omega) (by simp only [go_sem]) ?_);simp only [eE,lk,reduceIte,zE];exact congrArg (fun b=>[bl b]) (by clear hK Eb Nd;unfold q7;simp_all [jQ] <;> (intros;omega)))));intro vs hJ;obtain rfl:=hJ;simp only [go_sem];refine bQ (fun LH=>?_) (fun LH=>?_) <;> simp only [go_sem];(·refine Eb _ (eI (by omega) (by simp only [go_sem]) ?_);simp only [eE,lk,reduceIte,zE];exact congrArg (fun b=>[bl b]) (by clear hK Eb;first|(simp only [*,aO,aE,aL,aF,aN,aM,aV,aU,aQ,aP,aY];done)|(unfold q9;simp only [*,aO,aE,aL,aF,aN,aM,aV,aU,aQ,aP,aY];done)|(unfold q9;simp_all)));refine dI tt_ok [3,4,5,8,11,12,30000] [65] 3 [2,3,4,5,6,11,44] (fun vs=>vs=[bl (q8 x lb)]) (fun Z9 SD=>?_) ?_;(·simp only [go_sem];refine gA tt_ok ?_;repeat' (simp only [go_sem];first|refine bQ (fun hg=>?_) (fun hg=>?_)|(refine SD _ (eI (by omega) (by simp only [go_sem]) ?_);simp only [eE,lk,reduceIte,zE];exact congrArg (fun b=>[bl b]) (by clear hK Eb SD;unfold q8;simp_all [jQ] <;> (intros;omega)))));intro vs hJ;obtain rfl:=hJ;repeat' (simp only [go_sem];first|refine bQ (fun hg=>?_) (fun hg=>?_)|(refine Eb _ (eI (by omega) (by simp only [go_sem]) ?_);simp only [eE,lk,reduceIte,zE];exact congrArg (fun b=>[bl b]) (by clear hK Eb;first|(simp only [*,aO,aE,aL,aF,aN,aM,aV,aU,aQ,aP,aY];done)|(unfold q9;simp only [*,aO,aE,aL,aF,aN,aM,aV,aU,aQ,aP,aY];done)|(unfold q9;simp_all))))
 intro vs hJ;obtain rfl:=hJ;simp only [go_sem];refine bQ (fun LH=>?_) (fun LH=>?_) <;> simp only [go_sem];·exact hK _ (congrArg bl (by clear hK;rw [xg];simp only [*,aO,aE,aL,aF,aN,aM,aV,aU,aQ,aP,aY]))
 refine xv (Cj 274 _ (fun n hn=>rfl) fl ty kd lb hf 277 (mw fl) x.labels (fun l _=>SA hG _ (fun n hn=>rfl) fl ty kd lb hf l) hl) ?_;simp only [go_sem];exact hK _ (congrArg bl (by clear hK;rw [xg];simp only [*,aO,aE,aL,aF,aN,aM,aV,aU,aQ,aP,aY]))
end
end
section
section
attribute [local go_sem] aK bF aw de
theorem I4 (hG:bk.g=some 1) (x:Ex) (fl:ByteArray) (ty kd:Int) (lb:Bool) (hf:fl.size≤1048576) (hl:x.labels.length≤1048576) (hm:x.mod.size≤1048576):Cn 245 [cu x,.agg [str fl,num ty,bl lb,num kd]] (bl (wT x fl)):=by
 refine fZ tt_ok [2,3] 42 [.tmp 4] (fn:=Tryz.f245) Tryz.func245 rfl Tryz.call245 ⟨rfl,rfl,by simp⟩ fun K hK=>?_;simp only [aT,aJ];simp only [go_sem];refine dI tt_ok [2,3] [7] 3 [2,4,5] (fun vs=>vs=[bl (m1 x fl)]) (fun Z1 dv=>?_) ?_;·simp only [go_sem];refine gA tt_ok ?_;simp only [go_sem];refine xv (F6 hG _ rfl 1 fl ty kd lb rfl _ hf) ?_;repeat' (simp only [go_sem];first|refine bQ (fun hg=>?_) (fun hg=>?_)|refine dg (ya hG x.mod hm) ?_|(refine dv _ (eI (by omega) (by simp only [go_sem]) ?_);simp only [eE,lk,reduceIte,zE];exact congrArg (fun b=>[bl b]) (by clear hK dv;unfold m1;simp_all [jQ] <;> (intros;omega))))
 intro vs hJ;obtain rfl:=hJ;simp only [go_sem];refine bQ (fun Af=>?_) (fun Af=>?_) <;> simp only [go_sem];·exact hK _ (congrArg bl (by clear hK;unfold wT;first|(simp only [*,aO,aE,aL,aF,aN,aM,aV,aU,aQ,aP];done)|(unfold m3;simp only [*,aO,aE,aL,aF,aN,aM,aV,aU,aQ,aP];done)|(unfold m3;simp_all)))
 refine dI tt_ok [2,3] [7] 3 [2,4,5] (fun vs=>vs=[bl (m2 x fl)]) (fun Z2 jk=>?_) ?_;·simp only [go_sem];refine gA tt_ok ?_;simp only [go_sem];refine xv (F6 hG _ rfl 1 fl ty kd lb rfl _ hf) ?_;repeat' (simp only [go_sem];first|refine bQ (fun hg=>?_) (fun hg=>?_)|refine dg (jn hG _) ?_|(refine jk _ (eI (by omega) (by simp only [go_sem]) ?_);simp only [eE,lk,reduceIte,zE];exact congrArg (fun b=>[bl b]) (by clear hK jk;unfold m2;simp_all [jQ] <;> (intros;omega))))
 intro vs hJ;obtain rfl:=hJ;simp only [go_sem];refine bQ (fun Af=>?_) (fun Af=>?_) <;> simp only [go_sem];·exact hK _ (congrArg bl (by clear hK;unfold wT;first|(simp only [*,aO,aE,aL,aF,aN,aM,aV,aU,aQ,aP];done)|(unfold m3;simp only [*,aO,aE,aL,aF,aN,aM,aV,aU,aQ,aP];done)|(unfold m3;simp_all)))
 refine bQ (fun SC=>?_) (fun SC=>?_) <;> simp only [go_sem];·refine dg (jn hG _) ?_;simp only [go_sem];refine bQ (fun Af=>?_) (fun Af=>?_) <;> simp only [go_sem];(·exact hK _ (congrArg bl (by clear hK;unfold wT;first|(simp only [*,aO,aE,aL,aF,aN,aM,aV,aU,aQ,aP];done)|(unfold m3;simp only [*,aO,aE,aL,aF,aN,aM,aV,aU,aQ,aP];done)|(unfold m3;simp_all))));refine xv (Cj 278 _ (fun n hn=>rfl) fl ty kd lb hf 279 (uK fl) x.labels (fun l _=>xe hG _ (fun n hn=>rfl) fl ty kd lb hf l) hl) ?_;simp only [go_sem];exact hK _ (congrArg bl (by clear hK;unfold wT;first|(simp only [*,aO,aE,aL,aF,aN,aM,aV,aU,aQ,aP];done)|(unfold m3;simp only [*,aO,aE,aL,aF,aN,aM,aV,aU,aQ,aP];done)|(unfold m3;simp_all)))
 refine xv (Cj 278 _ (fun n hn=>rfl) fl ty kd lb hf 279 (uK fl) x.labels (fun l _=>xe hG _ (fun n hn=>rfl) fl ty kd lb hf l) hl) ?_;simp only [go_sem];exact hK _ (congrArg bl (by clear hK;unfold wT;first|(simp only [*,aO,aE,aL,aF,aN,aM,aV,aU,aQ,aP];done)|(unfold m3;simp only [*,aO,aE,aL,aF,aN,aM,aV,aU,aQ,aP];done)|(unfold m3;simp_all)))
end
end
section
section
variable {σ:Type} {M:σ→List bm} {n k k1 k2:Nat}
theorem SE (hn:∀ s,(M s).length=n) (hk:k<n) (iA:k1<n) (lr:k2<n) (h1:∀ s,(M s)[k1]?=some (.box [.km k])) (h2:∀ s,(M s)[k2]?=some (.box [.dU (.func 235) [] [.ptr k1 0,.ptr k2 0]])) (hb:∀ s,(M s).all (aS n)=true)
  (step:σ→Ty→σ×Bool) (G:σ→Prop) (hG:∀ s u,G s→(step s u).2=true→G (step s u).1) {B:Nat} (hB:B≤1048576) (Pd:Ty→Prop) (hy:∀ s u,G s→u.size≤B→Pd u→JN ab k [cd u] (M s) (step s u).2 (M (step s u).1)) :
  ∀ (N:Nat) (t:Ty) (s:σ),G s→(∀ v∈t.nodes,Pd v)→t.size≤N→N≤B→bw ab 235 [cd t,.ptr k1 0,.ptr k2 0] (M s) (bl (dA step s t.nodes).2) (M (dA step s t.nodes).1):=by
 have g0:∀ s (l:List bm),(M s++l)[n]?=l[0]?:=fun s l=>by rw [a6 (by rw [hn];exact ax _),hn,cI]
 have g1:∀ s (l:List bm),(M s++l)[n+1]?=l[1]?:=fun s l=>by rw [a6 (by rw [hn];omega),hn,ef]
 have YX:∀ s (l:List bm),(M s++l)[k1]?=some (.box [.km k]):=fun s l=>by rw [bx (by rw [hn];exact iA)];exact h1 s
 have gk2:∀ s (l:List bm),(M s++l)[k2]?=some (.box [.dU (.func 235) [] [.ptr k1 0,.ptr k2 0]]):=fun s l=>by rw [bx (by rw [hn];exact lr)];exact h2 s
 have gs:∀ s (l:List bm) X,(M s++l).set n X=M s++l.set 0 X:=fun s l X=>by rw [dt _ _ (by rw [hn];exact ax _),hn,cI]
 have gt:∀ s (l:List bm),(M s++l).take n=M s:=fun s l=>by rw [← hn s,rM]
 have YY:∀ s,(M s).take n=M s:=fun s=>by rw [bu (by rw [hn];exact ax _)]
 have fy:∀ s u (l:List bm),G s→u.size≤B→Pd u→JN ab k [cd u] (M s++l) (step s u).2 (M (step s u).1++l):=fun s u l hg hu hp=>by refine (hy s u hg hu hp).frame (by rw [hn];exact hk) ?_ (by rw [hn];exact hb s) (by rw [hn,hn]) (by rw [hn];exact hb _) l;rw [az];simp [aG,a8,ah]
 intro N;induction N with|zero=>intro t s hg hP h;have:=t.size_pos;omega|succ N ih =>intro t s hg hP hN hNB;have zQ:=t.fc;have qd:=t.dQ;have RM:=bP Ty.size Ty.size_pos t.parts;have cK:=t.dy;have hp:=yb t (by omega);have RQ:=fun l=>fy s t l hg (by omega) (hP t (by rw [t.dy];simp));(have YZ:∀ u s (l:List bm),G s→(∀ v∈u.nodes,Pd v)→u.size≤N→bw ab 235 [cd u,.ptr k1 0,.ptr k2 0] (M s++l) (bl (dA step s u.nodes).2) (M (dA step s u.nodes).1++l):=fun u s l hg hq hu=>by refine (ih u s hg hq hu (by omega)).frame ?_ (by rw [hn];exact hb s) rfl (by rw [hn,hn]) (by rw [hn];exact hb _) l;rw [az,hn];simp [aG,a8,ah,iA,lr]);simp only [az,ah] at YZ;refine kY tt_ok (fn:=Tryz.f235) n (by rw [hn];exact ax _) Tryz.func235 rfl Tryz.call235 ?_;simp only [dG,cB,Tryz.ntmps235,aj,aA,zA,zF,aH,aI];rw [az] at hp RQ ⊢;simp only [ah] at hp RQ ⊢;refine ag tt_ok fun K hK=>?_;simp only [hn,go_sem];refine hK _ ?_;refine bz ?_;refine ag tt_ok fun K hK=>?_;simp only [YX,g0,hn,go_sem];refine .inl ⟨_,_,RQ _,?_⟩;(try simp only [go_sem]);refine hK _ ?_;cases RR:(step s t).2 with|false =>refine ba rfl ?_;refine ag tt_ok fun K hK=>?_;simp only [go_sem];refine hK _ ?_;refine bX ⟨.inl rfl,?_⟩;(have oC:dA step s t.nodes=((step s t).1,false):=by rw [cK];simp [dA,RR]);rw [oC];exact⟨rfl,rfl,by dsimp only;rw [gt];exact hb _,(gt _ _).symm⟩|true =>refine ba rfl (ch ?_);show eg _ _ _ _ _ _;refine bz ?_;refine ag tt_ok fun K hK=>?_;simp only [YX,g0,hn,go_sem];refine .inl ⟨_,_,by simp only [aK,go_sem,au],hp,?_⟩;(try simp only [aK,go_sem]);refine hK _ ?_;obtain⟨ps,BF⟩:∃ ps,ps=t.parts:=⟨_,rfl⟩;rw [← BF] at qd RM cK ⊢;have hPp:∀ u∈ps,∀ v∈u.nodes,Pd v:=fun u hu v hv=>hP v (by rw [cK];exact bE _ (gK.2 ⟨u,hu,hv⟩));refine bY (dd (fun N st=>∃ (i:Nat) (s':σ),G s'∧N=ps.length-i∧i≤ps.length∧dA step s (t :: (ps.take i).flatMap Ty.nodes)=(s',true) ∧ st = { fr:=[.undef,.ptr k1 0,.ptr k2 0,.undef,.undef,.undef,.undef,.undef,.undef,.undef,.undef,.undef,.slice (bN ps),num ps.length,num i]++List.replicate 8 .undef,mem:=M s' }) ps.length ?_ ?_);(·refine⟨n,(false::true::true::(rp 9 false [true,true,true])),by rw [hn];exact ax _,by simp only [bG,aG,a8,aS,zB,iA,lr,jj],by dsimp only;rw [gt];exact hb _,0,(step s t).1,hG s t hg RR,by omega,by omega,by simp [dA,RR],?_⟩;dsimp only;rw [gt];rfl);rintro N' st ⟨i,s',Ha,rfl,hi,RS,rfl⟩;simp only [dG,aH,aI];by_cases bR:i<ps.length;(·have hd:=iU bR;refine ag tt_ok fun K hK=>?_;simp only [aK,hd,go_sem];refine hK _ ?_;refine bz (ba rfl (ch ?_));refine bz (bY ?_);obtain⟨u,hu⟩:∃ u,ps[i]?=some u:=⟨_,af bR⟩;have Ou:=cb Ty.size hu;have fG:=fun l=>YZ u s' l Ha (hPp u (ay hu)) (by omega);(have rP:(ps.take (i+1)).flatMap Ty.nodes=(ps.take i).flatMap Ty.nodes++u.nodes:=by rw [bn,hu];simp);(have DW:dA step s (t :: (ps.take (i+1)).flatMap Ty.nodes)=dA step s' u.nodes:=by rw [rP,← ai,jM,RS];simp);refine ag tt_ok fun K hK=>?_;simp only [bo,hu,az,ah,hn,g0,gs,go_sem];refine hK _ ?_;refine ag tt_ok fun K hK=>?_;simp only [gk2,g0,hn,go_sem];(refine .inr <| .inl ⟨_,_,fG _,?_⟩);(try simp only [go_sem]);refine hK _ ?_;cases RT:(dA step s' u.nodes).2 with|false =>refine ba rfl ?_;refine ag tt_ok fun K hK=>?_;simp only [go_sem];refine hK _ ?_;refine bX ⟨.inl rfl,?_⟩;(have oC:dA step s t.nodes=((dA step s' u.nodes).1,false):=by (have BH:ps.flatMap Ty.nodes=(ps.take (i+1)).flatMap Ty.nodes++(ps.drop (i+1)).flatMap Ty.nodes:=by rw [← asT,ld]);rw [cK,BH,← ai,jM,DW,RT];simp);rw [oC];exact⟨rfl,rfl,by dsimp only;rw [gt];exact hb _,(gt _ _).symm⟩|true =>refine ba rfl (ch ?_);show eg _ _ _ _ _ _;refine bd tt_ok fun K hK=>?_;simp only [go_sem];refine hK _ ?_;have im:=a7 i (by omega);rw [im];refine⟨ps.length-(i+1),by omega,n,(false::true::true::(rp 9 false [true,true,true])),by rw [hn];exact ax _,by simp only [bG,aG,a8,aS,zB,iA,lr,jj],by dsimp only;rw [gt];exact hb _,i+1,(dA step s' u.nodes).1,rC step hG _ _ Ha RT,rfl,bR,by rw [DW,← RT],?_⟩;dsimp only;rw [gt];rfl);have hd:=iV bR;refine ag tt_ok fun K hK=>?_;simp only [aK,hd,go_sem];refine hK _ ?_;refine bz (ba rfl (eH ?_));(have iC:i=ps.length:=by omega);subst iC;show eg _ _ _ _ _ _;refine ag tt_ok fun K hK=>?_;simp only [go_sem];refine hK _ ?_;refine bX ⟨.inl rfl,?_⟩;rw [au] at RS;rw [cK,RS];exact⟨rfl,rfl,by dsimp only;rw [YY];exact hb _,(YY _).symm⟩
end
section
variable {σ:Type} {M:σ→List bm} {n k kt:Nat}
theorem SG (hn:∀ s,(M s).length=n) (hk:k<n) (Oy:kt<n) {t:Ty} (h1:∀ s,(M s)[kt]?=some (.box (ah t))) (hb:∀ s,(M s).all (aS n)=true)
  (step:σ→Ty→σ×Bool) (G:σ→Prop) (hG:∀ s u,G s→(step s u).2=true→G (step s u).1) {B:Nat} (hB:B≤1048576) (Pd:Ty→Prop) (hy:∀ s u,G s→u.size≤B→Pd u→JN ab k [cd u] (M s) (step s u).2 (M (step s u).1)) (ht:t.size≤B) (hP:∀ v∈t.nodes,Pd v) (s:σ) (hs:G s) :
  bw ab 234 [.km k,.ptr kt 0] (M s) (.ec []) (M (dA step s t.nodes).1):=by
 have g0:∀ s (l:List bm),(M s++l)[n]?=l[0]?:=fun s l=>by rw [a6 (by rw [hn];exact ax _),hn,cI]
 have g1:∀ s (l:List bm),(M s++l)[n+1]?=l[1]?:=fun s l=>by rw [a6 (by rw [hn];omega),hn,ef]
 have Y0:∀ s (l:List bm),(M s++l)[kt]?=some (.box (ah t)):=fun s l=>by rw [bx (by rw [hn];exact Oy)];exact h1 s
 have gs:∀ s (l:List bm) X,(M s++l).set (n+1) X=M s++l.set 1 X:=fun s l X=>by rw [dt _ _ (by rw [hn];omega),hn,ef]
 have gt:∀ s (l:List bm),(M s++l).take n=M s:=fun s l=>by rw [← hn s,rM]
 have hw:∀ s,G s→bw ab 235 [cd t,.ptr n 0,.ptr (n+1) 0] (M s++[.box [.km k],.box [.dU (.func 235) [] [.ptr n 0,.ptr (n+1) 0]]]) (bl (dA step s t.nodes).2) (M (dA step s t.nodes).1++[.box [.km k],.box [.dU (.func 235) [] [.ptr n 0,.ptr (n+1) 0]]]):=fun s hs=>by refine SE (M:=fun s=>M s++[.box [.km k],.box [.dU (.func 235) [] [.ptr n 0,.ptr (n+1) 0]]]) (n:=n+2) (k:=k) (k1:=n) (k2:=n+1) (fun s=>by simp [hn]) (by omega) (by omega) (by omega) (fun s=>g0 _ _) (fun s=>g1 _ _) (fun s=>?_) step G hG hB Pd (fun s u hg hu hq=>?_) t.size t s hs hP (ax _) ht;(·rw [mP,aD];refine⟨rj (by omega) (hb s),?_⟩;simp [aS,aG,a8];omega);refine (hy s u hg hu hq).frame (by rw [hn];exact hk) ?_ (by rw [hn];exact hb s) (by rw [hn,hn]) (by rw [hn];exact hb _) _;rw [az];simp [aG,a8,ah]
 refine kY tt_ok (fn:=Tryz.f234) n (by rw [hn];exact ax _) Tryz.func234 rfl Tryz.call234 ?_;simp only [dG,cB,Tryz.ntmps234,aj,aA,zA,zF,aH,aI];have BA:=hw s hs;rw [az] at BA;simp only [ah] at BA Y0;refine ag tt_ok fun K hK=>?_;simp only [hn,go_sem];refine hK _ ?_;refine ag tt_ok fun K hK=>?_;simp only [hn,bc,sf,go_sem];refine hK _ ?_;refine ag tt_ok fun K hK=>?_;simp only [hn,g1,gs,go_sem];refine hK _ ?_;refine bd tt_ok fun K hK=>?_;simp only [hn,g1,Y0,go_sem];refine .inr <| .inl ⟨_,_,BA,?_⟩
 try simp only [go_sem]
 refine hK _ ?_;refine⟨.inr rfl,rfl,rfl,?_,?_⟩;·dsimp only;rw [gt];exact hb _
 dsimp only;rw [gt]
theorem LI {n0:Nat} {st:St} {Q:Exit→St→Prop} {f:Operand} {params:Array Tmp} {assign body:Code} {t:Ty} (pre:σ→List bm) (s0:σ) (n kt:Nat) (oK:st.mem=pre s0) (hn:∀ s,(pre s).length=n) (Oy:kt<n)
  (ht:∀ s,(pre s)[kt]?=some (.box (ah t))) (hb:∀ s,(pre s).all (aS (n+1))=true) (zY:st.fr.all (aG (n+1))=true) (hf:st.eval f = .dU (.func 234) [] [.ptr kt 0]) (hp:params.size=1) (step:σ→Ty→σ×Option Code) {B:Nat} (hB:B≤1048576) (nh:t.size≤B) (Pd:Ty→Prop) (hPt:∀ v∈t.nodes,Pd v)
  (BI:∀ s u,u.size≤B→Pd u→∀ (l:Nat) (LR LB:bm),aS (n+1) LR=true→aS (n+1) LB=true→eg ab (some l) (n+1) assign { fr:=pB params.toList [cd u] st.fr,mem:=pre s++[LR] } fun ex uh=>ex = .normal∧uh.mem[n]?=some LR ∧
   eg ab (some l) (n+1) body { uh with mem:=uh.mem.set n LB } fun ex z7=>sE ex=some (step s u).2∧z7.mem[n]?=some LB∧z7.mem.take n=pre (step s u).1)
  (hq:match (jo step s0 t.nodes).2 with
   | none=>Q .normal { st with mem:=pre (jo step s0 t.nodes).1++[.dead] }
   | some c=>eg ab none n0 c { st with mem:=pre (jo step s0 t.nodes).1++[.dead] } Q):eg ab none n0 (.rangeFunc f params assign body) st Q:=by
 have hlen:st.mem.length=n:=by rw [oK,hn]
 have gn:∀ s X,(pre s++[X])[n]?=some X:=fun s X=>by rw [a6 (by rw [hn];exact ax _),hn,cI];rfl
 have gk:∀ s X,(pre s++[X])[kt]?=some (.box (ah t)):=fun s X=>by rw [bx (by rw [hn];exact Oy)];exact ht s
 have Ii:∀ s (X Y:bm),(pre s++[X]).set n Y=pre s++[Y]:=fun s X Y=>by rw [dt _ _ (by rw [hn];exact ax _),hn,cI];rfl
 have zd:∀ (s:σ) (a:LoopState) (b:Option Code),(pre s++[bm.loop a b st.fr params assign body]).all (aS (n+1))=true:=fun s a b=>by rw [mP,aD];exact⟨hb s,by simp only [ct,dO,aF,aS];exact zY⟩
 have it:=SG (M:=fun s:σ×Option Code=>pre s.1++[.loop (if s.2.isNone then .ready else .done) s.2 st.fr params assign body]) (n:=n+1) (k:=n) (kt:=kt) (t:=t) (fun s=>by simp [hn]) (by omega) (by omega) (fun s=>gk _ _) (fun s=>zd _ _ _)
  (wK step) (fun s=>s.2=none) (fun s u hs h=>by simpa [wK] using h) hB Pd (fun s u hs hu hq=>by
   obtain⟨s,j⟩:=s
   simp only at hs;subst hs
   refine sF (fr:=st.fr) (params:=params) (assign:=assign) (body:=body) (gn _ _) (by simp [hp]) fun l=>?_
   have hl:(pre s++[bm.loop .ready none st.fr params assign body]).length=n+1:=by simp [hn]
   simp only [ads,if_true,hl]
   refine eg.mono (BI s u hu hq l (.loop .ready none st.fr params assign body) (.loop .busy none st.fr params assign body) zY zY) ?_
   rintro ex uh ⟨h1,h2,h3⟩
   refine⟨h1,h2,eg.mono h3 ?_⟩
   rintro ex z7 ⟨h4,h5,h6⟩
   refine⟨_,h4,rfl,h5,?_,?_⟩
   ·rw [take_set (hn _) h5 h6];exact zd _ _ _
   rw [take_set (hn _) h5 h6];rfl) nh hPt (s0,none) rfl
 rw [Ah] at it;refine pU (g:=234) (vs:=[.km n,.ptr kt 0]) (by rw [hf,hlen];rfl) (by rw [oK];exact it) ?_;rw [hlen];refine⟨_,_,_,_,_,_,gn _ _,?_,?_⟩;·cases (jo step s0 t.nodes).2 <;> simp
 generalize hj:(jo step s0 t.nodes).2=j at hq;cases j with|none=>dsimp only at hq ⊢;rw [Ii];exact hq|some c=>dsimp only at hq ⊢;rw [Ii];exact hq
end
end
theorem SH (t:Ty):n5 t=if decide (4096<(t.size:Int))||decide (32<(t.depth:Int)) then 7 else bT tU t.nodes:=by unfold n5;by_cases h1:4096<t.size <;> by_cases h2:32<t.depth <;> simp [h1,h2] <;> (intros;omega)
theorem tn {α:Type} (f:α→Int) (c:Code):∀ (l:List α) (s:Int),jo (fun (s:Int) u=>if decide (f u=0)=true then (s,none) else (f u,some c)) s l=if decide (bT f l=0)=true then (s,none) else (bT f l,some c)
 | [],s=>by simp [jo,bT]
 | u :: r,s=>by
  by_cases h:f u=0
  ·simp only [jo,bT,h,decide_true,if_true]
   exact tn f c r s
  have hd:decide (f u=0)=false:=decide_eq_false h
  simp [jo,bT,hd,h]
theorem xh (hG:bk.g=some 1) (t:Ty) (ht:t.size≤1048576) (hP:∀ v∈t.nodes,v.mod.size≤1048576):cx ab 136 [cd t] (num (n5 t)):=by have Zc:=ot t ht;have SI:=K7 t.size t (ax _) ht;have h51:=fun B0 B1 h=>Ih t [B0,B1] h;refine jU tt_ok (fn:=Tryz.f136) Tryz.func136 rfl Tryz.call136 ?_;simp only [dG,cB,Tryz.ntmps136,aj,aA,zA,zF,aH,aI];rw [az] at Zc SI h51 ⊢;simp only [ah] at Zc SI h51 ⊢;refine ag tt_ok fun K hK=>?_;simp only [go_sem];refine hK _ ?_;refine bz ?_;have res:n5 t=if decide (4096<(t.size:Int))||decide (32<(t.depth:Int)) then 7 else bT tU t.nodes:=SH t;cases c1:decide (4096<(t.size:Int)) with|true =>rw [c1] at res;refine ag tt_ok fun K hK=>?_;simp only [c1,go_sem];refine .inl ⟨_,_,by simp only [c1,go_sem,au],Zc,?_⟩;(try simp only [c1,go_sem]);refine hK _ ?_;refine ba rfl ?_;refine ag tt_ok fun K hK=>?_;simp only [go_sem];refine hK _ ?_;refine bX ⟨.inl rfl,?_⟩;rw [res];rfl|false =>rw [c1] at res;cases c2:decide (32<(t.depth:Int)) with|true =>rw [c2] at res;refine ag tt_ok fun K hK=>?_;simp only [c1,go_sem];refine .inl ⟨_,_,by simp only [c1,go_sem,au],Zc,?_⟩;(try simp only [c1,go_sem]);refine .inl ⟨_,_,by simp only [c2,go_sem,au],SI,?_⟩;(try simp only [c2,go_sem]);refine hK _ ?_;refine ba rfl ?_;refine ag tt_ok fun K hK=>?_;simp only [go_sem];refine hK _ ?_;refine bX ⟨.inl rfl,?_⟩;rw [res];rfl|false =>rw [c2] at res;refine ag tt_ok fun K hK=>?_;simp only [c1,go_sem];refine .inl ⟨_,_,by simp only [c1,go_sem,au],Zc,?_⟩;(try simp only [c1,go_sem]);refine .inl ⟨_,_,by simp only [c2,go_sem,au],SI,?_⟩;(try simp only [c2,go_sem]);refine hK _ ?_;refine ba rfl (ch ?_);show eg _ _ _ _ _ _;refine bz ?_;refine ag tt_ok fun K hK=>?_;simp only [go_sem];(refine .inr <| .inl ⟨_,_,h51 _ _ rfl,?_⟩);(try simp only [go_sem]);refine hK _ ?_;refine bY (LI (t:=t) (B:=1048576) (fun s:Int=>[.box (ah t),.box [num s],.box (ah t)]) 0 3 2 rfl (fun _=>rfl) (by omega) (fun _=>rfl) (fun _=>rfl) rfl rfl rfl (fun s u=>if decide (tU u=0)=true then (s,none) else (tU u,some .ret)) (by omega) ht (fun v=>v.mod.size≤1048576) hP ?_ ?_);(·intro s u hu hm l LR LB hLR hLB;have zQ:=u.fc;obtain⟨_,rfl,hn⟩:=I2 hG u (by omega) hm;rw [az] at hn ⊢;simp only [ah] at hn;simp only [dG,pB,ah,je,eD];refine bd tt_ok fun K hK=>?_;simp only [go_sem];refine hK _ ?_;refine⟨rfl,rfl,bY ?_⟩;simp only [je,eD];refine ag tt_ok fun K hK=>?_;simp only [go_sem];refine .inl ⟨_,_,by simp only [go_sem,au],hn,?_⟩;(try simp only [go_sem]);refine hK _ ?_;refine bz ?_;cases c3:decide (tU u=0) with|true =>refine bd tt_ok fun K hK=>?_;simp only [c3,go_sem];refine hK _ ?_;refine ba rfl (ch ?_);exact⟨rfl,rfl,rfl⟩|false =>refine bd tt_ok fun K hK=>?_;simp only [c3,go_sem];refine hK _ ?_;refine ba rfl ?_;refine ag tt_ok fun K hK=>?_;simp only [go_sem];refine hK _ ?_;exact bX ⟨rfl,rfl,rfl⟩);rw [tn];simp only [aY,bJ,if_false] at res;rw [res];cases c4:decide (bT tU t.nodes=0) with|true =>have e0:bT tU t.nodes=0:=of_decide_eq_true c4;simp only [if_true];show eg _ _ _ _ _ _;refine ag tt_ok fun K hK=>?_;simp only [go_sem];refine hK _ ?_;refine bX ⟨.inl rfl,?_⟩;rw [e0];rfl|false =>simp only [bJ,if_false];exact bX ⟨.inl rfl,rfl⟩
def F7 (dK:List (Value×Nat×V)):Prop:=∀ e∈dK,KI .i64 e.1∧∃ (fl:ByteArray) (ty kd:Int) (lb:Bool),e.2.2 = .agg [str fl,num ty,bl lb,num kd]∧fl.size≤1048576
theorem F7.below {dK:List (Value×Nat×V)} (h:F7 dK) (n:Nat):(dK.all fun e=>aG n e.2.2)=true:=aX.2 fun e he=>by obtain⟨-,fl,ty,kd,lb,e1,-⟩:=h e he;rw [e1];rfl
theorem agn:Wj ab 198 3 234 (KI .i64):=Q1 kr kr
def tp:Value×Nat×V:=(.int .i64 0,0,.agg [str ⟨#[98]⟩,num 0,bl false,num 0])
def ur:Value×Nat×V:=(.int .i64 1,1,.agg [str ⟨#[120]⟩,num 0,bl false,num 0])
def vn:Value×Nat×V:=(.int .i64 2,2,.agg [str ⟨#[98]⟩,num 0,bl false,num 0])
def xi:Value×Nat×V:=(.int .i64 3,3,.agg [str ⟨#[110]⟩,num 0,bl false,num 0])
def ym:Value×Nat×V:=(.int .i64 4,4,.agg [str ⟨#[109,110]⟩,num (-1),bl false,num 0])
def zS:Value×Nat×V:=(.int .i64 5,5,.agg [str ⟨#[]⟩,num 0,bl true,num 0])
def Ck:Value×Nat×V:=(.int .i64 6,6,.agg [str ⟨#[110]⟩,num 0,bl false,num 1])
def Db:Value×Nat×V:=(.int .i64 7,7,.agg [str ⟨#[110]⟩,num 0,bl false,num 1])
def F8:Value×Nat×V:=(.int .i64 8,8,.agg [str ⟨#[116,111]⟩,num 0,bl true,num 1])
def I5:Value×Nat×V:=(.int .i64 9,9,.agg [str ⟨#[]⟩,num 0,bl true,num 1])
def vo:Value×Nat×V:=(.int .i64 10,10,.agg [str ⟨#[110]⟩,num 0,bl false,num 2])
def yn:Value×Nat×V:=(.int .i64 11,11,.agg [str ⟨#[]⟩,num 1,bl false,num 1])
def Cl:Value×Nat×V:=(.int .i64 12,12,.agg [str ⟨#[]⟩,num 1,bl false,num 3])
def F9:Value×Nat×V:=(.int .i64 13,13,.agg [str ⟨#[118]⟩,num 1,bl true,num 1])
def LJ:Value×Nat×V:=(.int .i64 14,14,.agg [str ⟨#[]⟩,num 1,bl false,num (-1)])
def SJ:Value×Nat×V:=(.int .i64 15,15,.agg [str ⟨#[110,120]⟩,num 1,bl false,num 3])
def acg:Value×Nat×V:=(.int .i64 16,16,.agg [str ⟨#[110]⟩,num 0,bl false,num (-1)])
def iP:List (Value×Nat×V):=[tp,ur,vn,xi,ym,zS,Ck,Db,F8,I5,vo,yn,Cl,F9,LJ,SJ,acg]
theorem Cm:F7 iP:=fun e he=>by simp only [iP,dj,o3,or_false] at he;rcases he with rfl|rfl|rfl|rfl|rfl|rfl|rfl|rfl|rfl|rfl|rfl|rfl|rfl|rfl|rfl|rfl|rfl <;> exact⟨⟨_,rfl⟩,_,_,_,_,rfl,by decide⟩
theorem OY {mem:List bm} {b:Nat} (hm:mem[b]?=some (.map iP 17)) (n:Int) :
  ∃ (fl:ByteArray) (ty kd:Int) (lb ok:Bool),kK ab mem 198 (.mp b) (num n) true=some (.ec [.agg [str fl,num ty,bl lb,num kd],bl ok])∧fl.size≤1048576∧(-1≤kd∧kd≤100) ∧
   ((ok=true∧jq n=some ⟨fl,ty,lb,kd⟩)∨(ok=false∧jq n=none)):=by
 rcases KJ agn (k:=.int .i64 n) ⟨n,rfl⟩ rfl hm (fun e he=>(Cm e he).1) (z:=.agg [str ⟨#[]⟩,num 0,bl false,num 0]) kr true with ⟨h1,h2⟩|⟨e,he,hk,h1⟩
 ·refine⟨_,_,_,_,_,h1,by decide,by decide,.inr ⟨rfl,?_⟩⟩;have cK:∀ j:Int,(∃ e∈iP,e.1 = .int .i64 j)→n≠j:=fun j ⟨e,he,hj⟩ hn=>h2 e he (by rw [hj,hn]);unfold jq
  rw [if_neg (cK 0 ⟨tp,by simp [iP],rfl⟩),if_neg (cK 1 ⟨ur,by simp [iP],rfl⟩),if_neg (cK 2 ⟨vn,by simp [iP],rfl⟩),if_neg (cK 3 ⟨xi,by simp [iP],rfl⟩),if_neg (cK 4 ⟨ym,by simp [iP],rfl⟩),if_neg (cK 5 ⟨zS,by simp [iP],rfl⟩),
   if_neg (cK 6 ⟨Ck,by simp [iP],rfl⟩),if_neg (cK 7 ⟨Db,by simp [iP],rfl⟩),if_neg (cK 8 ⟨F8,by simp [iP],rfl⟩),if_neg (cK 9 ⟨I5,by simp [iP],rfl⟩),if_neg (cK 10 ⟨vo,by simp [iP],rfl⟩),if_neg (cK 11 ⟨yn,by simp [iP],rfl⟩),
   if_neg (cK 12 ⟨Cl,by simp [iP],rfl⟩),if_neg (cK 13 ⟨F9,by simp [iP],rfl⟩),if_neg (cK 14 ⟨LJ,by simp [iP],rfl⟩),if_neg (cK 15 ⟨SJ,by simp [iP],rfl⟩),if_neg (cK 16 ⟨acg,by simp [iP],rfl⟩)]
 unfold iP at he;simp only [dj,o3,or_false] at he;rcases he with rfl|rfl|rfl|rfl|rfl|rfl|rfl|rfl|rfl|rfl|rfl|rfl|rfl|rfl|rfl|rfl|rfl <;> (cases hk;exact⟨_,_,_,_,_,h1,by decide,by decide,.inl ⟨rfl,rfl⟩⟩)
section
theorem ach (n:Nat):(65536<(n:Int))=(65536<n):=by rw [eq_iff_iff];omega
theorem m9 {α:Type} (f:α→Int) {l:List α} {i:Nat} {u:α} (h:l[i]?=some u):bT f (l.drop i)=if f u=0 then bT f (l.drop (i+1)) else f u:=by have h1:=aq.1 h;rw [cr h1.1,h1.2];rfl
theorem OZ (x:Lb):Cn 247 [b8 x] (str x.name):=by refine fZ tt_ok [] 5 [.tmp 2] (fn:=Tryz.f247) Tryz.func247 rfl Tryz.call247 ⟨rfl,rfl,by simp⟩ fun K hK=>?_;simp only [dG,b8,ah];simp only [go_sem];exact hK _ rfl
section
attribute [local go_sem] aw ae b8 ah ai ak
theorem SK (g:FuncId) (l:List Lb) (hg:∀ x∈l,Cn g [b8 x] (str (Lb.name x))) (hl:l.length≤1048576):Cn 246 [.slice (l.map b8),.sc (.func (.func g) #[] #[])] (num (iN (l.map Lb.name))):=by
 refine fZ tt_ok [] 33 [.tmp 4] (fn:=Tryz.f246) Tryz.func246 rfl Tryz.call246 ⟨rfl,rfl,by simp⟩ fun K hK=>?_;simp only [go_sem];refine cZ tt_ok [] [5] 0 [0,1] (fun vs=>((l.length:Int)-Go.Eng.intOf (vs.headD .undef)).toNat) (fun vs=>∃ i:Nat,vs=[num i]∧1≤i∧(1<i→i≤l.length)∧iN (l.map Lb.name)=iN ((l.map Lb.name).drop (i-1))) (by omega) (by simp only [go_sem]) (⟨1,rfl,ax _,fun h=>absurd h (by decide),rfl⟩) fun vs hI Z1 dv=>?_;obtain⟨i,rfl,hi,hle,hinv⟩:=hI;simp only [go_sem];refine bQ (fun ix=>?_) (fun ix=>?_);·(have bR:i<l.length:=by simpa using ix);obtain⟨x,hx⟩:∃ x,l[i-1]?=some x:=⟨_,af (by omega)⟩;obtain⟨y,hy⟩:∃ y,l[i]?=some y:=⟨_,af bR⟩;have hw:=a7 i (by omega);(have ez:IntKind.i64.wrap ((i:Int)-1)=((i-1:Nat):Int):=by rw [IntWalk.i64_in _ (by omega)];omega);have jB:iN ((l.map Lb.name).drop (i-1))=if yc (Lb.name x) (Lb.name y)=0 then iN ((l.map Lb.name).drop i) else yc (Lb.name x) (Lb.name y):=F4 hi (by rw [ae,hx];rfl) (by rw [ae,hy];rfl);simp only [hw,ez,hx,hy,go_sem];refine dW tt_ok bU [pN,pN,pN,pN,pR,pR,pN,pN,pN,pN,pR,pR,pN,pN,pN] 0 kr ?_;simp only [hw,ez,hx,hy,go_sem];refine FF (by have h:=hg x (ay hx);simp only [dG,b8,ah] at h;exact h) ?_;simp only [hw,ez,hx,hy,go_sem];refine FF (by have h:=hg y (ay hy);simp only [dG,b8,ah] at h;exact h) ?_;simp only [hw,ez,hx,hy,go_sem];refine FF (Ci _ _) ?_;simp only [hw,ez,hx,hy,go_sem];refine bQ (fun mZ=>?_) (fun mZ=>?_);(·(have bM:5=iN (l.map Lb.name):=by rw [hinv,jB,agc (of_decide_eq_true mZ)];rfl);simp only [hw,ez,hx,hy,go_sem];exact hK _ (congrArg num bM));simp only [hw,ez,hx,hy,go_sem];refine bQ (fun nU=>?_) (fun nU=>?_);(·(have bM:1=iN (l.map Lb.name):=by rw [hinv,jB,agd (of_decide_eq_true nU)];rfl);simp only [hw,ez,hx,hy,go_sem];exact hK _ (congrArg num bM));have qM:yc (Lb.name x) (Lb.name y)=0:=age (of_decide_eq_false mZ) (of_decide_eq_false nU);simp only [hw,ez,hx,hy,go_sem];refine dv _ (fR (by omega) (by simp only [hw,ez,hx,hy,go_sem]) ?_ ?_) <;> simp only [eE,lk,reduceIte,zE];(·exact⟨i+1,rfl,by omega,fun _=>bR,by rw [hinv,jB,if_pos qM];rfl⟩);simp only [Go.Eng.intOf,bg];omega
 have hZ:¬ i<l.length:=by simpa using ix
 have bM:(0:Int)=iN (l.map Lb.name):=by rw [hinv];exact (Ap (by rw [aw];omega)).symm
 simp only [go_sem];exact hK _ (congrArg num bM)
end
section
attribute [local go_sem] aK bF aw de
theorem I6 (hG:bk.g=some 1) (b0 b1 b3 b4 b5 b6:bm) (hb:∀ n,7≤n→aS n b0=true∧aS n b1=true∧aS n b3=true∧aS n b4=true∧aS n b5=true∧aS n b6=true) (x:Ex) (hw:x.wt≤1048576):∃ r_,(fun w=>w=num (nN x)) r_∧bw ab 194 [cu x,.mp 2] ([b0,b1,.map iP 17,b3,b4,b5,b6]) r_ ([b0,b1,.map iP 17,b3,b4,b5,b6]):=by
 refine DN tt_ok [4,11] 77 [.tmp 4] (fn:=Tryz.f194) Tryz.func194 rfl Tryz.call194 ⟨rfl,rfl,by simp⟩ fun K hK=>?_;have lv:=fun n h=>(hb n h).1;have nn:=fun n h=>(hb n h).2.1;have j9:=fun n h=>(hb n h).2.2.1;have uu:=fun n h=>(hb n h).2.2.2.1;have uv:=fun n h=>(hb n h).2.2.2.2.1;have uw:=fun n h=>(hb n h).2.2.2.2.2;have gN:∀ n,(iP.all fun e=>aG n e.2.2)=true:=fun n=>Cm.below n;have GH:=x.yg;have hml:=x.mod_lt;have hwb:=x.eT;have PB:=x.ye;simp only [aT,aJ];obtain⟨fl,ty,kd,lb,ok,gy,hf,hkd,Nf⟩:=OY (mem:=[b0,b1,.map iP 17,b3,b4,b5,b6,.box [num x.kind,str x.mod,str x.name,str x.text,num x.num,.slice (bN x.types),.slice (x.labels.map b8),.slice (eC x.kids)]]) (b:=2) rfl x.kind;have l7:ab.underlying 9=some .string:=kr;have sl:∀ (a:ByteArray) (ty:TypeId),iH ab (Builtin.len_ #[9] ty) [.sc (.string a)]=some (num a.size):=fun a ty=>gF (P:=ab) (tt:=tt) (T:=9) a l7 ty;simp only [↓lv,↓nn,↓j9,↓uu,↓uv,↓uw,gN,zC,gy,sl,go_sem];refine bQ (fun uG=>?_) (fun uG=>?_);·(have bM:1=nN x:=by (rcases Nf with h|h);(·rw [h.1] at uG;cases uG);unfold nN;rw [h.2]);simp only [↓lv,↓nn,↓j9,↓uu,↓uv,↓uw,gN,zC,gy,sl,go_sem];exact hK _ _ ⟨congrArg num bM,rfl⟩
 have PX:jq x.kind=some ⟨fl,ty,lb,kd⟩:=by (rcases Nf with h|h);(·exact h.2);rw [h.1] at uG;cases uG
 have fX:nN x=(if mJ x fl ty lb kd=false then 1 else if 32<x.labels.length∨8<x.types.length∨65536<x.text.size then 7 else if wT x fl=true then 4 else if iN (x.labels.map Lb.name)≠0 then iN (x.labels.map Lb.name) else if x.kind=15∧x.name=x.text then 5 else bT n5 x.own):=by unfold nN;rw [PX]
 simp only [↓lv,↓nn,↓j9,↓uu,↓uv,↓uw,gN,zC,gy,sl,go_sem];refine dg (by have h:=W9 hG x fl ty kd lb hf (by omega) hkd;rw [aT] at h;simp only [aJ] at h;exact h) ?_;simp only [↓lv,↓nn,↓j9,↓uu,↓uv,↓uw,gN,zC,gy,sl,go_sem];refine bQ (fun jN=>?_) (fun jN=>?_);·(have bM:1=nN x:=by rw [fX,if_pos (by simpa using jN)]);simp only [↓lv,↓nn,↓j9,↓uu,↓uv,↓uw,gN,zC,gy,sl,go_sem];exact hK _ _ ⟨congrArg num bM,rfl⟩
 have r9:mJ x fl ty lb kd=true:=by simpa using jN
 rw [r9,if_neg (by simp)] at fX;simp only [↓lv,↓nn,↓j9,↓uu,↓uv,↓uw,gN,zC,gy,sl,go_sem];refine dI tt_ok [4,11] [27] 9 [2,4,5,18] (fun vs=>vs=[bl (decide (32<x.labels.length)||decide (8<x.types.length)||decide (65536<x.text.size))]) (fun Z1 dv=>?_) ?_;·simp only [↓lv,↓nn,↓j9,↓uu,↓uv,↓uw,gN,zC,gy,sl,go_sem];refine gA tt_ok ?_;repeat' (simp only [↓lv,↓nn,↓j9,↓uu,↓uv,↓uw,gN,zC,gy,sl,go_sem];first|refine bQ (fun hg=>?_) (fun hg=>?_)|(refine dv _ (eI (by omega) (by simp only [↓lv,↓nn,↓j9,↓uu,↓uv,↓uw,gN,zC,gy,sl,go_sem]) ?_);simp only [eE,lk,reduceIte,zE];exact congrArg (fun b=>[bl b]) (by clear hK dv;clear fX Nf gy;simp_all [Zb,agi,ach] <;> (intros;omega))))
 intro vs hJ;obtain rfl:=hJ;simp only [↓lv,↓nn,↓j9,↓uu,↓uv,↓uw,gN,zC,gy,sl,go_sem];refine bQ (fun mZ=>?_) (fun mZ=>?_);·(have nh:32<x.labels.length∨8<x.types.length∨65536<x.text.size:=by simpa [or_assoc] using mZ);(have bM:7=nN x:=by rw [fX,if_pos nh]);simp only [↓lv,↓nn,↓j9,↓uu,↓uv,↓uw,gN,zC,gy,sl,go_sem];exact hK _ _ ⟨congrArg num bM,rfl⟩
 have nh:¬ (32<x.labels.length∨8<x.types.length∨65536<x.text.size):=by intro h;(have h2:(decide (32<x.labels.length)||decide (8<x.types.length)||decide (65536<x.text.size))=true:=by simpa [or_assoc] using h);rw [mZ] at h2;cases h2
 rw [if_neg nh] at fX;simp only [↓lv,↓nn,↓j9,↓uu,↓uv,↓uw,gN,zC,gy,sl,go_sem];refine dg (by have h:=I4 hG x fl ty kd lb hf (by omega) (by omega);rw [aT] at h;simp only [aJ] at h;exact h) ?_;simp only [↓lv,↓nn,↓j9,↓uu,↓uv,↓uw,gN,zC,gy,sl,go_sem];refine bQ (fun vi=>?_) (fun vi=>?_);·(have bM:4=nN x:=by rw [fX,if_pos vi]);simp only [↓lv,↓nn,↓j9,↓uu,↓uv,↓uw,gN,zC,gy,sl,go_sem];exact hK _ _ ⟨congrArg num bM,rfl⟩
 rw [if_neg (by rw [vi];simp)] at fX;simp only [↓lv,↓nn,↓j9,↓uu,↓uv,↓uw,gN,zC,gy,sl,go_sem];refine dg (SK 247 x.labels (fun l _=>OZ l) (by omega)) ?_;simp only [↓lv,↓nn,↓j9,↓uu,↓uv,↓uw,gN,zC,gy,sl,go_sem];refine bQ (fun m7=>?_) (fun m7=>?_);·(have cK:iN (x.labels.map Lb.name)≠0:=by simpa using m7);(have bM:iN (x.labels.map Lb.name)=nN x:=by rw [fX,if_pos cK]);simp only [↓lv,↓nn,↓j9,↓uu,↓uv,↓uw,gN,zC,gy,sl,go_sem];exact hK _ _ ⟨congrArg num bM,rfl⟩
 have amc:iN (x.labels.map Lb.name)=0:=by simpa using m7
 rw [if_neg (by simp [amc])] at fX;simp only [↓lv,↓nn,↓j9,↓uu,↓uv,↓uw,gN,zC,gy,sl,go_sem];refine dI tt_ok [4,11] [63] 9 [2,4,18,27,44,52] (fun vs=>vs=[bl (decide (x.kind=15)&&decide (x.name=x.text))]) (fun Z2 jk=>?_) ?_;·simp only [↓lv,↓nn,↓j9,↓uu,↓uv,↓uw,gN,zC,gy,sl,go_sem];refine gA tt_ok ?_;repeat' (simp only [↓lv,↓nn,↓j9,↓uu,↓uv,↓uw,gN,zC,gy,sl,go_sem];first|refine bQ (fun hg=>?_) (fun hg=>?_)|(refine jk _ (eI (by omega) (by simp only [↓lv,↓nn,↓j9,↓uu,↓uv,↓uw,gN,zC,gy,sl,go_sem]) ?_);simp only [eE,lk,reduceIte,zE];exact congrArg (fun b=>[bl b]) (by clear hK jk;clear fX Nf gy;simp_all)))
 intro vs hJ;obtain rfl:=hJ;simp only [↓lv,↓nn,↓j9,↓uu,↓uv,↓uw,gN,zC,gy,sl,go_sem];refine bQ (fun SL=>?_) (fun SL=>?_);·(have bM:5=nN x:=by rw [fX,if_pos (by simpa using SL)]);simp only [↓lv,↓nn,↓j9,↓uu,↓uv,↓uw,gN,zC,gy,sl,go_sem];exact hK _ _ ⟨congrArg num bM,rfl⟩
 rw [if_neg (by simpa using SL)] at fX;simp only [↓lv,↓nn,↓j9,↓uu,↓uv,↓uw,gN,zC,gy,sl,go_sem];refine dg (by have h:=M0 x (by have:=x.rD;omega);rw [aT] at h;simp only [aJ] at h;exact⟨_,rfl,h⟩) ?_;have zR:=bP Ty.size Ty.size_pos x.own;have hlen:(bN x.own).length=x.own.length:=aK _;have O0:∀ u∈x.own,u.wt<x.wt:=fun u hu=>Ex.Le hu;obtain⟨ps,qd⟩:∃ ps,ps=x.own:=⟨_,rfl⟩;rw [← qd] at zR O0 PB ⊢;simp only [↓lv,↓nn,↓j9,↓uu,↓uv,↓uw,gN,zC,gy,sl,go_sem];refine cZ tt_ok [4,11] [67] 9 [18,27,44,52,63,65,66] (fun vs=>((ps.length:Int)-Go.Eng.intOf (vs.headD .undef)).toNat) (fun vs=>∃ i:Nat,vs=[num i]∧i≤ps.length∧bT n5 ps=bT n5 (ps.drop i)) (by omega) (by simp only [↓lv,↓nn,↓j9,↓uu,↓uv,↓uw,gN,zC,gy,sl,go_sem]) (⟨0,rfl,aW _,rfl⟩) fun vs hI Z3 pY=>?_;obtain⟨i,rfl,hi,hinv⟩:=hI;simp only [↓lv,↓nn,↓j9,↓uu,↓uv,↓uw,gN,zC,gy,sl,go_sem];refine bQ (fun aci=>?_) (fun aci=>?_);·(have bR:i<ps.length:=by simpa using aci);obtain⟨u,hu⟩:∃ u,ps[i]?=some u:=⟨_,af bR⟩;have gb:=a7 i (by omega);have oC:=m9 n5 hu;simp only [↓lv,↓nn,↓j9,↓uu,↓uv,↓uw,gN,zC,gb,bo,hu,az,ah,gy,sl,go_sem];refine dg (by have h:=xh hG u (by have:=u.cT;have:=O0 u (ay hu);omega) (Ty.af2 (by have:=O0 u (ay hu);omega));rw [az] at h;simp only [ah] at h;exact⟨_,rfl,h⟩) ?_;simp only [↓lv,↓nn,↓j9,↓uu,↓uv,↓uw,gN,zC,gb,bo,hu,az,ah,gy,sl,go_sem];refine bQ (fun acj=>?_) (fun acj=>?_);(·(have cK:n5 u≠0:=by simpa using acj);(have bM:n5 u=nN x:=by rw [fX,← qd,hinv,oC,if_neg cK]);simp only [↓lv,↓nn,↓j9,↓uu,↓uv,↓uw,gN,zC,gb,bo,hu,az,ah,gy,sl,go_sem];exact hK _ _ ⟨congrArg num bM,rfl⟩);(have hz:n5 u=0:=by simpa using acj);simp only [↓lv,↓nn,↓j9,↓uu,↓uv,↓uw,gN,zC,gb,bo,hu,az,ah,gy,sl,go_sem];refine pY _ (fR (by omega) (by simp only [↓lv,↓nn,↓j9,↓uu,↓uv,↓uw,gN,zC,gb,bo,hu,az,ah,gy,sl,go_sem]) ?_ ?_) <;> simp only [eE,lk,reduceIte,zE];(·exact⟨i+1,rfl,bR,by rw [hinv,oC,if_pos hz]⟩);simp only [Go.Eng.intOf,bg];omega
 have hZ:¬ i<ps.length:=by simpa using aci
 have bM:0=nN x:=by rw [fX,← qd,hinv,cH (by omega)];rfl
 simp only [↓lv,↓nn,↓j9,↓uu,↓uv,↓uw,gN,zC,gy,sl,go_sem];exact hK _ _ ⟨congrArg num bM,rfl⟩
end
end
section
theorem amd (a b c:Nat):decide (((a+b+c:Nat):Int)=0)=(decide (a=0)&&decide (b=0)&&decide (c=0)):=by
 by_cases h:a+b+c=0;·(have:a=0∧b=0∧c=0:=by omega);simp [this]
 rw [decide_eq_false (by omega)];symm;rw [ad3];intro hc;simp only [aD,decide_eq_true_eq] at hc;omega
section
attribute [local go_sem] aw
theorem SM (g:FuncId) (q:Pm→Bool) (l:List Pm) (hg:∀ x∈l,Cn g [cj x] (bl (q x))) (hl:l.length≤1048576):∃ r_,(fun w=>∃ k:Int,w=num k∧decide (0≤k)=l.any q) r_∧cx ab 232 [.slice (l.map cj),.sc (.func (.func g) #[] #[])] r_:=by
 refine fZ tt_ok [] 19 [.tmp 4] (fn:=Tryz.f232) Tryz.func232 rfl Tryz.call232 ⟨rfl,rfl,by simp⟩ fun K hK=>?_;simp only [go_sem];refine cZ tt_ok [] [8] 0 [0,1,7] (fun vs=>((l.length:Int)-Go.Eng.intOf (vs.headD .undef)).toNat) (fun vs=>∃ i:Nat,vs=[num i]∧i≤l.length∧∀ j<i,∀ x,l[j]?=some x→q x=false) (by omega) (by simp only [go_sem]) (⟨0,rfl,aW _,fun j hj=>absurd hj (cf j)⟩) fun vs hI Z1 dv=>?_;obtain⟨i,rfl,hi,cD⟩:=hI;simp only [go_sem];refine bQ (fun kQ=>?_) (fun kQ=>?_);·(have bR:i<l.length:=by simpa using kQ);have hw:=a7 i (by omega);obtain⟨x,hx⟩:∃ x,l[i]?=some x:=⟨_,af bR⟩;simp only [hw,ae,hx,cj,ah,ai,ak,go_sem];refine dg (by have h:=hg x (ay hx);simp only [dG,cj,ah] at h;exact h) ?_;simp only [hw,ae,hx,cj,ah,ai,ak,go_sem];refine bQ (fun gw=>?_) (fun gw=>?_);(·(have bM:decide (0≤(i:Int))=l.any q:=by rw [mr hx gw];exact decide_eq_true (CN i));simp only [hw,ae,hx,cj,ah,ai,ak,go_sem];exact hK _ ⟨_,rfl,bM⟩);simp only [hw,ae,hx,cj,ah,ai,ak,go_sem];refine dv _ (fR (by omega) (by simp only [hw,ae,hx,cj,ah,ai,ak,go_sem]) ?_ ?_) <;> simp only [eE,lk,reduceIte,zE];(·refine⟨i+1,rfl,bR,fun j hj=>?_⟩;(rcases br j i with h|h);(·exact cD j h);(obtain rfl:j=i:=by omega);intro y hy;rw [hx] at hy;cases hy;exact gw);simp only [Go.Eng.intOf,bg];omega
 have hZ:¬ i<l.length:=by simpa using kQ
 have bM:decide (0≤(-1:Int))=l.any q:=(any_none fun j hj=>cD j (by omega)).symm ▸ rfl;simp only [go_sem];exact hK _ ⟨_,rfl,bM⟩
end
theorem xj (g:FuncId) (q:Pm→Bool) (l:List Pm) (hg:∀ x∈l,Cn g [cj x] (bl (q x))) (hl:l.length≤1048576):Cn 180 [.slice (l.map cj),.sc (.func (.func g) #[] #[])] (bl (l.any q)):=by refine fZ tt_ok [] 9 [.tmp 4] (fn:=Tryz.f180) Tryz.func180 rfl Tryz.call180 ⟨rfl,rfl,by simp⟩ fun K hK=>?_;simp only [go_sem];refine cF (SM g q l hg hl) ?_;rintro _ ⟨k,rfl,hk⟩;simp only [go_sem];exact hK _ (congrArg bl hk)
theorem ack (p:Pm):Cn 181 [cj p] (bl (!eh p.bound)):=by refine fZ tt_ok [] 7 [.tmp 2] (fn:=Tryz.f181) Tryz.func181 rfl Tryz.call181 ⟨rfl,rfl,by simp⟩ fun K hK=>?_;simp only [dG,cj,ah];simp only [go_sem];refine dg (by have h:=jE p.bound;rw [az] at h;exact h) ?_;simp only [go_sem];exact hK _ rfl
theorem acm (p:Pm):Cn 183 [cj p] (bl (decide (p.dD<0)||decide (2<p.dD))):=by refine fZ tt_ok [] 11 [.tmp 2] (fn:=Tryz.f183) Tryz.func183 rfl Tryz.call183 ⟨rfl,rfl,by simp⟩ fun K hK=>?_;simp only [dG,cj,ah];repeat' (simp only [go_sem];first|refine bQ (fun hg=>?_) (fun hg=>?_)|(exact hK _ (congrArg bl (by clear hK;simp_all <;> (intros;omega)))))
theorem acn (p:Pm):Cn 185 [cj p] (bl (!decide (p.dD=0))):=by refine fZ tt_ok [] 6 [.tmp 2] (fn:=Tryz.f185) Tryz.func185 rfl Tryz.call185 ⟨rfl,rfl,by simp⟩ fun K hK=>?_;simp only [dG,cj,ah];simp only [go_sem];exact hK _ (congrArg bl (by simp_all))
theorem aco (p:Pm):Cn 186 [cj p] (bl (!ka p.name)):=by refine fZ tt_ok [] 7 [.tmp 2] (fn:=Tryz.f186) Tryz.func186 rfl Tryz.call186 ⟨rfl,rfl,by simp⟩ fun K hK=>?_;simp only [dG,cj,ah];simp only [go_sem];refine dg (qB _) ?_;simp only [go_sem];exact hK _ rfl
theorem acp (d x:Dc):∃ r_,(fun w=>w=bl (decide (x.name=d.name))) r_∧bw ab 135 [bI x,.ptr 0 0] ([.box (fi d)]) r_ ([.box (fi d)]):=by refine DN tt_ok [] 9 [.tmp 3] (fn:=Tryz.f135) Tryz.func135 rfl Tryz.call135 ⟨rfl,rfl,by simp⟩ fun K hK=>?_;simp only [dG,fi,bI,ah,aJ];simp only [de,go_sem];exact hK _ _ ⟨rfl,rfl⟩
theorem acq (b0:bm) (lv:∀ n,2≤n→aS n b0=true) (y x:Im):∃ r_,(fun w=>w=bl (decide (x.path=y.path)||decide (x.alias=y.alias))) r_∧bw ab 131 [cA x,.ptr 1 0] ([b0,.box [str y.path,str y.alias]]) r_ ([b0,.box [str y.path,str y.alias]]):=by refine DN tt_ok [] 16 [.tmp 3] (fn:=Tryz.f131) Tryz.func131 rfl Tryz.call131 ⟨rfl,rfl,by simp⟩ fun K hK=>?_;have CY:=lv 2 (ax _);simp only [cA];repeat' (simp only [↓CY,de,go_sem];first|refine bQ (fun hg=>?_) (fun hg=>?_)|(exact hK _ _ ⟨congrArg bl (by simp_all),rfl⟩))
theorem zp (x:Ex) (h1:x.types.length≤1048576) (h2:x.labels.length≤1048576) (h3:x.kids.length≤1048576):Cn 184 [cu x] (bl (mK x)):=by refine fZ tt_ok [] 40 [.tmp 2] (fn:=Tryz.f184) Tryz.func184 rfl Tryz.call184 ⟨rfl,rfl,by simp⟩ fun K hK=>?_;have gb:IntKind.i64.wrap ((x.types.length:Int)+x.labels.length)=((x.types.length+x.labels.length:Nat):Int):=pH _ _ (by omega);have im:IntKind.i64.wrap (((x.types.length+x.labels.length:Nat):Int)+x.kids.length)=((x.types.length+x.labels.length+x.kids.length:Nat):Int):=pH _ _ (by omega);simp only [aT,aJ];repeat' (simp only [aK,bF,aw,de,gb,im,go_sem];first|refine bQ (fun hg=>?_) (fun hg=>?_)|(exact hK _ (congrArg bl (by clear hK gb im h1 h2 h3;unfold mK jQ;first|(rw [amd];simp_all;done)|(simp_all;done)|(simp_all <;> omega)))))
section
attribute [local go_sem] aw
theorem SN (d:Dc) (g:FuncId) (q:Dc→Bool) (l:List Dc) (hg:∀ x∈l,∃ r,(fun v=>v=bl (q x)) r∧bw ab g [bI x,.ptr 0 0] ([.box (fi d)]) r ([.box (fi d)])) (hl:l.length≤1048576):∃ r_,(fun w=>∃ k:Int,w=num k∧decide (0≤k)=l.any q) r_∧bw ab 32 [.slice (l.map bI),.dU (.func g) [] [.ptr 0 0]] ([.box (fi d)]) r_ ([.box (fi d)]):=by
 refine DN tt_ok [] 19 [.tmp 4] (fn:=Tryz.f32) Tryz.func32 rfl Tryz.call32 ⟨rfl,rfl,by simp⟩ fun K hK=>?_;have iE:∀ n,(fi d).all (aG n)=true:=fun n=>rfl;simp only [iE,go_sem];refine cZ tt_ok [] [8] 1 [0,1,7] (fun vs=>((l.length:Int)-Go.Eng.intOf (vs.headD .undef)).toNat) (fun vs=>∃ i:Nat,vs=[num i]∧i≤l.length∧∀ j<i,∀ x,l[j]?=some x→q x=false) (by omega) (by simp only [iE,go_sem]) (⟨0,rfl,aW _,fun j hj=>absurd hj (cf j)⟩) fun vs hI Z1 dv=>?_;obtain⟨i,rfl,hi,cD⟩:=hI;simp only [iE,go_sem];refine bQ (fun kQ=>?_) (fun kQ=>?_);·(have bR:i<l.length:=by simpa using kQ);have hw:=a7 i (by omega);obtain⟨x,hx⟩:∃ x,l[i]?=some x:=⟨_,af bR⟩;simp only [iE,hw,ae,hx,bI,ah,aJ,ai,ak,go_sem];refine xv (by have h:=hg x (ay hx);simp only [dG,bI,ah,aJ] at h;exact h) ?_;simp only [iE,hw,ae,hx,bI,ah,aJ,ai,ak,go_sem];refine bQ (fun gw=>?_) (fun gw=>?_);(·(have bM:decide (0≤(i:Int))=l.any q:=by rw [mr hx gw];exact decide_eq_true (CN i));simp only [iE,hw,ae,hx,bI,ah,aJ,ai,ak,go_sem];exact hK _ _ ⟨⟨_,rfl,bM⟩,rfl⟩);simp only [iE,hw,ae,hx,bI,ah,aJ,ai,ak,go_sem];refine dv _ (fR (by omega) (by simp only [iE,hw,ae,hx,bI,ah,aJ,ai,ak,go_sem]) ?_ ?_) <;> simp only [eE,lk,reduceIte,zE];(·refine⟨i+1,rfl,bR,fun j hj=>?_⟩;(rcases br j i with h|h);(·exact cD j h);(obtain rfl:j=i:=by omega);intro y hy;rw [hx] at hy;cases hy;exact gw);simp only [Go.Eng.intOf,bg];omega
 have hZ:¬ i<l.length:=by simpa using kQ
 have bM:decide (0≤(-1:Int))=l.any q:=(any_none fun j hj=>cD j (by omega)).symm ▸ rfl;simp only [iE,go_sem];exact hK _ _ ⟨⟨_,rfl,bM⟩,rfl⟩
end
theorem SO (d:Dc) (g:FuncId) (q:Dc→Bool) (l:List Dc) (hg:∀ x∈l,∃ r,(fun v=>v=bl (q x)) r∧bw ab g [bI x,.ptr 0 0] ([.box (fi d)]) r ([.box (fi d)])) (hl:l.length≤1048576):∃ r_,(fun w=>w=bl (l.any q)) r_∧bw ab 134 [.slice (l.map bI),.dU (.func g) [] [.ptr 0 0]] ([.box (fi d)]) r_ ([.box (fi d)]):=by refine DN tt_ok [] 9 [.tmp 4] (fn:=Tryz.f134) Tryz.func134 rfl Tryz.call134 ⟨rfl,rfl,by simp⟩ fun K hK=>?_;have iE:∀ n,(fi d).all (aG n)=true:=fun n=>rfl;simp only [iE,go_sem];refine cS (SN d g q l hg hl) ?_;rintro _ ⟨k,rfl,hk⟩;simp only [iE,go_sem];exact hK _ _ ⟨congrArg bl hk,rfl⟩
section
attribute [local go_sem] aw
theorem SP (b0:bm) (lv:∀ n,2≤n→aS n b0=true) (y:Im) (g:FuncId) (q:Im→Bool) (l:List Im) (hg:∀ x∈l,∃ r,(fun v=>v=bl (q x)) r∧bw ab g [cA x,.ptr 1 0] ([b0,.box [str y.path,str y.alias]]) r ([b0,.box [str y.path,str y.alias]])) (hl:l.length≤1048576):∃ r_,(fun w=>∃ k:Int,w=num k∧decide (0≤k)=l.any q) r_∧bw ab 52 [.slice (l.map cA),.dU (.func g) [] [.ptr 1 0]] ([b0,.box [str y.path,str y.alias]]) r_ ([b0,.box [str y.path,str y.alias]]):=by
 refine DN tt_ok [] 19 [.tmp 4] (fn:=Tryz.f52) Tryz.func52 rfl Tryz.call52 ⟨rfl,rfl,by simp⟩ fun K hK=>?_;have CY:=lv 2 (ax _);simp only [↓CY,go_sem];refine cZ tt_ok [] [8] 2 [0,1,7] (fun vs=>((l.length:Int)-Go.Eng.intOf (vs.headD .undef)).toNat) (fun vs=>∃ i:Nat,vs=[num i]∧i≤l.length∧∀ j<i,∀ x,l[j]?=some x→q x=false) (by omega) (by simp only [↓CY,go_sem]) (⟨0,rfl,aW _,fun j hj=>absurd hj (cf j)⟩) fun vs hI Z1 dv=>?_;obtain⟨i,rfl,hi,cD⟩:=hI;simp only [↓CY,go_sem];refine bQ (fun kQ=>?_) (fun kQ=>?_);·(have bR:i<l.length:=by simpa using kQ);have hw:=a7 i (by omega);obtain⟨x,hx⟩:∃ x,l[i]?=some x:=⟨_,af bR⟩;simp only [↓CY,hw,ae,hx,cA,go_sem];refine xv (by have h:=hg x (ay hx);simp only [cA] at h;exact h) ?_;simp only [↓CY,hw,ae,hx,cA,go_sem];refine bQ (fun gw=>?_) (fun gw=>?_);(·(have bM:decide (0≤(i:Int))=l.any q:=by rw [mr hx gw];exact decide_eq_true (CN i));simp only [↓CY,hw,ae,hx,cA,go_sem];exact hK _ _ ⟨⟨_,rfl,bM⟩,rfl⟩);simp only [↓CY,hw,ae,hx,cA,go_sem];refine dv _ (fR (by omega) (by simp only [↓CY,hw,ae,hx,cA,go_sem]) ?_ ?_) <;> simp only [eE,lk,reduceIte,zE];(·refine⟨i+1,rfl,bR,fun j hj=>?_⟩;(rcases br j i with h|h);(·exact cD j h);(obtain rfl:j=i:=by omega);intro y hy;rw [hx] at hy;cases hy;exact gw);simp only [Go.Eng.intOf,bg];omega
 have hZ:¬ i<l.length:=by simpa using kQ
 have bM:decide (0≤(-1:Int))=l.any q:=(any_none fun j hj=>cD j (by omega)).symm ▸ rfl;simp only [↓CY,go_sem];exact hK _ _ ⟨⟨_,rfl,bM⟩,rfl⟩
end
theorem SQ (b0:bm) (lv:∀ n,2≤n→aS n b0=true) (y:Im) (g:FuncId) (q:Im→Bool) (l:List Im) (hg:∀ x∈l,∃ r,(fun v=>v=bl (q x)) r∧bw ab g [cA x,.ptr 1 0] ([b0,.box [str y.path,str y.alias]]) r ([b0,.box [str y.path,str y.alias]])) (hl:l.length≤1048576):∃ r_,(fun w=>w=bl (l.any q)) r_∧bw ab 17 [.slice (l.map cA),.dU (.func g) [] [.ptr 1 0]] ([b0,.box [str y.path,str y.alias]]) r_ ([b0,.box [str y.path,str y.alias]]):=by refine DN tt_ok [] 9 [.tmp 4] (fn:=Tryz.f17) Tryz.func17 rfl Tryz.call17 ⟨rfl,rfl,by simp⟩ fun K hK=>?_;have CY:=lv 2 (ax _);simp only [↓CY,go_sem];refine cS (SP b0 lv y g q l hg hl) ?_;rintro _ ⟨k,rfl,hk⟩;simp only [↓CY,go_sem];exact hK _ _ ⟨congrArg bl hk,rfl⟩
end
section
theorem tq (d:Dc):pK d=(!(d.deprecated && !d.exported || !decide (d.note=⟨#[]⟩) && !d.deprecated) &&
  (if d.kind=0 then !(d.params.any (fun p=>!eh p.bound)) && !(d.params.any (fun p=>decide (p.dD<0)||decide (2<p.dD)))&&mK d.expr&&decide (d.mod=⟨#[]⟩)&&decide (d.target=⟨#[]⟩)
   else if d.kind=1 then !(d.params.any (fun p=>!decide (p.dD=0)))&&eh d.lower&&eh d.upper&&decide (d.mod=⟨#[]⟩)&&decide (d.target=⟨#[]⟩)
   else if d.kind=2 then decide (d.params.length=0)&&eh d.lower&&eh d.upper&&eh d.type&&mK d.expr else false)):=by rw [asX];rfl
section
attribute [local go_sem] aK bF aw de
theorem I7 (d:Dc) (hp:d.params.length≤1048576) (h1:d.expr.types.length≤1048576) (h2:d.expr.labels.length≤1048576) (h3:d.expr.kids.length≤1048576)  : Cn 132 [bI d] (bl (pK d)):=by
  refine fZ tt_ok [1] 107 [.tmp 2] (fn:=Tryz.f132) Tryz.func132 rfl Tryz.call132 ⟨rfl,rfl,by simp⟩ fun K hK=>?_;have Dd:=tq d;have Gx:=xj 181 (fun p=>!eh p.bound) d.params (fun p _=>ack p) hp;have G3:=xj 183 (fun p=>decide (p.dD<0)||decide (2<p.dD)) d.params (fun p _=>acm p) hp;have Zd:=xj 185 (fun p=>!decide (p.dD=0)) d.params (fun p _=>acn p) hp;obtain⟨p1,hp1⟩:∃ b,d.params.any (fun p=>!eh p.bound)=b:=⟨_,rfl⟩;obtain⟨p2,VI⟩:∃ b,d.params.any (fun p=>decide (p.dD<0)||decide (2<p.dD))=b:=⟨_,rfl⟩;obtain⟨p3,hp3⟩:∃ b,d.params.any (fun p=>!decide (p.dD=0))=b:=⟨_,rfl⟩;rw [hp1] at Gx Dd;rw [VI] at G3 Dd;rw [hp3] at Zd Dd;clear hp1 VI hp3;obtain⟨zl,CT⟩:∃ b,eh d.lower=b:=⟨_,rfl⟩;obtain⟨zu,hzu⟩:∃ b,eh d.upper=b:=⟨_,rfl⟩;obtain⟨zt,hzt⟩:∃ b,eh d.type=b:=⟨_,rfl⟩;obtain⟨zx,PF⟩:∃ b,mK d.expr=b:=⟨_,rfl⟩;obtain⟨zm,sd⟩:∃ b,decide (d.mod=⟨#[]⟩)=b:=⟨_,rfl⟩;obtain⟨zg,Ec⟩:∃ b,decide (d.target=⟨#[]⟩)=b:=⟨_,rfl⟩;obtain⟨zn,Ed⟩:∃ b,decide (d.note=⟨#[]⟩)=b:=⟨_,rfl⟩;rw [CT,hzu,hzt,PF,sd,Ec,Ed] at Dd;simp only [dG,bI,ah,aJ];simp only [sd,Ec,Ed,go_sem];refine dI tt_ok [1] [22] 1 [1,2] (fun vs=>vs=[bl (d.deprecated && !d.exported || !zn && !d.deprecated)]) (fun Z1 dv=>?_) ?_;·simp only [sd,Ec,Ed,go_sem];refine gA tt_ok ?_;repeat' (simp only [sd,Ec,Ed,go_sem];first|refine bQ (fun hg=>?_) (fun hg=>?_)|(refine dv _ (eI (by omega) (by simp only [sd,Ec,Ed,go_sem]) ?_);simp only [eE,lk,reduceIte,zE];exact congrArg (fun b=>[bl b]) (by clear hK dv;first|(simp only [*,aO,aE,aL,aF,aN,aM,aV,aU,aQ,aP,aY];done)|simp_all)))
  ·intro vs hJ;obtain rfl:=hJ;simp only [sd,Ec,Ed,go_sem];refine bQ (fun Ga=>?_) (fun Ga=>?_);(·simp only [sd,Ec,Ed,go_sem];exact hK _ (congrArg bl (by clear hK Gx G3 Zd;rw [Dd];clear Dd;first|(simp only [*,aO,aE,aL,aF,aN,aM,aV,aU,aQ,aP,aY,if_false,if_true,reduceIte,kI];done)|(simp_all;done))));·simp only [sd,Ec,Ed,go_sem];refine dg (Gx) ?_;simp only [sd,Ec,Ed,go_sem];refine bQ (fun vg=>?_) (fun vg=>?_);(·have Dz:d.kind=0:=of_decide_eq_true vg;simp only [sd,Ec,Ed,go_sem];refine dg (G3) ?_;repeat' (simp only [sd,Ec,Ed,go_sem];first|refine bQ (fun hg=>?_) (fun hg=>?_)|refine dg (by have h:=zp d.expr (by omega) (by omega) (by omega);rw [PF,aT] at h;simp only [aJ] at h;exact h) ?_|(exact hK _ (congrArg bl (by clear hK Gx G3 Zd;rw [Dd];clear Dd;first|(simp only [*,aO,aE,aL,aF,aN,aM,aV,aU,aQ,aP,aY,if_false,if_true,reduceIte,kI];done)|(simp_all;done))))));·have Dz:¬ d.kind=0:=of_decide_eq_false vg;simp only [sd,Ec,Ed,go_sem];refine bQ (fun LK=>?_) (fun LK=>?_);(·have iA:d.kind=1:=of_decide_eq_true LK;simp only [sd,Ec,Ed,go_sem];refine dg (Zd) ?_;repeat' (simp only [sd,Ec,Ed,go_sem];first|refine bQ (fun hg=>?_) (fun hg=>?_)|refine dg (by have h:=jE d.lower;rw [CT,az] at h;exact h) ?_|refine dg (by have h:=jE d.upper;rw [hzu,az] at h;exact h) ?_|(exact hK _ (congrArg bl (by clear hK Gx G3 Zd;rw [Dd];clear Dd;first|(simp only [*,aO,aE,aL,aF,aN,aM,aV,aU,aQ,aP,aY,if_false,if_true,reduceIte,kI];done)|(simp_all;done))))));·have iA:¬ d.kind=1:=of_decide_eq_false LK;simp only [sd,Ec,Ed,go_sem];refine bQ (fun acs=>?_) (fun acs=>?_);(·have lr:d.kind=2:=of_decide_eq_true acs;simp only [sd,Ec,Ed,go_sem];refine bQ (fun LL=>?_) (fun LL=>?_);(·(have ame:decide (d.params.length=0)=true:=by simpa only [ci0] using LL);simp only [sd,Ec,Ed,go_sem];refine dg (by have h:=jE d.lower;rw [CT,az] at h;exact h) ?_;repeat' (simp only [sd,Ec,Ed,go_sem];first|refine bQ (fun hg=>?_) (fun hg=>?_)|refine dg (by have h:=jE d.upper;rw [hzu,az] at h;exact h) ?_|refine dg (by have h:=jE d.type;rw [hzt,az] at h;exact h) ?_|refine dg (by have h:=zp d.expr (by omega) (by omega) (by omega);rw [PF,aT] at h;simp only [aJ] at h;exact h) ?_|(exact hK _ (congrArg bl (by clear hK Gx G3 Zd;rw [Dd];clear Dd;first|(simp only [*,aO,aE,aL,aF,aN,aM,aV,aU,aQ,aP,aY,if_false,if_true,reduceIte,kI];done)|(simp_all;done))))));·(have ame:decide (d.params.length=0)=false:=by simpa only [ci0] using LL);simp only [sd,Ec,Ed,go_sem];exact hK _ (congrArg bl (by clear hK Gx G3 Zd;rw [Dd];clear Dd;first|(simp only [*,aO,aE,aL,aF,aN,aM,aV,aU,aQ,aP,aY,if_false,if_true,reduceIte,kI];done)|(simp_all;done))));·have lr:¬ d.kind=2:=of_decide_eq_false acs;simp only [sd,Ec,Ed,go_sem];exact hK _ (congrArg bl (by clear hK Gx G3 Zd;rw [Dd];clear Dd;first|(simp only [*,aO,aE,aL,aF,aN,aM,aV,aU,aQ,aP,aY,if_false,if_true,reduceIte,kI];done)|(simp_all;done)))
end
end
section
theorem Ng (d:Dc):IF d=(!(d.params.any (fun p=>!ka p.name))&&(if d.kind=0 then ka d.name else if d.kind=1 then dJ d.name else (dJ d.name&&dJ d.target||ka d.name&&ka d.target) && !decide (d.mod=⟨#[]⟩)&&nT d.mod)):=rfl
section
attribute [local go_sem] aw de
theorem O1 (hG:bk.g=some 1) (d:Dc) (hp:d.params.length≤1048576) (hm:d.mod.size≤1048576):Cn 133 [bI d] (bl (IF d)):=by
 refine fZ tt_ok [8] 48 [.tmp 2] (fn:=Tryz.f133) Tryz.func133 rfl Tryz.call133 ⟨rfl,rfl,by simp⟩ fun K hK=>?_;have PK:=Ng d;have hA4:=xj 186 (fun p=>!ka p.name) d.params (fun p _=>aco p) hp;obtain⟨p4,hp4⟩:∃ b,d.params.any (fun p=>!ka p.name)=b:=⟨_,rfl⟩;rw [hp4] at hA4 PK;clear hp4;obtain⟨zm,sd⟩:∃ b,decide (d.mod=⟨#[]⟩)=b:=⟨_,rfl⟩;rw [sd] at PK;simp only [dG,bI,ah,aJ];simp only [sd,go_sem];refine dg (hA4) ?_;simp only [sd,go_sem];refine bQ (fun hc6=>?_) (fun hc6=>?_) <;> simp only [sd,go_sem];·exact hK _ (congrArg bl (by clear hK hA4;rw [PK];clear PK;first|(simp only [*,aO,aE,aL,aF,aN,aM,if_false,if_true,reduceIte];done)|(simp_all;done)))
 refine bQ (fun kQ=>?_) (fun kQ=>?_);·have Dz:d.kind=0:=of_decide_eq_true kQ;simp only [sd,go_sem];refine dg (qB _) ?_;simp only [sd,go_sem];exact hK _ (congrArg bl (by clear hK hA4;rw [PK];clear PK;first|(simp only [*,aO,aE,aL,aF,aN,aM,if_false,if_true,reduceIte];done)|(simp_all;done)))
 have Dz:¬ d.kind=0:=of_decide_eq_false kQ;simp only [sd,go_sem];refine bQ (fun nS=>?_) (fun nS=>?_);·have iA:d.kind=1:=of_decide_eq_true nS;simp only [sd,go_sem];refine dg (jn hG _) ?_;simp only [sd,go_sem];exact hK _ (congrArg bl (by clear hK hA4;rw [PK];clear PK;first|(simp only [*,aO,aE,aL,aF,aN,aM,if_false,if_true,reduceIte];done)|(simp_all;done)))
 have iA:¬ d.kind=1:=of_decide_eq_false nS;simp only [sd,go_sem];refine dI tt_ok [8] [3] 1 [1,2,6,9,14] (fun vs=>vs=[bl (dJ d.name&&dJ d.target||ka d.name&&ka d.target)]) (fun Z1 dv=>?_) ?_;·simp only [sd,go_sem];refine gA tt_ok ?_;simp only [sd,go_sem];refine dg (jn hG _) ?_;repeat' (simp only [sd,go_sem];first|refine bQ (fun hg=>?_) (fun hg=>?_)|refine dg (jn hG _) ?_|refine dg (qB _) ?_|(refine dv _ (eI (by omega) (by simp only [sd,go_sem]) ?_);simp only [eE,lk,reduceIte,zE];exact congrArg (fun b=>[bl b]) (by simp_all)))
 intro vs hJ;obtain rfl:=hJ;repeat' (simp only [sd,go_sem];first|refine bQ (fun hg=>?_) (fun hg=>?_)|refine dg (ya hG _ hm) ?_|(exact hK _ (congrArg bl (by clear hK hA4;rw [PK];clear PK;first|(simp only [*,aO,aE,aL,aF,aN,aM,if_false,if_true,reduceIte];done)|(simp_all;done)))))
end
end
theorem amf (B0 B1:bm):dP ab [B0,B1,.map [] 0] 198 (.mp 2) (num 0) (.agg [str ⟨#[98]⟩,num 0,bl false,num 0])=some [B0,B1,.map [tp] 1]:=kr
theorem amg (B0 B1:bm):dP ab [B0,B1,.map [tp] 1] 198 (.mp 2) (num 1) (.agg [str ⟨#[120]⟩,num 0,bl false,num 0])=some [B0,B1,.map [tp,ur] 2]:=kr
theorem amh (B0 B1:bm):dP ab [B0,B1,.map [tp,ur] 2] 198 (.mp 2) (num 2) (.agg [str ⟨#[98]⟩,num 0,bl false,num 0])=some [B0,B1,.map [tp,ur,vn] 3]:=kr
theorem ami (B0 B1:bm):dP ab [B0,B1,.map [tp,ur,vn] 3] 198 (.mp 2) (num 3) (.agg [str ⟨#[110]⟩,num 0,bl false,num 0])=some [B0,B1,.map [tp,ur,vn,xi] 4]:=kr
theorem amj (B0 B1:bm):dP ab [B0,B1,.map [tp,ur,vn,xi] 4] 198 (.mp 2) (num 4) (.agg [str ⟨#[109,110]⟩,num (-1),bl false,num 0])=some [B0,B1,.map [tp,ur,vn,xi,ym] 5]:=kr
theorem amk (B0 B1:bm):dP ab [B0,B1,.map [tp,ur,vn,xi,ym] 5] 198 (.mp 2) (num 5) (.agg [str ⟨#[]⟩,num 0,bl true,num 0])=some [B0,B1,.map [tp,ur,vn,xi,ym,zS] 6]:=kr
theorem aml (B0 B1:bm):dP ab [B0,B1,.map [tp,ur,vn,xi,ym,zS] 6] 198 (.mp 2) (num 6) (.agg [str ⟨#[110]⟩,num 0,bl false,num 1])=some [B0,B1,.map [tp,ur,vn,xi,ym,zS,Ck] 7]:=kr
theorem amm (B0 B1:bm):dP ab [B0,B1,.map [tp,ur,vn,xi,ym,zS,Ck] 7] 198 (.mp 2) (num 7) (.agg [str ⟨#[110]⟩,num 0,bl false,num 1])=some [B0,B1,.map [tp,ur,vn,xi,ym,zS,Ck,Db] 8]:=kr
theorem amn (B0 B1:bm):dP ab [B0,B1,.map [tp,ur,vn,xi,ym,zS,Ck,Db] 8] 198 (.mp 2) (num 8) (.agg [str ⟨#[116,111]⟩,num 0,bl true,num 1])=some [B0,B1,.map [tp,ur,vn,xi,ym,zS,Ck,Db,F8] 9]:=kr
theorem amo (B0 B1:bm):dP ab [B0,B1,.map [tp,ur,vn,xi,ym,zS,Ck,Db,F8] 9] 198 (.mp 2) (num 9) (.agg [str ⟨#[]⟩,num 0,bl true,num 1])=some [B0,B1,.map [tp,ur,vn,xi,ym,zS,Ck,Db,F8,I5] 10]:=kr
theorem agp (B0 B1:bm):dP ab [B0,B1,.map [tp,ur,vn,xi,ym,zS,Ck,Db,F8,I5] 10] 198 (.mp 2) (num 10) (.agg [str ⟨#[110]⟩,num 0,bl false,num 2])=some [B0,B1,.map [tp,ur,vn,xi,ym,zS,Ck,Db,F8,I5,vo] 11]:=kr
theorem agq (B0 B1:bm):dP ab [B0,B1,.map [tp,ur,vn,xi,ym,zS,Ck,Db,F8,I5,vo] 11] 198 (.mp 2) (num 11) (.agg [str ⟨#[]⟩,num 1,bl false,num 1])=some [B0,B1,.map [tp,ur,vn,xi,ym,zS,Ck,Db,F8,I5,vo,yn] 12]:=kr
theorem ags (B0 B1:bm):dP ab [B0,B1,.map [tp,ur,vn,xi,ym,zS,Ck,Db,F8,I5,vo,yn] 12] 198 (.mp 2) (num 12) (.agg [str ⟨#[]⟩,num 1,bl false,num 3])=some [B0,B1,.map [tp,ur,vn,xi,ym,zS,Ck,Db,F8,I5,vo,yn,Cl] 13]:=kr
theorem agt (B0 B1:bm):dP ab [B0,B1,.map [tp,ur,vn,xi,ym,zS,Ck,Db,F8,I5,vo,yn,Cl] 13] 198 (.mp 2) (num 13) (.agg [str ⟨#[118]⟩,num 1,bl true,num 1])=some [B0,B1,.map [tp,ur,vn,xi,ym,zS,Ck,Db,F8,I5,vo,yn,Cl,F9] 14]:=kr
theorem agu (B0 B1:bm):dP ab [B0,B1,.map [tp,ur,vn,xi,ym,zS,Ck,Db,F8,I5,vo,yn,Cl,F9] 14] 198 (.mp 2) (num 14) (.agg [str ⟨#[]⟩,num 1,bl false,num (-1)])=some [B0,B1,.map [tp,ur,vn,xi,ym,zS,Ck,Db,F8,I5,vo,yn,Cl,F9,LJ] 15]:=kr
theorem agv (B0 B1:bm):dP ab [B0,B1,.map [tp,ur,vn,xi,ym,zS,Ck,Db,F8,I5,vo,yn,Cl,F9,LJ] 15] 198 (.mp 2) (num 15) (.agg [str ⟨#[110,120]⟩,num 1,bl false,num 3])=some [B0,B1,.map [tp,ur,vn,xi,ym,zS,Ck,Db,F8,I5,vo,yn,Cl,F9,LJ,SJ] 16]:=kr
theorem Ze (B0 B1:bm):dP ab [B0,B1,.map [tp,ur,vn,xi,ym,zS,Ck,Db,F8,I5,vo,yn,Cl,F9,LJ,SJ] 16] 198 (.mp 2) (num 16) (.agg [str ⟨#[110]⟩,num 0,bl false,num (-1)])=some [B0,B1,.map [tp,ur,vn,xi,ym,zS,Ck,Db,F8,I5,vo,yn,Cl,F9,LJ,SJ,acg] 17]:=kr
theorem SR (B0 B1:bm) (hb:∀ n,2≤n→aS n B0=true∧aS n B1=true):bw ab 192 [] [B0,B1] (.mp 2) [B0,B1,.map iP 17]:=by refine kY tt_ok (fn:=Tryz.f192) 3 (by simp only [aj,aA];decide) Tryz.func192 rfl Tryz.call192 ?_;simp only [dG,cB,Tryz.ntmps192,aj,aA,zA,zF,aH,aI];refine mX tt_ok 20 [2] [] rfl rfl fun K hK=>?_;simp only [dG,go_sem];refine hK _ _ rfl ?_;simp only [Vf,zA,zE];refine mX tt_ok 20 (2::(rp 19 1 [])) [] rfl rfl fun K hK=>?_;refine nG 7 fun K1 lZ=>?_;simp only [Bf,amf,amg,amh,go_sem];refine lZ _ ?_;refine nG 7 fun K1 lZ=>?_;simp only [Bf,ami,amj,amk,go_sem];refine lZ _ ?_;refine nG 7 fun K1 lZ=>?_;simp only [Bf,aml,amm,amn,amo,go_sem];refine lZ _ ?_;refine nG 7 fun K1 lZ=>?_;simp only [Bf,agp,agq,ags,go_sem];refine lZ _ ?_;refine nG 7 fun K1 lZ=>?_;simp only [Bf,agt,agu,agv,Ze,go_sem];refine lZ _ ?_;simp only [Bf,Ze,go_sem];refine hK _ _ rfl ?_;simp only [Vf,zA,zE];refine bX ⟨.inl rfl,rfl,rfl,?_,rfl⟩;have h1:=hb 3 (by omega);have h2:=Cm.below 3;show (aS 3 B0&&(aS 3 B1&&((iP.all fun e=>aG 3 e.2.2)&&true)))=true;rw [h1.1,h1.2,h2];rfl
theorem SS (e:Ex):IE e=if decide (4096<(e.size:Int))||decide (32<(e.depth:Int)) then 7 else bT nN e.nodes:=by unfold IE;by_cases h1:4096<e.size <;> by_cases h2:32<e.depth <;> simp [h1,h2] <;> (intros;omega)
theorem Gb (hG:bk.g=some 1) (e:Ex) (he:e.wt≤1048576):cx ab 137 [cu e] (num (IE e)):=by
 have hbw:=e.eT;have h18:=D0 e (by omega);have h57:=Lf e.cC e (ax _) (by omega);have h53:=fun B0 B1 B2 B3 h=>Ir e [B0,B1,B2,B3] h;have hP:∀ v∈e.nodes,v.wt≤1048576:=fun v hv=>by have:=Ex.BN hv;omega
 refine jU tt_ok (fn:=Tryz.f137) Tryz.func137 rfl Tryz.call137 ?_;simp only [dG,cB,Tryz.ntmps137,aj,aA,zA,zF,aH,aI];rw [aT] at h18 h57 h53 ⊢;simp only [aJ] at h18 h57 h53 ⊢;refine ag tt_ok fun K hK=>?_;simp only [go_sem];refine hK _ ?_;refine bz ?_;have res:IE e=if decide (4096<(e.size:Int))||decide (32<(e.depth:Int)) then 7 else bT nN e.nodes:=SS e;cases c1:decide (4096<(e.size:Int)) with|true =>rw [c1] at res;refine ag tt_ok fun K hK=>?_;simp only [c1,go_sem];refine .inl ⟨_,_,by simp only [c1,go_sem,au],h18,?_⟩;(try simp only [c1,go_sem]);refine hK _ ?_;refine ba rfl ?_;refine ag tt_ok fun K hK=>?_;simp only [go_sem];refine hK _ ?_;refine bX ⟨.inl rfl,?_⟩;rw [res];rfl|false =>rw [c1] at res;cases c2:decide (32<(e.depth:Int)) with|true =>rw [c2] at res;refine ag tt_ok fun K hK=>?_;simp only [c1,go_sem];refine .inl ⟨_,_,by simp only [c1,go_sem,au],h18,?_⟩;(try simp only [c1,go_sem]);refine .inl ⟨_,_,by simp only [c2,go_sem,au],h57,?_⟩;(try simp only [c2,go_sem]);refine hK _ ?_;refine ba rfl ?_;refine ag tt_ok fun K hK=>?_;simp only [go_sem];refine hK _ ?_;refine bX ⟨.inl rfl,?_⟩;rw [res];rfl|false =>rw [c2] at res;refine ag tt_ok fun K hK=>?_;simp only [c1,go_sem];refine .inl ⟨_,_,by simp only [c1,go_sem,au],h18,?_⟩;(try simp only [c1,go_sem]);refine .inl ⟨_,_,by simp only [c2,go_sem,au],h57,?_⟩;(try simp only [c2,go_sem]);refine hK _ ?_;refine ba rfl (ch ?_);show eg _ _ _ _ _ _;refine ag tt_ok fun K hK=>?_;simp only [go_sem];(refine .inr <| .inl ⟨_,_,SR _ _ (fun n hn=>⟨rfl,rfl⟩),?_⟩);(try simp only [go_sem]);refine hK _ ?_;refine bz ?_;refine ag tt_ok fun K hK=>?_;simp only [go_sem];(refine .inr <| .inl ⟨_,_,h53 _ _ _ _ rfl,?_⟩);(try simp only [go_sem]);refine hK _ ?_;refine bY (BM (t:=e) (B:=1048576) (fun s:Int=>[.box (aJ e),.box [num s],.map iP 17,.box [.mp 2],.box (aJ e)]) 0 5 4 rfl (fun _=>rfl) (by omega) (fun _=>rfl) (fun _=>rfl) rfl rfl rfl (fun s u=>if decide (nN u=0)=true then (s,none) else (nN u,some .ret)) (by omega) (by omega) (fun v=>v.wt≤1048576) hP ?_ ?_);(·intro s u hu hm l LR LB hLR hLB;obtain⟨_,rfl,hn⟩:=I6 hG (.box (aJ e)) (.box [num s]) (.box [.mp 2]) (.box (aJ e)) LB (.box (aJ u)) (fun n hn=>⟨rfl,rfl,by simp only [aS,ct,dO,aG,aF,decide_eq_true_eq];omega,rfl,yX (by omega) hLB,rfl⟩) u hm;rw [aT] at hn ⊢;simp only [aJ] at hn;simp only [dG,pB,aJ,je,eD];refine bd tt_ok fun K hK=>?_;simp only [go_sem];refine hK _ ?_;refine⟨rfl,rfl,bY ?_⟩;simp only [je,eD];refine ag tt_ok fun K hK=>?_;simp only [go_sem];(refine .inr <| .inl ⟨_,_,hn,?_⟩);(try simp only [go_sem]);refine hK _ ?_;refine bz ?_;cases c3:decide (nN u=0) with|true =>refine bd tt_ok fun K hK=>?_;simp only [c3,go_sem];refine hK _ ?_;refine ba rfl (ch ?_);exact⟨rfl,rfl,rfl⟩|false =>refine bd tt_ok fun K hK=>?_;simp only [c3,go_sem];refine hK _ ?_;refine ba rfl ?_;refine ag tt_ok fun K hK=>?_;simp only [go_sem];refine hK _ ?_;exact bX ⟨rfl,rfl,rfl⟩);rw [tn];simp only [aY,bJ,if_false] at res;rw [res];cases c4:decide (bT nN e.nodes=0) with|true =>have e0:bT nN e.nodes=0:=of_decide_eq_true c4;simp only [if_true];show eg _ _ _ _ _ _;refine ag tt_ok fun K hK=>?_;simp only [go_sem];refine hK _ ?_;refine bX ⟨.inl rfl,?_⟩;rw [e0];rfl|false =>simp only [bJ,if_false];exact bX ⟨.inl rfl,rfl⟩
section
theorem Dc.O2 (d:Dc):d.expr.types.length<d.wt∧d.expr.labels.length<d.wt∧d.expr.kids.length<d.wt:=by have h1:=d.expr.rD;have h2:=d.expr.kB;have h3:=d.expr.eT;have h4:d.wt=1+d.name.size+d.note.size+bh Pm.wt d.params+d.lower.wt+d.upper.wt+d.type.wt+d.expr.wt+d.mod.size+d.target.size:=rfl;omega
theorem Dc.yp {d:Dc} (qe:d.wt=1+d.name.size+d.note.size+bh Pm.wt d.params+d.lower.wt+d.upper.wt+d.type.wt+d.expr.wt+d.mod.size+d.target.size) (hw:d.wt≤1048576) {u:Ty} (hu:u∈[d.lower,d.upper,d.type]++d.params.map Pm.bound):u.wt≤1048576:=by
 rcases ft.1 hu with hu|hu
 ·simp only [dj,o3,or_false] at hu;rcases hu with rfl|rfl|rfl <;> omega
 obtain⟨p,hp,rfl⟩:=dr.1 hu;obtain⟨i,hi⟩:=bS.1 hp;have h1:=cb Pm.wt hi;have h2:p.wt=1+p.name.size+p.bound.wt:=rfl;omega
def tr (d:Dc) (j:Nat):List Ty:=[d.lower,d.upper,d.type]++(d.params.take j).map Pm.bound
theorem Ee {d:Dc} {j:Nat} {p:Pm} (h:d.params[j]?=some p):tr d (j+1)=tr d j++[p.bound]:=by unfold tr;rw [bn,h];simp
theorem I8 (d:Dc):tr d d.params.length=[d.lower,d.upper,d.type]++d.params.map Pm.bound:=by unfold tr;rw [au]
theorem I9 (d:Dc) {j:Nat} (h:j≤d.params.length):(tr d j).length=j+3:=by unfold tr;simp;omega
section
attribute [local go_sem] aK bF aw
theorem Xa (hG:bk.g=some 1) (d:Dc) (bs:List Dc) (hw:d.wt≤1048576) (hbl:bs.length≤1048576):Cn 78 [bI d,.slice (bs.map bI)] (num (qE bs d)):=by
 refine fZ tt_ok [] 90 [.tmp 4] (fn:=Tryz.f78) Tryz.func78 rfl Tryz.call78 ⟨rfl,rfl,by simp⟩ fun K hK=>?_;have qe:d.wt=1+d.name.size+d.note.size+bh Pm.wt d.params+d.lower.wt+d.upper.wt+d.type.wt+d.expr.wt+d.mod.size+d.target.size:=rfl;obtain⟨h1,h2,h3⟩:=d.O2;have hp:d.params.length≤1048576:=by have:=bP Pm.wt (fun l=>by unfold Pm.wt;omega) d.params;omega
 obtain⟨acc,lL⟩:∃ x,x=([d.lower,d.upper,d.type]++d.params.map Pm.bound):=⟨_,rfl⟩;have SU:acc.length=d.params.length+3:=by rw [lL];simp <;> omega
 have iE:qE bs d=(if pK d=false then 1 else if 8<d.params.length∨65536<d.note.size then 7 else if IF d=false then 4 else if (bs.any fun x=>decide (x.name=d.name))=true then 5 else if qD (d.params.map Pm.name)=true then 5 else if bT n5 ([d.lower,d.upper,d.type]++d.params.map Pm.bound)≠0 then bT n5 ([d.lower,d.upper,d.type]++d.params.map Pm.bound) else IE d.expr):=rfl;have cD:∀ u∈acc,u.wt≤1048576:=by rw [lL];exact fun u hu=>Dc.yp qe hw hu
 simp only [dG,bI,ah,aJ];have l7:ab.underlying 9=some .string:=kr;have sl:∀ (a:ByteArray) (ty:TypeId),iH ab (Builtin.len_ #[9] ty) [.sc (.string a)]=some (num a.size):=fun a ty=>gF (P:=ab) (tt:=tt) (T:=9) a l7 ty;simp only [sl,go_sem];refine dg (by have h:=I7 d hp (by omega) (by omega) (by omega);simp only [dG,bI,ah,aJ] at h;exact h) ?_;simp only [sl,go_sem];refine bQ (fun nS=>?_) (fun nS=>?_);·(have bM:1=qE bs d:=by rw [iE,if_pos (by simpa using nS)]);simp only [sl,go_sem];first|exact hK _ (congrArg num bM)|exact hK _ (congrArg num iE.symm)
 rw [if_neg (by simpa using nS)] at iE;simp only [sl,go_sem];refine bQ (fun zq=>?_) (fun zq=>?_);·(have bM:7=qE bs d:=by rw [iE,if_pos (.inl (by have:=of_decide_eq_true zq;omega))]);simp only [sl,go_sem];first|exact hK _ (congrArg num bM)|exact hK _ (congrArg num iE.symm)
 simp only [sl,go_sem];refine bQ (fun jN=>?_) (fun jN=>?_);·(have bM:7=qE bs d:=by rw [iE,if_pos (by first|exact .inl (by have:=of_decide_eq_true zq;omega)|exact .inr (by have:=of_decide_eq_true jN;omega))]);simp only [sl,go_sem];first|exact hK _ (congrArg num bM)|exact hK _ (congrArg num iE.symm)
 rw [if_neg (by have h1_:=of_decide_eq_false zq;have h2_:=of_decide_eq_false jN;omega)] at iE;simp only [sl,go_sem];refine dg (by have h:=O1 hG d hp (by omega);simp only [dG,bI,ah,aJ] at h;exact h) ?_;simp only [sl,go_sem];refine bQ (fun vp=>?_) (fun vp=>?_);·(have bM:4=qE bs d:=by rw [iE,if_pos (by simpa using vp)]);simp only [sl,go_sem];first|exact hK _ (congrArg num bM)|exact hK _ (congrArg num iE.symm)
 rw [if_neg (by simpa using vp)] at iE;simp only [sl,go_sem];refine xv (by have h:=SO d 135 (fun x=>decide (x.name=d.name)) bs (fun x _=>acp d x) hbl;simp only [dG,fi,bI,ah,aJ] at h;exact h) ?_;simp only [sl,go_sem];refine bQ (fun acu=>?_) (fun acu=>?_);·(have bM:5=qE bs d:=by rw [iE,if_pos acu]);simp only [sl,go_sem];first|exact hK _ (congrArg num bM)|exact hK _ (congrArg num iE.symm)
 rw [if_neg (by rw [acu];simp)] at iE;simp only [sl,go_sem];refine fK tt_ok [] (fun a:Nat=>[(2,.ptr 0 0),(4,num 0),(5,.mp 1),(39,.slice (d.params.map cj)),(40,num d.params.length),(41,num a)]) (fun a:Nat=>[.box (lE d (.slice (d.params.map cj)) d.mod),.map (nM strVal 0 (eM [] ((d.params.take a).map Pm.name))) (eM [] ((d.params.take a).map Pm.name)).length]) (fun a=>d.params.length-a) (fun a=>a≤d.params.length) (0) 2 (di (by omega) (by simp only [sl,dV,eM,as6,nM,dO,aA,bB,go_sem] <;> rfl)) (aW _) ?_;intro i hi;try dsimp only at hi
 try dsimp only
 have qM:=fun n=>((NG.eM (l:=(d.params.take i).map Pm.name) NG.nil).1).below n;intro Z1 dv;simp only [qM,sl,go_sem];refine bQ (fun vf=>?_) (fun vf=>?_);·(have bR:i<d.params.length:=by simpa using vf);obtain⟨p,hx⟩:∃ p,d.params[i]?=some p:=⟨_,af bR⟩;have DW:=Io Pm.name [] hx;have amp:=fun B0 B2=>WM (eM [] ((d.params.take i).map Pm.name)) p.name (mem:=[B0,.map (nM strVal 0 (eM [] ((d.params.take i).map Pm.name))) (eM [] ((d.params.take i).map Pm.name)).length,B2]) (b:=1) rfl;have gb:=a7 i (by omega);have amq:=fun n=>((NG.eM (l:=(d.params.take (i+1)).map Pm.name) NG.nil).1).below n;simp only [qM,ae,hx,cj,ah,amp,gb,sl,go_sem];refine dv _ ⟨i+1,?_,?_,di (by omega) (by (simp only [← DW,gb,amq,qM,go_sem]))⟩;(·exact bR);omega
 have hZ:i=d.params.length:=by have:=of_decide_eq_false vf;omega
 subst hZ;rw [au];obtain⟨G,hGr⟩:∃ x,x=eM [] (d.params.map Pm.name):=⟨_,rfl⟩;have iJ:=La (d.params.map Pm.name);rw [← hGr,aw] at iJ;rw [← hGr];have hlen:=fun B0=>WN (mem:=[B0,.map (nM strVal 0 G) G.length]) (b:=1) G G.length rfl;have rW:=fun n=>(hGr ▸ (NG.eM (l:=d.params.map Pm.name) NG.nil).1:NG G).below n;simp only [qM,hlen,rW,sl,go_sem];refine bQ (fun LK=>?_) (fun LK=>?_);·(have Dt:qD (d.params.map Pm.name)=true:=by rw [← iJ.2];simpa using LK);(have bM:5=qE bs d:=by rw [iE,if_pos Dt]);simp only [qM,hlen,rW,sl,go_sem];first|exact hK _ (congrArg num bM)|exact hK _ (congrArg num iE.symm)
 have Dt:qD (d.params.map Pm.name)=false:=by rw [← iJ.2];simpa using LK
 rw [if_neg (by rw [Dt];simp)] at iE;simp only [qM,hlen,rW,sl,go_sem];refine fK tt_ok [] (fun a:Nat×Nat=>[(2,.ptr 0 0),(4,num 0),(8,.ms 2 a.2 0 (a.1+3)),(63,.slice (d.params.map cj)),(64,num d.params.length),(65,num a.1)]) (fun a:Nat×Nat=>[.box (lE d (.slice (d.params.map cj)) d.mod),.map (nM strVal 0 G) G.length,.rows a.2 5 (bN (tr d a.1))]) (fun a=>d.params.length-a.1) (fun a=>a.1≤d.params.length) ((0,0)) 3 (di (by omega) (by simp only [qM,hlen,rW,sl,tr,dV,bW,ij,bN,az,ah,rW,bB,go_sem] <;> rfl)) (aW _) ?_;rintro⟨j,dF⟩ hj;try dsimp only at hj
 try dsimp only
 intro Z2 jk;simp only [qM,hlen,rW,rW,sl,go_sem];refine bQ (fun acv=>?_) (fun acv=>?_);·(have bR:j<d.params.length:=by simpa using acv);obtain⟨p,hx⟩:∃ p,d.params[j]?=some p:=⟨_,af bR⟩;have gb:=a7 j (by omega);(have PH:j+3≤34359738367:=by omega);(have acw:j≤34359738364:=by omega);have N0:tr d (j+1)=tr d j++[p.bound]:=Ee hx;have Hw:=I9 d (j:=j) (by omega);have r9:cM [V.agg (tC p.bound)] 0 5=true:=rfl;simp only [qM,hlen,rW,rW,ae,hx,cj,ah,gb,PH,acw,Hw,r9,ai,ak,sl,go_sem];refine jk _ ⟨(j+1,dF+1),?_,?_,di (by omega) (by (simp [N0,Hw,cP,az,ah,rv,lk,er,eZ,aG,aS,rW]))⟩;(·exact bR);dsimp only;omega
 have hZ:j=d.params.length:=by have:=of_decide_eq_false acv;omega
 subst hZ;have SV:tr d d.params.length=acc:=by rw [lL];exact I8 d
 rw [SV,← SU];simp only [qM,hlen,rW,rW,sl,go_sem];refine cZ tt_ok [] [77] 3 [2,14,18,29,33,42,54,66,75,76] (fun vs=>((acc.length:Int)-Go.Eng.intOf (vs.headD .undef)).toNat) (fun vs=>∃ i:Nat,vs=[num i]∧i≤acc.length∧bT n5 acc=bT n5 (acc.drop i)) (by omega) (by simp only [qM,hlen,rW,rW,sl,go_sem]) (⟨0,rfl,aW _,rfl⟩) fun vs hI Z3 pY=>?_;obtain⟨i,rfl,hi,hinv⟩:=hI;simp only [qM,hlen,rW,rW,sl,go_sem];refine bQ (fun Co=>?_) (fun Co=>?_);·(have bR:i<acc.length:=by simpa using Co);obtain⟨u,hu⟩:∃ u,acc[i]?=some u:=⟨_,af bR⟩;(have eS:((i:Nat):Int)<((acc.length:Nat):Int):=by omega);have gb:=a7 i (by omega);have oC:=m9 n5 hu;simp only [qM,hlen,rW,rW,eS,bo,hu,az,ah,gb,sl,go_sem];refine dg (by have h:=xh hG u (by have:=u.cT;have:=cD u (ay hu);omega) (Ty.af2 (by have:=cD u (ay hu);omega));rw [az] at h;simp only [ah] at h;exact⟨_,rfl,h⟩) ?_;simp only [qM,hlen,rW,rW,eS,bo,hu,az,ah,gb,sl,go_sem];refine bQ (fun acx=>?_) (fun acx=>?_);(·(have cK:n5 u≠0:=by simpa using acx);(have hz:bT n5 ([d.lower,d.upper,d.type]++d.params.map Pm.bound)=n5 u:=by rw [← lL,hinv,oC,if_neg cK]);(have bM:n5 u=qE bs d:=by rw [iE,if_pos (by rw [hz];exact cK),hz]);simp only [qM,hlen,rW,rW,eS,bo,hu,az,ah,gb,sl,go_sem];first|exact hK _ (congrArg num bM)|exact hK _ (congrArg num iE.symm));(have hz:n5 u=0:=by simpa using acx);simp only [qM,hlen,rW,rW,eS,bo,hu,az,ah,gb,sl,go_sem];refine pY _ (fR (by omega) (by simp only [qM,hlen,rW,rW,eS,bo,hu,az,ah,gb,sl,go_sem]) ?_ ?_) <;> simp only [eE,lk,reduceIte,zE];(·exact⟨i+1,rfl,bR,by rw [hinv,oC,if_pos hz]⟩);simp only [Go.Eng.intOf,bg];omega
 have hZ:¬ i<acc.length:=by simpa using Co
 have hz:bT n5 ([d.lower,d.upper,d.type]++d.params.map Pm.bound)=0:=by rw [← lL,hinv,cH (by omega)];rfl
 rw [if_neg fun h_=>h_ hz] at iE;simp only [qM,hlen,rW,rW,sl,go_sem];refine dg (by have h:=Gb hG d.expr (by omega);rw [aT] at h;simp only [aJ] at h;exact⟨_,rfl,h⟩) ?_;simp only [qM,hlen,rW,rW,sl,go_sem];first|exact hK _ (congrArg num bM)|exact hK _ (congrArg num iE.symm)
end
end
section
attribute [local irreducible] runM fC oa
theorem Ef (l:List Dc) (i:Nat) {d:Dc} (h:l[i]?=some d):(l.map bI)[i]?=some (.agg (fi d)):=by rw [ae,h];rfl
theorem Cp (l:List Pm) (i:Nat) {p:Pm} (h:l[i]?=some p):(l.map cj)[i]?=some (.agg ([str p.name,num p.dD]++ah p.bound)):=by rw [ae,h];rfl
theorem O3 (m:Md) (hm:m.cC≤1048576):cx ab 129 [iM m] (num m.size):=by
 unfold Md.cC at hm;have iJ:=bP Dc.cC Dc.gx m.decls;have hle:∀ i,bh Dc.size (m.decls.take i)≤1048576:=fun i=>by have h1:=gX Dc.cC m.decls i;(have h2:∀ l:List Dc,bh Dc.size l≤bh Dc.cC l:=fun l=>by induction l with|nil=>simp [bh]|cons a r ih=>have:=Dc.size_le a;simp only [bh];omega);have:=h2 (m.decls.take i);omega
 refine jU tt_ok (fn:=Tryz.f129) Tryz.func129 rfl Tryz.call129 ?_;simp only [dG,cB,Tryz.ntmps129,aj,aA,zA,zF,aH,aI];rw [ly];simp only [mv];refine ag tt_ok fun K hK=>?_;simp only [go_sem];refine hK _ ?_;refine ag tt_ok fun K hK=>?_;simp only [aw,go_sem];refine hK _ ?_;have gb:=lu (1+(m.imports.length:Int)) (1+m.imports.length) (by omega) (by omega);rw [gb];refine bz ?_;refine ag tt_ok fun K hK=>?_;simp only [aw,go_sem];refine hK _ ?_;refine bY (dd (fun N st=>∃ (i:Nat),N=m.decls.length-i∧i≤m.decls.length ∧ st = { fr:=[.undef,.undef,.undef,num ((1+m.imports.length+bh Dc.size (m.decls.take i):Nat)),.undef,.undef,.undef,.undef,.undef,.undef,.undef,.undef,.undef,.slice (m.decls.map bI),num m.decls.length,num i]++List.replicate 56 .undef,mem:=[] }) m.decls.length ?_ ?_);·exact⟨0,(false::false::false::true::(rp 9 false [true,true,true])),by omega,by simp only [bG,aG,a8,aS,zB,jj],rfl,0,by omega,by omega,rfl⟩
 rintro N' st ⟨i,rfl,hi,rfl⟩;simp only [dG,aH,aI];by_cases bR:i<m.decls.length;·have hd:=iU bR;refine ag tt_ok fun K hK=>?_;simp only [hd,go_sem];refine hK _ ?_;refine bz (ba rfl (ch ?_));refine bz (bY ?_);obtain⟨d,Qp⟩:∃ d,m.decls[i]?=some d:=⟨_,af bR⟩;have hds:=cb Dc.cC Qp;have Dd:d.cC=1+d.params.length+bh (fun p=>p.bound.size) d.params+d.lower.size+d.upper.size+d.type.size+d.expr.cC:=rfl;have Ds:=fL Dc.size Qp;have nh:=d.size_le;have hT:=ot d.type (by omega);have hL:=ot d.lower (by omega);have hU:=ot d.upper (by omega);have hE:=D0 d.expr (by omega);have hC:=OI d (by omega);have De:=Ex.mu _ d.expr (ax _);have hln:=hle (i+1);have uf:=hle i;rw [az] at hT hL hU;rw [aT] at hE;rw [wQ] at hC;simp only [dG,ah,aJ,fi] at hT hL hU hE hC;have iE:=Ef m.decls i Qp;simp only [dG,ah,aJ,fi] at iE;have im:=a7 i (by omega);have hw3:=lu (1+(d.params.length:Int)) (1+d.params.length) (by omega) (by omega);have hw4:=lu (((1+m.imports.length+bh Dc.size (m.decls.take i):Nat):Int)+((1+d.params.length:Nat):Int)) (1+m.imports.length+bh Dc.size (m.decls.take i)+(1+d.params.length)) (by omega) (by omega);obtain⟨S,hS⟩:∃ S,S=1+m.imports.length+bh Dc.size (m.decls.take i)+(1+d.params.length):=⟨_,rfl⟩;rw [← hS] at hw4;refine ag tt_ok fun K hK=>?_;simp only [iE,go_sem];refine hK _ ?_;refine ag tt_ok fun K hK=>?_;simp only [aw,hw3,hw4,go_sem];refine hK _ ?_;refine ag tt_ok fun K hK=>?_;simp only [go_sem];refine hK _ ?_;refine bY ?_;by_cases h0:d.kind=0;(·have d0:decide (d.kind=0)=true:=decide_eq_true h0;refine ag tt_ok fun K hK=>?_;simp only [d0,go_sem];refine hK _ ?_;refine ba rfl ?_;show eg _ _ _ _ _ _;refine ag tt_ok fun K hK=>?_;simp only [go_sem];refine .inl ⟨_,_,by simp only [go_sem,au],hT,?_⟩;(try simp only [go_sem]);refine hK _ ?_;have Xb:=lu ((S:Int)+(d.type.size:Int)) (S+d.type.size) (by omega) (by omega);rw [Xb];cases pO:d.clear with|true =>(have PL:d.size=1+d.params.length+d.type.size:=by unfold Dc.size;rw [if_pos h0,if_pos pO,kG]);rw [pO] at hC;refine ag tt_ok fun K hK=>?_;simp only [go_sem];refine .inl ⟨_,_,by simp only [go_sem,au],hC,?_⟩;(try simp only [go_sem]);refine hK _ ?_;refine ba rfl (ch ?_);show eg _ _ _ _ _ _;refine bd tt_ok fun K hK=>?_;simp only [go_sem];refine hK _ ?_;rw [im];(have mF:S+d.type.size=1+m.imports.length+bh Dc.size (m.decls.take (i+1)):=by omega);rw [mF];exact⟨m.decls.length-(i+1),by omega,0,(false::false::false::true::(rp 9 false [true,true,true])),by omega,by simp only [bG,aG,a8,aS,zB,jj],rfl,i+1,rfl,bR,by simp [rp,bG]⟩|false =>(have PL:d.size=1+d.params.length+(d.type.size+(d.lower.size+d.upper.size)):=by unfold Dc.size;rw [if_pos h0,if_neg (by rw [pO];simp)]);rw [pO] at hC;refine ag tt_ok fun K hK=>?_;simp only [go_sem];refine .inl ⟨_,_,by simp only [go_sem,au],hC,?_⟩;(try simp only [go_sem]);refine hK _ ?_;refine ba rfl ?_;show eg _ _ _ _ _ _;refine mq tt_ok bU [pN,pN,pR,pN,pN,pR,pN,pN,pN,pN] 0 kr fun K hK=>?_;simp only [go_sem,List.replicate];refine⟨_,_,by simp only [go_sem,au],.inl (hL),?_⟩;(try simp only [go_sem,List.replicate]);refine⟨_,_,by simp only [go_sem,au],.inl (hU),?_⟩;(try simp only [go_sem,List.replicate]);refine hK _ ?_;have Xc:=lu ((d.lower.size:Int)+(d.upper.size:Int)) (d.lower.size+d.upper.size) (by omega) (by omega);rw [Xc];have Zf:=lu (((S+d.type.size:Nat):Int)+((d.lower.size+d.upper.size:Nat):Int)) (S+d.type.size+(d.lower.size+d.upper.size)) (by omega) (by omega);rw [Zf];show eg _ _ _ _ _ _;refine bd tt_ok fun K hK=>?_;simp only [go_sem];refine hK _ ?_;rw [im];(have mF:S+d.type.size+(d.lower.size+d.upper.size)=1+m.imports.length+bh Dc.size (m.decls.take (i+1)):=by omega);rw [mF];exact⟨m.decls.length-(i+1),by omega,0,(false::false::false::true::(rp 9 false [true,true,true])),by omega,by simp only [bG,aG,a8,aS,zB,jj],rfl,i+1,rfl,bR,by simp [rp,bG]⟩);have d0:decide (d.kind=0)=false:=decide_eq_false h0;refine ag tt_ok fun K hK=>?_;simp only [d0,go_sem];refine hK _ ?_;refine ba rfl ?_;show eg _ _ _ _ _ _;by_cases h1:d.kind=1;(·have d1:decide (d.kind=1)=true:=decide_eq_true h1;(have PL:d.size=1+d.params.length+(d.type.size+d.expr.size+bh (fun p=>p.bound.size) d.params):=by unfold Dc.size;rw [if_neg h0,if_pos h1]);refine ag tt_ok fun K hK=>?_;simp only [d1,go_sem];refine hK _ ?_;refine ba rfl ?_;show eg _ _ _ _ _ _;refine pV tt_ok bU [pN,pN,pR,pN,pN,pR,pN,pN,pN,pN] 0 kr fun K hK=>?_;simp only [go_sem,List.replicate];refine⟨_,_,by simp only [go_sem,au],.inl (hT),?_⟩;(try simp only [go_sem,List.replicate]);refine⟨_,_,by simp only [go_sem,au],.inl (hE),?_⟩;(try simp only [go_sem,List.replicate]);refine hK _ ?_;have Xb:=lu ((d.type.size:Int)+(d.expr.size:Int)) (d.type.size+d.expr.size) (by omega) (by omega);rw [Xb];have Xc:=lu ((S:Int)+((d.type.size+d.expr.size:Nat):Int)) (S+(d.type.size+d.expr.size)) (by omega) (by omega);rw [Xc];obtain⟨S1,hS1⟩:∃ S1,S1=S+(d.type.size+d.expr.size):=⟨_,rfl⟩;rw [← hS1];refine ag tt_ok fun K hK=>?_;simp only [aw,go_sem];refine hK _ ?_;refine bY (dd (fun N st=>∃ (j:Nat),N=d.params.length-j∧j≤d.params.length ∧ st = { fr:=[.undef,.undef,.undef,num ((S1+bh (fun p=>p.bound.size) (d.params.take j):Nat)),.undef,.undef,.undef,.undef,.undef,.undef,.undef,.undef,.undef,.slice (m.decls.map bI),num m.decls.length,num i]++List.replicate 42 .undef++[.slice (d.params.map cj),num d.params.length,num j]++List.replicate 11 .undef,mem:=[] }) d.params.length ?_ ?_);(·exact⟨0,(false::false::false::true::(rp 9 false [true,true,true]))++List.replicate 42 false++[true,true,true],by omega,by simp only [aH,aI,ai,ak,bG,aG,a8,aS,zB,jj],rfl,0,by omega,by omega,rfl⟩);rintro N' st ⟨j,rfl,hj,rfl⟩;simp only [dG,aH,aI];by_cases Gc:j<d.params.length;(·have PD:=iU Gc;obtain⟨p,hp⟩:∃ p,d.params[j]?=some p:=⟨_,af Gc⟩;have qd:=cb (fun p:Pm=>p.bound.size) hp;have hpt:=fL (fun p:Pm=>p.bound.size) hp;have zQ:=gX (fun p:Pm=>p.bound.size) d.params (j+1);have hP:=ot p.bound (by omega);rw [az] at hP;simp only [ah] at hP;have hpc:=Cp d.params j hp;simp only [dG,ah] at hpc;have Zf:=lu (((S1+bh (fun p=>p.bound.size) (d.params.take j):Nat):Int)+(p.bound.size:Int)) (S1+bh (fun p=>p.bound.size) (d.params.take (j+1))) (by omega) (by omega);have hw8:=a7 j (by omega);refine ag tt_ok fun K hK=>?_;simp only [PD,go_sem];refine hK _ ?_;refine bz (ba rfl (ch ?_));refine bz (bY ?_);refine ag tt_ok fun K hK=>?_;simp only [hpc,go_sem];refine hK _ ?_;refine bd tt_ok fun K hK=>?_;simp only [go_sem];refine .inl ⟨_,_,by simp only [go_sem,au],hP,?_⟩;(try simp only [go_sem]);refine hK _ ?_;rw [Zf];show eg _ _ _ _ _ _;refine bd tt_ok fun K hK=>?_;simp only [go_sem];refine hK _ ?_;rw [hw8];exact⟨d.params.length-(j+1),by omega,0,(false::false::false::true::(rp 9 false [true,true,true]))++List.replicate 42 false++[true,true,true],by omega,by simp only [aH,aI,ai,ak,bG,aG,a8,aS,zB,jj],rfl,j+1,rfl,Gc,by simp [rp,bG]⟩);have PD:=iV Gc;(have hje:j=d.params.length:=by omega);subst hje;refine ag tt_ok fun K hK=>?_;simp only [PD,go_sem];refine hK _ ?_;refine bz (ba rfl (eH ?_));(try rw [au]);show eg _ _ _ _ _ _;refine bd tt_ok fun K hK=>?_;simp only [go_sem];refine hK _ ?_;rw [im];(have mF:S1+bh (fun p=>p.bound.size) d.params=1+m.imports.length+bh Dc.size (m.decls.take (i+1)):=by omega);rw [mF];exact⟨m.decls.length-(i+1),by omega,0,(false::false::false::true::(rp 9 false [true,true,true])),by omega,by simp only [bG,aG,a8,aS,zB,jj],rfl,i+1,rfl,bR,by simp [rp,bG]⟩);have d1:decide (d.kind=1)=false:=decide_eq_false h1;(have PL:d.size=1+d.params.length:=by unfold Dc.size;rw [if_neg h0,if_neg h1];rfl);refine ag tt_ok fun K hK=>?_;simp only [d1,go_sem];refine hK _ ?_;refine ba rfl (ch ?_);show eg _ _ _ _ _ _;refine bd tt_ok fun K hK=>?_;simp only [go_sem];refine hK _ ?_;rw [im];(have mF:S=1+m.imports.length+bh Dc.size (m.decls.take (i+1)):=by omega);rw [mF];exact⟨m.decls.length-(i+1),by omega,0,(false::false::false::true::(rp 9 false [true,true,true])),by omega,by simp only [bG,aG,a8,aS,zB,jj],rfl,i+1,rfl,bR,by simp [rp,bG]⟩
 have hd:=iV bR;refine ag tt_ok fun K hK=>?_;simp only [hd,go_sem];refine hK _ ?_;refine bz (ba rfl (eH ?_));have iC:i=m.decls.length:=by omega
 subst iC;show eg _ _ _ _ _ _;refine ag tt_ok fun K hK=>?_;simp only [go_sem];refine hK _ ?_;refine bX ⟨.inl rfl,?_⟩;try rw [au]
 rfl
end
section
theorem Bd {α:Type} (l:List α) (f:α→V) (size:Nat) (hs:∀ a,(f a).cells.length=size) (i:Nat) (hi:i≤l.length) (mem:List bm):cutAt mem size 0 (some (i:Int)) (.slice (l.map f))=some (.slice ((l.take i).map f)):=by
 unfold cutAt;have h1:cM (l.map f) (0:Int).toNat size=true:=by unfold cM;split;(·rename_i h;simp at h;obtain⟨t,-,rfl⟩:=h;simp [hs]);rfl
 simp only [ajp];rw [if_pos ⟨as0 _,by omega,by simpa using hi,h1⟩];simp [List.map_take]
def mA (i:Nat) (r:Nat×Int):Nat×Int:=if r.2=0 then (0,0) else (r.1+i,r.2)
theorem O4 {α:Type} (f:List α→α→Int):∀ (l b:List α),(gp f b l).2=0→gp f b l=(0,0)
 | [],_,_=>rfl
 | x :: r,b,h=>by
  unfold gp at h ⊢
  split at h
  ·rename_i h1
   rw [if_pos h1]
   split at h
   ·rename_i h2;rw [if_pos h2]
   rename_i h2;exact absurd h h2
  rename_i h1;exact absurd h h1
theorem tu {α:Type} {f:List α→α→Int} {b l:List α}:mA 0 (gp f b l)=gp f b l:=by
 unfold mA;split;·rename_i h;rw [O4 f _ _ h]
 rfl
theorem Gd {α:Type} (f:List α→α→Int) {l:List α} {i:Nat} {x:α} (h:l[i]?=some x):gp f (l.take i) (l.drop i)=if f (l.take i) x=0 then mA 1 (gp f (l.take (i+1)) (l.drop (i+1))) else (0,f (l.take i) x):=by have h1:=aq.1 h;rw [cr h1.1,h1.2,bn,h];rfl
theorem Cq {α:Type} (f:List α→α→Int) {l:List α} {i:Nat} {x:α} (h:l[i]?=some x) (hz:f (l.take i) x=0):mA i (gp f (l.take i) (l.drop i))=mA (i+1) (gp f (l.take (i+1)) (l.drop (i+1))):=by
 rw [Gd f h,if_pos hz];unfold mA;by_cases h2:(gp f (l.take (i+1)) (l.drop (i+1))).2=0;·simp [h2]
 simp [h2];omega
theorem xk {α:Type} (f:List α→α→Int) {l:List α} {i:Nat} {x:α} {e:Int} (h:l[i]?=some x) (he:f (l.take i) x=e) (cK:e≠0):(mA i (gp f (l.take i) (l.drop i))).2=e:=by rw [Gd f h,he,if_neg cK];unfold mA;rw [if_neg cK]
theorem Eg {α:Type} (f:List α→α→Int) {l:List α} {i:Nat} {x:α} {e:Int} (h:l[i]?=some x) (he:f (l.take i) x=e) (cK:e≠0):mA i (gp f (l.take i) (l.drop i))=(i,e):=by rw [Gd f h,he,if_neg cK];unfold mA;rw [if_neg cK];simp
section
attribute [local go_sem] aw de
theorem Xd (hG:bk.g=some 1) (m:Md) (hw:m.wt≤1048576):Cn 77 [iM m] (num (vG m)):=by
 refine fZ tt_ok [] 59 [.tmp 2] (fn:=Tryz.f77) Tryz.func77 rfl Tryz.call77 ⟨rfl,rfl,by simp⟩ fun K hK=>?_;have hmw:m.wt=1+m.path.size+bh Im.wt m.imports+bh Dc.wt m.decls:=rfl;have hmb:=m.eT;have eS:m.imports.length≤1048576:=by have:=bP Im.wt (fun l=>by unfold Im.wt;omega) m.imports;omega
 have iE:vG m=(if dY m.path=false then 4 else if 16<m.imports.length∨64<m.decls.length∨4096<m.size then 7 else (gp (pc m.path) [] m.imports).2):=rfl;simp only [ly,mv];simp only [go_sem];refine dg (lX hG m.path (by omega)) ?_;simp only [go_sem];refine bQ (fun hc5=>?_) (fun hc5=>?_);·(have bM:4=vG m:=by rw [iE,if_pos (by simpa using hc5)]);simp only [go_sem];exact hK _ (congrArg num bM)
 rw [if_neg (by simpa using hc5)] at iE;simp only [go_sem];refine bQ (fun zq=>?_) (fun zq=>?_);·(have bM:7=vG m:=by rw [iE,if_pos (.inl (by have:=of_decide_eq_true zq;omega))]);simp only [go_sem];exact hK _ (congrArg num bM)
 simp only [go_sem];refine bQ (fun LM=>?_) (fun LM=>?_);·(have bM:7=vG m:=by rw [iE,if_pos (.inr (.inl (by have:=of_decide_eq_true LM;omega)))]);simp only [go_sem];exact hK _ (congrArg num bM)
 simp only [go_sem];refine dg (by have h:=O3 m (by omega);rw [ly] at h;simp only [mv] at h;exact⟨_,rfl,h⟩) ?_;simp only [go_sem];refine bQ (fun ix=>?_) (fun ix=>?_);·(have bM:7=vG m:=by rw [iE,if_pos (.inr (.inr (by have:=of_decide_eq_true ix;omega)))]);simp only [go_sem];exact hK _ (congrArg num bM)
 rw [if_neg (by have h1_:=of_decide_eq_false zq;have h2_:=of_decide_eq_false LM;have h3_:=of_decide_eq_false ix;omega)] at iE;simp only [go_sem];refine cZ tt_ok [] [29] 1 [1,5,10,27,28] (fun vs=>((m.imports.length:Int)-Go.Eng.intOf (vs.headD .undef)).toNat) (fun vs=>∃ i:Nat,vs=[num i]∧i≤m.imports.length∧gp (pc m.path) [] m.imports=mA i (gp (pc m.path) (m.imports.take i) (m.imports.drop i))) (by omega) (by simp only [go_sem]) (⟨0,rfl,aW _,tu.symm⟩) fun vs hI Z1 dv=>?_;obtain⟨i,rfl,hi,hinv⟩:=hI;simp only [go_sem];refine bQ (fun nU=>?_) (fun nU=>?_);·(have bR:i<m.imports.length:=by simpa using nU);obtain⟨y,hx⟩:∃ y,m.imports[i]?=some y:=⟨_,af bR⟩;have gb:=a7 i (by omega);have hyw:=cb Im.wt hx;have hyd:y.wt=1+y.path.size+y.alias.size:=rfl;have hcut:=Bd m.imports cA 2 (fun _=>rfl) i (by omega);simp only [ae,hx,cA,hcut,gb,go_sem];refine dg (lX hG y.path (by omega)) ?_;simp only [ae,hx,cA,hcut,gb,go_sem];refine bQ (fun agA=>?_) (fun agA=>?_);(·(have hz:(gp (pc m.path) [] m.imports).2=4:=by rw [hinv];exact xk (pc m.path) hx (by unfold pc;clear iE hK;simp_all) (by decide));(have bM:4=vG m:=by rw [iE,hz]);simp only [ae,hx,cA,hcut,gb,go_sem];exact hK _ (congrArg num bM));simp only [ae,hx,cA,hcut,gb,go_sem];refine dg (jn hG _) ?_;simp only [ae,hx,cA,hcut,gb,go_sem];refine bQ (fun yq=>?_) (fun yq=>?_);(·(have hz:(gp (pc m.path) [] m.imports).2=4:=by rw [hinv];exact xk (pc m.path) hx (by unfold pc;clear iE hK;simp_all) (by decide));(have bM:4=vG m:=by rw [iE,hz]);simp only [ae,hx,cA,hcut,gb,go_sem];exact hK _ (congrArg num bM));simp only [ae,hx,cA,hcut,gb,go_sem];refine bQ (fun SX=>?_) (fun SX=>?_);(·(have hz:(gp (pc m.path) [] m.imports).2=14:=by rw [hinv];exact xk (pc m.path) hx (by unfold pc;clear iE hK;simp_all) (by decide));(have bM:14=vG m:=by rw [iE,hz]);simp only [ae,hx,cA,hcut,gb,go_sem];exact hK _ (congrArg num bM));simp only [ae,hx,cA,hcut,gb,go_sem];refine xv (SQ _ (fun n hn=>rfl) y 131 (fun x=>decide (x.path=y.path)||decide (x.alias=y.alias)) (m.imports.take i) (fun x _=>acq _ (fun n hn=>rfl) y x) (by rw [cn];omega)) ?_;simp only [ae,hx,cA,hcut,gb,go_sem];refine bQ (fun SY=>?_) (fun SY=>?_);(·(have hz:(gp (pc m.path) [] m.imports).2=5:=by rw [hinv];exact xk (pc m.path) hx (by unfold pc;clear iE hK;simp_all) (by decide));(have bM:5=vG m:=by rw [iE,hz]);simp only [ae,hx,cA,hcut,gb,go_sem];exact hK _ (congrArg num bM));simp only [ae,hx,cA,hcut,gb,go_sem];refine dv _ (fR (by omega) (by simp only [ae,hx,cA,hcut,gb,go_sem]) ?_ ?_) <;> simp only [eE,lk,reduceIte,zE];(·exact⟨i+1,rfl,bR,hinv.trans (Cq (pc m.path) hx (by unfold pc;simp_all))⟩);simp only [Go.Eng.intOf,bg];omega
 have hZ:¬ i<m.imports.length:=by simpa using nU
 have hz:(gp (pc m.path) [] m.imports).2=0:=by rw [hinv,cH (by omega)];rfl
 have bM:0=vG m:=by rw [iE,hz]
 simp only [go_sem];exact hK _ (congrArg num bM)
end
section
attribute [local go_sem] aw
theorem oY (hG:bk.g=some 1) (m:Md) (hw:m.wt≤1048576):Cn 31 [iM m] (.ec [num (ov m).1,num (ov m).2]):=by
 refine fZ tt_ok [] 32 [.tmp 2,.tmp 3] (fn:=Tryz.f31) Tryz.func31 rfl Tryz.call31 ⟨rfl,rfl,by simp⟩ fun K hK=>?_;have hmw:m.wt=1+m.path.size+bh Im.wt m.imports+bh Dc.wt m.decls:=rfl;have iJ:m.decls.length≤1048576:=by have:=bP Dc.wt (fun l=>by unfold Dc.wt;omega) m.decls;omega
 simp only [ly,mv];simp only [go_sem];refine dg (by have h:=Xd hG m hw;rw [ly] at h;simp only [mv] at h;exact h) ?_;simp only [go_sem];refine bQ (fun rI=>?_) (fun rI=>?_);·(have cK:vG m≠0:=by simpa using rI);(have bM:ov m=(-1,vG m):=by unfold ov;rw [if_pos cK]);simp only [go_sem];exact hK _ (by rw [bM] <;> rfl)
 have Q6:vG m=0:=by simpa using rI
 have O5:ov m=((((gp qE [] m.decls).1:Nat):Int),(gp qE [] m.decls).2):=by unfold ov;rw [if_neg (by simp [Q6])]
 simp only [go_sem];refine cZ tt_ok [] [16] 1 [1,11,14,15] (fun vs=>((m.decls.length:Int)-Go.Eng.intOf (vs.headD .undef)).toNat) (fun vs=>∃ i:Nat,vs=[num i]∧i≤m.decls.length∧gp qE [] m.decls=mA i (gp qE (m.decls.take i) (m.decls.drop i))) (by omega) (by simp only [go_sem]) (⟨0,rfl,aW _,tu.symm⟩) fun vs hI Z1 dv=>?_;obtain⟨i,rfl,hi,hinv⟩:=hI;simp only [go_sem];refine bQ (fun tc=>?_) (fun tc=>?_);·(have bR:i<m.decls.length:=by simpa using tc);obtain⟨d,hx⟩:∃ d,m.decls[i]?=some d:=⟨_,af bR⟩;have gb:=a7 i (by omega);have hdw:=cb Dc.wt hx;have hcut:=Bd m.decls bI 31 (fun _=>rfl) i (by omega);simp only [ae,hx,bI,ah,aJ,ai,ak,hcut,gb,go_sem];refine dW tt_ok bU [pR,pN,pR,pN,pR,pN,pN] 0 kr ?_;simp only [ae,hx,bI,ah,aJ,ai,ak,hcut,gb,go_sem];refine FF (by have h:=Xa hG d (m.decls.take i) (by omega) (by rw [cn];omega);simp only [dG,bI,ah,aJ] at h;exact h) ?_;simp only [ae,hx,bI,ah,aJ,ai,ak,hcut,gb,go_sem];refine bQ (fun vg=>?_) (fun vg=>?_);(·(have cK:qE (m.decls.take i) d≠0:=by simpa using vg);(have bM:ov m=((i:Int),qE (m.decls.take i) d):=by rw [O5,hinv,Eg qE hx rfl cK]);simp only [ae,hx,bI,ah,aJ,ai,ak,hcut,gb,go_sem];exact hK _ (by rw [bM] <;> rfl));(have hz:qE (m.decls.take i) d=0:=by simpa using vg);simp only [ae,hx,bI,ah,aJ,ai,ak,hcut,gb,go_sem];refine dv _ (fR (by omega) (by simp only [ae,hx,bI,ah,aJ,ai,ak,hcut,gb,go_sem]) ?_ ?_) <;> simp only [eE,lk,reduceIte,zE];(·exact⟨i+1,rfl,bR,hinv.trans (Cq qE hx hz)⟩);simp only [Go.Eng.intOf,bg];omega
 have hZ:¬ i<m.decls.length:=by simpa using tc
 have bM:ov m=(0,0):=by rw [O5,hinv,cH (by omega)];rfl
 simp only [go_sem];exact hK _ (by rw [bM] <;> rfl)
end
end
theorem lY {α:Type} (f:α→Int):∀ l:List α,bT f l=0→∀ x∈l,f x=0
 | [],_,x,h=>by cases h
 | u :: r,h,x,hx=>by
  unfold bT at h
  by_cases hu:f u=0
  ·rw [if_pos hu] at h
   cases hx with
   | head=>exact hu
   | tail _ hx=>exact lY f r h x hx
  rw [if_neg hu] at h;exact absurd h hu
theorem Ja {α:Type} (f:List α→α→Int):∀ (l b:List α),(gp f b l).2=0→∀ x∈l,∃ c,f c x=0
 | [],_,_,x,h=>by cases h
 | u :: r,b,h,x,hx=>by
  unfold gp at h
  by_cases hu:f b u=0
  ·rw [if_pos hu] at h
   by_cases h2:(gp f (b++[u]) r).2=0
   ·cases hx with
    | head=>exact⟨b,hu⟩
    | tail _ hx=>exact Ja f r _ h2 x hx
   rw [if_neg h2] at h;exact absurd h h2
  rw [if_neg hu] at h;exact absurd h hu
theorem Cr (m:Md) (h:(ov m).2=0):∀ d∈m.decls,∃ c,qE c d=0:=by
 unfold ov at h;by_cases h1:vG m≠0;·rw [if_pos h1] at h;exact absurd h h1
 rw [if_neg h1] at h;exact Ja qE _ _ h
theorem Ge (c:List Dc) (d:Dc) (h:qE c d=0):IE d.expr=0:=by
 unfold qE at h;split at h;·cases h
 split at h;·cases h
 split at h;·cases h
 split at h;·cases h
 split at h;·cases h
 split at h;·next h1=>exact absurd h h1
 exact h
theorem xl (e:Ex) (h:IE e=0):∀ y∈e.nodes,nN y=0:=by
 unfold IE at h;split at h;·cases h
 exact lY _ _ h
theorem agC (y:Ex) (h:nN y=0) (hk:y.kind=13):y.kids.length≤y.labels.length+1:=by
 unfold nN at h;rw [hk,show jq 13=some ⟨⟨#[118]⟩,1,true,1⟩ from rfl] at h;dsimp only at h;split at h;·cases h
 next h1 =>
 have h2:mJ y ⟨#[118]⟩ 1 true 1=true:=by cases hf:mJ y ⟨#[118]⟩ 1 true 1;(·exact absurd hf h1);rfl
 unfold mJ at h2;simp only [aD,Dk] at h2;have h9:=h2.1.2;unfold q9 lN at h9;rw [hk] at h9;simp at h9;omega
theorem SZ (m:Md) (h:(ov m).2=0):∀ d∈m.decls,vk d.expr:=fun d hd y hy hk=>by obtain⟨c,hc⟩:=Cr m h d hd;exact agC y (xl _ (Ge c d hc) y hy) hk
theorem Xe (l:List Dc):bh Dc.size l≤bh Dc.cC l:=by induction l with|nil=>exact ax _|cons x r ih=>have:=Dc.size_le x;simp only [bh] at *;omega
theorem Zg (m:Md) (h1:dY m.path=true) (h2:Nat.ble m.imports.length 16=true) (h3:Nat.ble m.decls.length 64=true) (h4:Nat.ble (1+m.imports.length+bh Dc.cC m.decls) 4096=true)
  (h5:(gp (pc m.path) [] m.imports).2=0):vG m=0:=by
 have h2:=jf h2;have h3:=jf h3;have h4:=jf h4;have h6:=Xe m.decls;have h7:m.size≤4096:=by unfold Md.size;omega
 unfold vG;rw [if_neg (by rw [h1];simp),if_neg (by omega),h5]
def noZ:List UInt8→Bool
 | []=>true
 | b :: l=>!(b==32&&l.head?==some 122)&&noZ l
theorem Nh (r:List UInt8):∀ l,noZ l=true→Lib.index l (32 :: 122 :: r) = -1
 | [],_=>rfl
 | b :: l,h=>by
  unfold noZ at h
  simp only [aD] at h
  have hp:(32 :: 122 :: r:List UInt8).isPrefixOf (b :: l)=false:=by
   cases l with
   | nil=>simp [List.isPrefixOf]
   | cons c l =>
    have h1:=h.1
    simp only [atu] at h1
    simp only [List.isPrefixOf]
    by_cases hb:b=32
    ·subst hb
     by_cases hc:c=122
     ·subst hc;exact absurd h1 (by decide)
     rw [show ((122:UInt8)==c)=false from by rw [beq_eq_false_iff_ne];exact fun h=>hc h.symm];simp
    rw [show ((32:UInt8)==b)=false from by rw [beq_eq_false_iff_ne];exact fun h=>hb h.symm];simp
  unfold Lib.index
  rw [hp,Nh r l h.2]
  simp
theorem acy (s:ByteArray):kwB (zz s)=false:=by
 unfold kwB;have e:(⟨#[32]⟩++zz s++⟨#[32]⟩:ByteArray).data.toList=32 :: 122 :: (s.data.toList++[32]):=by rw [xp,xp,j7,j7,F1];rfl
 rw [e];unfold Lib.contains;rw [Nh _ _ kr];rfl
def zOk (s:ByteArray):Prop:=dJ s=true∧s.size≤20
theorem Xf {s:ByteArray} (h:zOk s):dJ (zz s)=true:=by
 obtain⟨h,hs⟩:=h;unfold dJ at h ⊢;simp only [aD,decide_eq_true_eq] at h;obtain⟨⟨⟨⟨h1,h2⟩,h3⟩,h4⟩,h5⟩:=h;have e0:eL (zz s) 0=122:=by (have:(zz s)[0]?=some 122:=by (have h0:(zz s).data.toList[0]?=some 122:=by rw [F1];rfl);obtain⟨c,hc⟩:=eK (s:=zz s) (i:=0) (by rw [Na];omega);have:=sY hc;rw [h0] at this;rw [hc];exact this.symm);rw [eQ this];rfl
 rw [Na,e0,acy];have e4:l4 uj (zz s)=true:=by unfold l4 at h4 ⊢;rw [F1,ct,h4];rfl
 rw [e4];simp only [aD,decide_eq_true_eq];exact⟨⟨⟨⟨by omega,by omega⟩,by decide⟩,trivial⟩,rfl⟩
theorem Xg {s:ByteArray} (h:zOk s):nT (zz s)=true:=by unfold nT;rw [Xf h];simp
theorem Xh {k k0:Int} {m:ByteArray} (h:nT m=true) (hz:k=k0→m≠⟨#[]⟩→zOk m):nT (zM k k0 m)=true:=by
 unfold zM;split;·rename_i h2;exact Xg (hz h2.1 h2.2)
 exact h
theorem Eh {α:Type} (f:α→Int):∀ {l:List α},(∀ x∈l,f x=0)→bT f l=0
 | [],_=>rfl
 | u :: r,h=>by unfold bT;rw [if_pos (h u (bZ ..))];exact Eh f fun x hx=>h x (bE _ hx)
theorem Jb {t:Ty} (h:n5 t=0):∀ u∈t.nodes,tU u=0:=by
 unfold n5 at h;split at h;·cases h
 exact lY _ _ h
theorem agD {t:Ty} (h:tU t=0):(t.kind=9→t.mod=⟨#[]⟩)∧(t.kind=10∨t.kind=9→t.bp=[]):=by
 unfold tU at h;split at h;·cases h
 rename_i h1;have hs:K8 t=true:=by simpa using h1
 unfold K8 at hs;have he:∀ s,jQ s=true→s=⟨#[]⟩:=fun s h=>of_decide_eq_true h;have k:∀ n:Int,t.kind=n→(n=9∨n=10)→(n=9→t.mod=⟨#[]⟩)∧t.bp=[]:=by intro n hk hn;rw [hk] at hs;(rcases hn with rfl|rfl);(·simp at hs;exact⟨fun _=>he _ hs.2.1.1,hs.2.2⟩);simp at hs;exact⟨fun h=>absurd h (by decide),hs.2⟩
 refine⟨fun h9=>(k 9 h9 (.inl rfl)).1 rfl,fun h=>?_⟩;rcases h with h|h
 ·exact (k 10 h (.inr rfl)).2
 exact (k 9 h (.inl rfl)).2
theorem Zh {t:Ty} (h:n5 t=0):OU t:=fun u hu=>agD (Jb h u hu)
theorem acz (f:Lb→Bool) (l:List Lb) (h:∀ x,f (x.res gZ)=f x):(l.map (Lb.res gZ)).any f=l.any f:=by rw [List.any_map];congr 1;funext x;exact h x
theorem aj2 {x:Ex} {fl:ByteArray} (hz:x.kind=4→x.mod≠⟨#[]⟩→zOk x.mod) (h:wT x fl=false):wT x.oO fl=false:=by
 have hl:x.oO.labels.any (uK fl)=x.labels.any (uK fl):=by rw [x.LC];exact acz _ _ fun l=>rfl
 have hm:m1 x fl=false→m1 x.oO fl=false:=by unfold m1;rw [x.Nb];intro h;cases hf:cy fl ⟨#[109]⟩ with|false=>rfl|true =>rw [hf] at h;(have:nT x.mod=true:=by simpa using h);rw [Xh this hz];rfl
 unfold wT at h ⊢;simp only [pe] at h ⊢;obtain⟨⟨⟨h1,h2⟩,h3⟩,h4⟩:=h;refine⟨⟨⟨hm h1,?_⟩,?_⟩,by rw [hl];exact h4⟩;·unfold m2 at h2 ⊢;rw [x.Ch,x.I0];exact h2
 unfold m3 at h3 ⊢;rw [x.Ch,x.Sv];exact h3
theorem amw {k:Int} {f:Fo} (hf:jq k=some f) (hk:k≠8):cy f.fl ⟨#[116]⟩=false:=by
 unfold jq at hf;by_cases h0:k=0;·rw [if_pos h0] at hf;cases hf;kernel_rfl
 rw [if_neg h0] at hf;by_cases h1:k=1;·rw [if_pos h1] at hf;cases hf;kernel_rfl
 rw [if_neg h1] at hf;by_cases h2:k=2;·rw [if_pos h2] at hf;cases hf;kernel_rfl
 rw [if_neg h2] at hf;by_cases h3:k=3;·rw [if_pos h3] at hf;cases hf;kernel_rfl
 rw [if_neg h3] at hf;by_cases h4:k=4;·rw [if_pos h4] at hf;cases hf;kernel_rfl
 rw [if_neg h4] at hf;by_cases h5:k=5;·rw [if_pos h5] at hf;cases hf;kernel_rfl
 rw [if_neg h5] at hf;by_cases h6:k=6;·rw [if_pos h6] at hf;cases hf;kernel_rfl
 rw [if_neg h6] at hf;by_cases h7:k=7;·rw [if_pos h7] at hf;cases hf;kernel_rfl
 rw [if_neg h7] at hf;by_cases h8:k=8;·exact absurd h8 hk
 rw [if_neg h8] at hf;by_cases h9:k=9;·rw [if_pos h9] at hf;cases hf;kernel_rfl
 rw [if_neg h9] at hf;by_cases NQ:k=10;·rw [if_pos NQ] at hf;cases hf;kernel_rfl
 rw [if_neg NQ] at hf;by_cases Kg:k=11;·rw [if_pos Kg] at hf;cases hf;kernel_rfl
 rw [if_neg Kg] at hf;by_cases h12:k=12;·rw [if_pos h12] at hf;cases hf;kernel_rfl
 rw [if_neg h12] at hf;by_cases xw:k=13;·rw [if_pos xw] at hf;cases hf;kernel_rfl
 rw [if_neg xw] at hf;by_cases Zc:k=14;·rw [if_pos Zc] at hf;cases hf;kernel_rfl
 rw [if_neg Zc] at hf;by_cases h15:k=15;·rw [if_pos h15] at hf;cases hf;kernel_rfl
 rw [if_neg h15] at hf;by_cases SI:k=16;·rw [if_pos SI] at hf;cases hf;kernel_rfl
 rw [if_neg SI] at hf;cases hf
theorem agE {x:Ex} (h:nN x=0):(x.kind=3→x.mod=⟨#[]⟩)∧(x.kind=3∨x.kind=4→x.labels=[])∧(x.kind≠8→∀ l∈x.labels,eh l.ty=true)∧∀ t∈x.own,OU t:=by
 unfold nN at h;split at h;·cases h
 rename_i f hf;split at h;·cases h
 rename_i h1;have vO:mJ x f.fl f.ty f.lb f.kd=true:=by simpa using h1
 unfold mJ at vO;simp only [aD] at vO;obtain⟨⟨⟨⟨⟨⟨⟨⟨⟨h1,h2⟩,h3⟩,h4⟩,h5⟩,h6⟩,h7⟩,h8⟩,h9⟩,NQ⟩:=vO;refine⟨fun hk=>?_,fun hk=>?_,fun hk l hl=>?_,fun t ht=>?_⟩;·rw [hk,show jq 3=some ⟨⟨#[110]⟩,0,false,0⟩ from rfl] at hf;cases hf;unfold q1 at h1;rw [show cy ⟨#[110]⟩ ⟨#[109]⟩=false from kr] at h1;(have:jQ x.mod=true:=by simpa using h1);exact of_decide_eq_true this
 ·(have GH:f.lb=false:=by (rcases hk with hk|hk <;> rw [hk] at hf);(·rw [show jq 3=some ⟨⟨#[110]⟩,0,false,0⟩ from rfl] at hf;cases hf;rfl);rw [show jq 4=some ⟨⟨#[109,110]⟩,-1,false,0⟩ from rfl] at hf;cases hf;rfl);unfold q8 at h8;rw [GH] at h8;(have:¬ 0<x.labels.length:=by simpa using h8);exact kl (by omega)
 ·(have hb:mw f.fl l=false:=by have:=NQ;rw [Dk] at this;exact (atA.1 this l hl) |> fun h=>by simpa using h);unfold mw at hb;simp only [pe] at hb;have h2:=hb.1.2;have ht:cy f.fl ⟨#[116]⟩=false:=amw hf hk;rw [ht] at h2;simpa using h2
 have h':=h;split at h';·cases h'
 split at h';·cases h'
 split at h';·rename_i h4;exact absurd h' h4
 split at h';·cases h'
 exact Zh (lY _ _ h' t ht)
def Im.oO (x:Im):Im := { x with alias:=zz x.alias }
def Md.oO (m:Md):Md:=⟨m.path,m.imports.map Im.oO,m.decls.map Dc.oO⟩
theorem kT {α:Type} {g h:α→Nat}:∀ {l:List α},(∀ x∈l,g x≤h x)→bh g l≤bh h l
 | [],_=>ax _
 | a :: r,e=>by
  have h1:=e a (bZ ..)
  have h2:=kT (l:=r) fun x hx=>e x (bE _ hx)
  simp only [bh];omega
mutual
def Ty.w2:Ty→Nat
 | .mk _ m n ts fs=>2+m.size+n.size+Jc ts+Jd fs
def Jc:List Ty→Nat
 | []=>0
 | t :: r=>t.w2+Jc r
def Fd.w2:Fd→Nat
 | .mk n (.mk _ m n' ts fs) _=>2+n.size+m.size+n'.size+Jc ts+Jd fs
def Jd:List Fd→Nat
 | []=>0
 | f :: r=>f.w2+Jd r
end
theorem Fd.Ei (f:Fd):f.w2=f.name.size+f.ty.w2:=by obtain⟨n',⟨k,m,n,ts,fs⟩,o⟩:=f;simp only [Fd.w2,Ty.w2,Fd.name,Fd.ty];omega
theorem Ej (ts:List Ty):Jc ts=bh Ty.w2 ts:=by induction ts with|nil=>rfl|cons t r ih=>simp [Jc,bh,ih]
theorem Ek (ts:List Fd):Jd ts=bh Fd.w2 ts:=by induction ts with|nil=>rfl|cons t r ih=>simp [Jd,bh,ih]
theorem Ty.Ei (t:Ty):t.w2=2+t.mod.size+t.name.size+bh Ty.w2 t.args+bh Fd.w2 t.bp:=by obtain⟨k,m,n,ts,fs⟩:=t;simp only [Ty.w2,Ej,Ek,Ty.mod,Ty.name,Ty.args,Ty.bp]
def Lb.w2 (l:Lb):Nat:=1+l.name.size+l.var.size+l.ty.w2
mutual
def Ex.w2:Ex→Nat
 | .mk _ m n t _ ts ls ks=>2+m.size+n.size+t.size+bh Ty.w2 ts+bh Lb.w2 ls+Ni ks
def Ni:List Ex→Nat
 | []=>0
 | e :: r=>e.w2+Ni r
end
theorem Je (ts:List Ex):Ni ts=bh Ex.w2 ts:=by induction ts with|nil=>rfl|cons t r ih=>simp [Ni,bh,ih]
theorem Ex.Ei (t:Ex):t.w2=2+t.mod.size+t.name.size+t.text.size+bh Ty.w2 t.types+bh Lb.w2 t.labels+bh Ex.w2 t.kids:=by obtain⟨k,m,n,x,i,ts,ls,ks⟩:=t;rw [Ex.w2,Je];rfl
def Pm.w2 (p:Pm):Nat:=1+p.name.size+p.bound.w2
def Im.w2 (i:Im):Nat:=2+i.path.size+i.alias.size
def Dc.w2 (d:Dc):Nat:=2+d.name.size+d.note.size+bh Pm.w2 d.params+d.lower.w2+d.upper.w2+d.type.w2+d.expr.w2+d.mod.size+d.target.size
def Md.w2 (m:Md):Nat:=1+m.path.size+bh Im.w2 m.imports+bh Dc.w2 m.decls
section
theorem c3:ab.cellsOf 3=1:=kr
theorem c4:ab.cellsOf 4=1:=kr
theorem c5:ab.cellsOf 5=1:=kr
theorem c9:ab.cellsOf 9=1:=kr
section
variable {F:Addr→Option Value} {hg:Gl F} {H:Type} {enc:TypeId×Value→H} {w:World} {sp:Nat→Bool} {held:Bool} {f:Nat} {cs:List Value} {d:DataW H} {p:List MemPlace}
theorem tZ {a:List V} {cs:List Value} {off n:Nat} (h1:Rd F hg a ((cs.drop off).take n)) (h:cs.length=off+n):Rd F hg a (cs.drop off):=by rwa [bu (by simp;omega)] at h1
theorem Cs (h:DataW.trod enc ab w 0 sp held f 3 cs=some (d,p)):∃ n:Int,Rd F hg [num n] cs∧1≤Rows.uptoBulk d:=by cases f with|zero=>simp [DataW.trod] at h|succ f=>obtain⟨n,rfl,rfl⟩:=trod_int Tryz.underlying3 h;exact⟨n,KV rfl,by simp [Rows.uptoBulk]⟩
theorem k7 (h:DataW.trod enc ab w 0 sp held f 9 cs=some (d,p)):∃ s:ByteArray,Rd F hg [str s] cs∧s.size+1≤Rows.uptoBulk d:=by cases f with|zero=>simp [DataW.trod] at h|succ f =>obtain⟨n,rfl,rfl⟩:=trod_string Tryz.underlying9 h;exact⟨n,KV rfl,by simp only [Rows.uptoBulk,j6];exact ax _⟩
theorem Nj (h:DataW.trod enc ab w 0 sp held f 4 cs=some (d,p)):∃ b:Bool,Rd F hg [bl b] cs:=by cases f with|zero=>simp [DataW.trod] at h|succ f=>obtain⟨n,rfl,-⟩:=trod_bool Tryz.underlying4 h;exact⟨n,KV rfl⟩
theorem zr {T T':TypeId} {α:Type} {row:α→V} {g:α→Nat} {n:Nat} (hF:F=w.cell?) (hT:ab.underlying T=some (.slice T')) (hn:ab.cellsOf T'=n)
  (hr:∀ f',f'<f→∀ {cs:List Value} {d:DataW H} {p:List MemPlace},DataW.trod enc ab w 0 sp held f' T' cs=some (d,p)→∃ a:α,Rd F hg (row a).cells cs∧g a≤Rows.uptoBulk d)
  (h:DataW.trod enc ab w 0 sp held f T cs=some (d,p)):∃ l:List α,Rd F hg [.slice (l.map row)] cs∧bh g l+1≤Rows.uptoBulk d:=by cases f with|zero=>simp [DataW.trod] at h|succ f=>exact Rt hF hT hn (fun h=>hr f (l5 f) h) h
end
theorem c38:ab.cellsOf 38=1:=kr
theorem c39:ab.cellsOf 39=1:=kr
theorem c41:ab.cellsOf 41=5:=kr
theorem c94:ab.cellsOf 94=7:=kr
theorem c42:ab.cellsOf 42=1:=kr
theorem c43:ab.cellsOf 43=1:=kr
theorem c45:ab.cellsOf 45=8:=kr
theorem c22:ab.cellsOf 22=1:=kr
theorem c23:ab.cellsOf 23=1:=kr
theorem c25:ab.cellsOf 25=3:=kr
theorem c37:ab.cellsOf 37=1:=kr
theorem c47:ab.cellsOf 47=31:=kr
theorem c49:ab.cellsOf 49=7:=kr
theorem c97:ab.cellsOf 97=8:=kr
theorem c35:ab.cellsOf 35=2:=kr
section
variable [bk] {F:Addr→Option Value} {hg:Gl F} {H:Type} {enc:TypeId×Value→H} {w:World} {sp:Nat→Bool} {held:Bool} {f:Nat} {cs:List Value} {d:DataW H} {p:List MemPlace}
theorem El (hF:F=w.cell?):∀ (f:Nat) {cs:List Value} {d:DataW H} {p:List MemPlace},DataW.trod enc ab w 0 sp held f 41 cs=some (d,p)→∃ t:Ty,Rd F hg (cd t).cells cs∧t.w2≤Rows.uptoBulk d:=by intro f;induction f using Nat.strongRecOn with|ind f ih =>intro cs d p h;cases f with|zero=>simp [DataW.trod] at h|succ f =>obtain⟨hl,d0,p0,h0,d1,p1,h1,d2,p2,h2,d3,p3,h3,d4,p4,h4,rfl⟩:=ku Tryz.underlying41 h;simp only [c3,c9,c38,c39] at h0 h1 h2 h3 h4;rw [c41] at hl;obtain⟨k,hk,-⟩:=Cs (F:=F) (hg:=hg) h0;obtain⟨m,hm,s1⟩:=k7 (F:=F) (hg:=hg) h1;obtain⟨n,hn,s2⟩:=k7 (F:=F) (hg:=hg) h2;obtain⟨ts,Ds,bts⟩:=zr (F:=F) (hg:=hg) hF Tryz.underlying38 c41 (fun f' hf' {cs d p} h=>ih f' (by omega) h) h3;obtain⟨fs,hfs,bfs⟩:=zr (F:=F) (hg:=hg) (α:=Fd) (row:=mI) (g:=Fd.w2) hF Tryz.underlying39 c94 (fun f' hf' {cs d p} h=>by cases f' with|zero=>simp [DataW.trod] at h|succ f' =>obtain⟨hl,d0,p0,h0,d1,p1,h1,d2,p2,h2,rfl⟩:=ku Tryz.underlying94 h;simp only [c4,c9,c41] at h0 h1 h2;rw [c94] at hl;obtain⟨n,hn,s0⟩:=k7 (F:=F) (hg:=hg) h0;obtain⟨t,ht,bt⟩:=ih f' (by omega) h1;obtain⟨b,hb⟩:=Nj (F:=F) (hg:=hg) h2;rw [az] at ht;refine⟨.mk n t b,?_,?_⟩;(·rw [bO];show Rd F hg ([str n]++ah t++[bl b]) (cs.drop 0);rw [sf];exact dS hn (dS ht (tZ hb hl)));rw [Fd.Ei];simp only [Rows.uptoBulk,Rows.uptoBulkAll,Fd.ty,Fd.name];omega) h4;refine⟨.mk k m n ts fs,?_,?_⟩;(·rw [az];simp only [ah,Ty.kind,Ty.mod,Ty.name,Ty.args,Ty.bp,cP,iX];exact dS (off:=0) hk (dS hm (dS hn (dS Ds (dS hfs (Rs hl))))));simp only [Rows.uptoBulk,Rows.uptoBulkAll,Ty.w2,Ej,Ek];omega
theorem agF (hF:F=w.cell?) (h:DataW.trod enc ab w 0 sp held f 97 cs=some (d,p)):∃ x:Lb,Rd F hg (b8 x).cells cs∧x.w2≤Rows.uptoBulk d:=by cases f with|zero=>simp [DataW.trod] at h|succ f =>obtain⟨hl,d0,p0,h0,d1,p1,h1,d2,p2,h2,d3,p3,h3,rfl⟩:=ku Tryz.underlying97 h;simp only [c4,c9,c41] at h0 h1 h2 h3;rw [c97] at hl;obtain⟨n,hn,s0⟩:=k7 (F:=F) (hg:=hg) h0;obtain⟨v,hv,s1⟩:=k7 (F:=F) (hg:=hg) h1;obtain⟨t,ht,bt⟩:=El (hg:=hg) hF _ h2;obtain⟨b,hb⟩:=Nj (F:=F) (hg:=hg) h3;rw [az] at ht;refine⟨⟨n,v,t,b⟩,?_,?_⟩;(·show Rd F hg ([str n,str v]++ah t++[bl b]) (cs.drop 0);rw [sf];exact dS (a:=[str n]) hn (dS (a:=[str v]) hv (dS (b:=[bl b]) ht (tZ hb hl))));simp only [Rows.uptoBulk,Rows.uptoBulkAll,Lb.w2];omega
theorem agG (hF:F=w.cell?):∀ (f:Nat) {cs:List Value} {d:DataW H} {p:List MemPlace},DataW.trod enc ab w 0 sp held f 45 cs=some (d,p)→∃ t:Ex,Rd F hg (cu t).cells cs∧t.w2≤Rows.uptoBulk d:=by intro f;induction f using Nat.strongRecOn with|ind f ih =>intro cs d p h;cases f with|zero=>simp [DataW.trod] at h|succ f =>obtain⟨hl,d0,p0,h0,d1,p1,h1,d2,p2,h2,d3,p3,h3,d4,p4,h4,d5,p5,h5,d6,p6,h6,d7,p7,h7,rfl⟩:=ku Tryz.underlying45 h;simp only [c3,c9,c38,c42,c43] at h0 h1 h2 h3 h4 h5 h6 h7;rw [c45] at hl;obtain⟨k,hk,-⟩:=Cs (F:=F) (hg:=hg) h0;obtain⟨m,hm,s1⟩:=k7 (F:=F) (hg:=hg) h1;obtain⟨n,hn,s2⟩:=k7 (F:=F) (hg:=hg) h2;obtain⟨x,hx,s3⟩:=k7 (F:=F) (hg:=hg) h3;obtain⟨i,hi,-⟩:=Cs (F:=F) (hg:=hg) h4;obtain⟨ts,Ds,bts⟩:=zr (F:=F) (hg:=hg) hF Tryz.underlying38 c41 (fun f' _ {cs d p} h=>El hF f' h) h5;obtain⟨ls,hls,bls⟩:=zr (F:=F) (hg:=hg) hF Tryz.underlying42 c97 (fun f' _ {cs d p} h=>agF hF h) h6;obtain⟨ks,V2,bks⟩:=zr (F:=F) (hg:=hg) hF Tryz.underlying43 c45 (fun f' hf' {cs d p} h=>ih f' (by omega) h) h7;refine⟨.mk k m n x i ts ls ks,?_,?_⟩;(·rw [aT];simp only [aJ,Ex.kind,Ex.mod,Ex.name,Ex.text,Ex.num,Ex.types,Ex.labels,Ex.kids,cP,kA];exact dS (off:=0) hk (dS hm (dS hn (dS hx (dS hi (dS Ds (dS hls (dS V2 (Rs hl)))))))));simp only [Rows.uptoBulk,Rows.uptoBulkAll,Ex.w2,Je];omega
theorem agH (hF:F=w.cell?) (h:DataW.trod enc ab w 0 sp held f 49 cs=some (d,p)):∃ x:Pm,Rd F hg (cj x).cells cs∧x.w2≤Rows.uptoBulk d:=by cases f with|zero=>simp [DataW.trod] at h|succ f =>obtain⟨hl,d0,p0,h0,d1,p1,h1,d2,p2,h2,rfl⟩:=ku Tryz.underlying49 h;simp only [c3,c9,c41] at h0 h1 h2;rw [c49] at hl;obtain⟨n,hn,s0⟩:=k7 (F:=F) (hg:=hg) h0;obtain⟨v,hv,-⟩:=Cs (F:=F) (hg:=hg) h1;obtain⟨t,ht,bt⟩:=El (hg:=hg) hF _ h2;rw [az] at ht;refine⟨⟨n,v,t⟩,?_,?_⟩;(·show Rd F hg ([str n,num v]++ah t) (cs.drop 0);exact dS (a:=[str n]) hn (dS (a:=[num v]) hv (tZ ht hl)));simp only [Rows.uptoBulk,Rows.uptoBulkAll,Pm.w2];omega
theorem agI (h:DataW.trod enc ab w 0 sp held f 35 cs=some (d,p)):∃ x:Im,Rd F hg (cA x).cells cs∧x.w2≤Rows.uptoBulk d:=by cases f with|zero=>simp [DataW.trod] at h|succ f =>obtain⟨hl,d0,p0,h0,d1,p1,h1,rfl⟩:=ku Tryz.underlying35 h;simp only [c9] at h0 h1;rw [c35] at hl;obtain⟨n,hn,s0⟩:=k7 (F:=F) (hg:=hg) h0;obtain⟨v,hv,s1⟩:=k7 (F:=F) (hg:=hg) h1;refine⟨⟨n,v⟩,?_,?_⟩;(·exact dS (a:=[str n]) (off:=0) hn (tZ (a:=[str v]) hv hl));simp only [Rows.uptoBulk,Rows.uptoBulkAll,Im.w2];omega
theorem agJ (hF:F=w.cell?) (h:DataW.trod enc ab w 0 sp held f 47 cs=some (d,p)):∃ x:Dc,Rd F hg (bI x).cells cs∧x.w2≤Rows.uptoBulk d:=by cases f with|zero=>simp [DataW.trod] at h|succ f =>obtain⟨hl,d0,p0,h0,d1,p1,h1,d2,p2,h2,d3,p3,h3,d4,p4,h4,d5,p5,h5,d6,p6,h6,d7,p7,h7,d8,p8,h8,d9,p9,h9,d10,p10,NQ,d11,p11,Kg,rfl⟩:=ku Tryz.underlying47 h;simp only [c3,c4,c9,c41,c45,c37] at h0 h1 h2 h3 h4 h5 h6 h7 h8 h9 NQ Kg;rw [c47] at hl;obtain⟨k,hk,-⟩:=Cs (F:=F) (hg:=hg) h0;obtain⟨n,hn,s1⟩:=k7 (F:=F) (hg:=hg) h1;obtain⟨x,hx⟩:=Nj (F:=F) (hg:=hg) h2;obtain⟨y,hy⟩:=Nj (F:=F) (hg:=hg) h3;obtain⟨o,ho,s4⟩:=k7 (F:=F) (hg:=hg) h4;obtain⟨ps,qd,bps⟩:=zr (F:=F) (hg:=hg) hF Tryz.underlying37 c49 (fun f' _ {cs d p} h=>agH hF h) h5;obtain⟨lo,qO,blo⟩:=El (hg:=hg) hF _ h6;obtain⟨up,hup,bup⟩:=El (hg:=hg) hF _ h7;obtain⟨ty,hty,bty⟩:=El (hg:=hg) hF _ h8;obtain⟨e,he,be⟩:=agG (hg:=hg) hF _ h9;obtain⟨m,hm,s10⟩:=k7 (F:=F) (hg:=hg) NQ;obtain⟨t,ht,s11⟩:=k7 (F:=F) (hg:=hg) Kg;rw [az] at qO hup hty;rw [aT] at he;refine⟨⟨k,n,x,y,o,ps,lo,up,ty,e,m,t⟩,?_,?_⟩;(·show Rd F hg ([num k,str n,bl x,bl y,str o,.slice (ps.map cj)]++ah lo++ah up++ah ty++aJ e++[str m,str t]) (cs.drop 0);simp only [sf];exact dS (a:=[num k]) hk (dS (a:=[str n]) hn (dS (a:=[bl x]) hx (dS (a:=[bl y]) hy (dS (a:=[str o]) ho (dS (a:=[.slice (ps.map cj)]) qd (dS qO (dS hup (dS hty (dS he (dS (a:=[str m]) hm (tZ (a:=[str t]) ht hl))))))))))));simp only [Rows.uptoBulk,Rows.uptoBulkAll,Dc.w2];omega
theorem agK (hF:F=w.cell?) (h:DataW.trod enc ab w 0 sp held f 25 cs=some (d,p)):∃ x:Md,Rd F hg (iM x).cells cs∧x.w2≤Rows.uptoBulk d:=by cases f with|zero=>simp [DataW.trod] at h|succ f =>obtain⟨hl,d0,p0,h0,d1,p1,h1,d2,p2,h2,rfl⟩:=ku Tryz.underlying25 h;simp only [c9,c22,c23] at h0 h1 h2;rw [c25] at hl;obtain⟨n,hn,s0⟩:=k7 (F:=F) (hg:=hg) h0;obtain⟨is,his,bis⟩:=zr (F:=F) (hg:=hg) hF Tryz.underlying22 c35 (fun f' _ {cs d p} h=>agI h) h1;obtain⟨ds,hds,bds⟩:=zr (F:=F) (hg:=hg) hF Tryz.underlying23 c47 (fun f' _ {cs d p} h=>agJ hF h) h2;refine⟨⟨n,is,ds⟩,?_,?_⟩;(·exact dS (a:=[str n]) (off:=0) hn (dS (a:=[.slice (is.map cA)]) his (tZ (a:=[.slice (ds.map bI)]) hds hl)));simp only [Rows.uptoBulk,Rows.uptoBulkAll,Md.w2];omega
end
end
end Go.Proofs.YtnboooapeopjoaaGreatDoor
end
section
namespace Go.Proofs.YtnboooapeopjoaaGreatDoor
open Go.Eng
set_option maxHeartbeats 4000000
set_option maxRecDepth 100000
section
open Go.ChangeShapes Go.WideShapes Go.ChangeAt Go.RowKit
@[reducible] def gOf (n:Int):bk := { n:=n,κ:=fun _=>none,ok:=fun j b hb=>(by cases hb),g:=some 1,ZT:=fun _=>none }
theorem S0 {W:World} {v:Value} (fF:Cell.ok ab W .any 0 3 v):∃ n:Int,v = .int .i64 n:=by unfold Cell.ok at fF;rw [Tryz.underlying3] at fF;cases v with|int k n=>exact⟨n,by rw [show k = .i64 from fF.1]⟩|_=>exact fF.elim
theorem O6 {W:World} (hS:W.ShapedOpen ab):∃ n:Int,W.cell? ⟨1,0,none⟩=some (.int .i64 n):=by
 have h0:(((begin ab (fun _ _=>0) default).world.heap[1]?).bind Obj.row?)=some (#[.int .i64 0],3):=kr;obtain⟨cs,hc,hz,hr⟩:=hS.1 1 _ _ (of_decide_eq_true kr) h0;obtain⟨ts,h1,-,h3⟩:=hr kr;obtain rfl:[3]=ts:=vH ((show ab.cellTypes ab.depth 3=some [3] from kr).symm.trans h1);have hz':cs.size=1:=hz;obtain⟨v,hv⟩:∃ v,cs[0]?=some v:=⟨cs[0],b9 (by omega)⟩;obtain⟨u,hu,fF⟩:=h3 0 v hv;obtain rfl:3=u:=by simpa using hu
 obtain⟨n,rfl⟩:=S0 fF;exact⟨n,by simp [World.cell?,hc,hv]⟩
theorem Xi {F:Addr→Option Value} [bk] {hg:Gl F} {cs:List V} {v:Value} (cK:cs.length≠1) (h:Rd F hg cs v.cells.toList):cV ⟨F,fun _ _=>none,hg⟩ (.agg cs) v:=by cases v with|agg xs=>exact .agg _ _ _ (by simpa [Value.cells] using h.1.1) fun i c x hc hx=>h.1.2 i c x hc (by simpa [Value.cells] using hx)|_=>exact absurd h.1.1 (by simpa [Value.cells] using cK)
theorem O7 {H:Type} {enc:TypeId×Value→H} {P:Program} {f:Func} {s:ChangeSpec} {apart fresh handsOn again:Bool} {W W':World} {args:Array Value} {v:Value} {ds gs:List (DataW H)} {before pa pv:List MemPlace}
  (hW:DataW.Whole enc P f.params.toList s.vars apart W args.toList ds gs before)
  (bM:∀ (b:Nat) (sp:Nat→Bool) (hd:Bool),DataW.TrodAll enc P W' b sp hd f.resultTypes.toList (v.resultList f.resultTypes.size) (s.fn H (ds++gs)).results [])
  (pC:∀ sp:Nat→Bool,(∀ p∈before,sp p.block=true)→DataW.TrodAll enc P W' 0 sp true f.params.toList args.toList (s.fn H (ds++gs)).args pa)
  (Zi:∀ sp:Nat→Bool,(∀ p∈before,sp p.block=true)→DataW.TrodVars enc P W' sp s.vars (s.fn H (ds++gs)).vars pv)
  (qd:before=pa++pv) (hb:Below W.heap.size W W')
  (fF:∀ (j:Nat) (t:TypeId) (r:Value),f.resultTypes[j]?=some t→(v.resultList f.resultTypes.size)[j]?=some r→Value.okWide P W' .any 0 t r) :
  s.post enc P f apart fresh handsOn again W args v W':=by
 have bR:=hW.lt;refine⟨ds,gs,before,[],pa,pv,hW,bM _ _ _,pC _ (fun p hp=>by simpa using bR p hp),Zi _ (fun p hp=>by simpa using bR p hp),hb.frame _,fun _=>?_⟩;obtain⟨_,_,_,_,_,hz,hn⟩:=hW;refine⟨fF,_,_,([]++pa)++pv,⟨[]++pa,pv,trodAll_append (pC _ (fun _ _=>rfl)) (bM _ _ _),Zi _ (fun _ _=>rfl),rfl,fun b off hp=>?_,fun ha=>?_⟩,fun p hp _=>?_⟩;·(have Yb:MemPlace.cell b off∈before:=by rw [qd];simpa using hp);rw [hb.frozen (show (⟨b,off,none⟩:Addr).block<W.heap.size from bR _ Yb)];exact hz b off Yb
 ·have:=hn ha;rw [qd] at this;simpa using this
 rw [qd];simpa using hp
theorem amy {F:Addr→Option Value} [bk] {hg:Gl F} {rows:List V} {a:Option Addr} {l c:Nat} (h:Rd F hg [.slice rows] (Value.slice a l c).cells.toList):cV ⟨F,fun _ _=>none,hg⟩ (.slice rows) (.slice a l c):=h.1.2 0 _ _ rfl rfl
theorem adT {P:Program} {W:World} {base:Nat} {T:TypeId} {v:Value} (hT:P.underlying T=some (.int .u8)) (h:Value.okWide P W .any base T v):∃ c:Nat,c<256∧v = .int .u8 (c:Int):=by unfold Value.okWide at h;rw [hT] at h;unfold Cell.okWide at h;rw [hT] at h;cases v with|int k n =>simp only [Cell.ok,hT] at h;obtain⟨rfl,h1,h2⟩:=h;(have h3:(IntKind.u8).min=0:=by decide);(have h4:(IntKind.u8).max=255:=by decide);rw [h3] at h1;rw [h4] at h2;exact⟨n.toNat,by omega,by rw [Int.toNat_of_nonneg h1]⟩|_=>simp [Cell.ok,hT] at h
end
end Go.Proofs.YtnboooapeopjoaaGreatDoor
end
section
namespace Go.Proofs.YtnboooapeopjoaaGreatDoor
open Go.Eng
variable [bk]
set_option maxHeartbeats 4000000
set_option maxRecDepth 100000
def S2 (x:Ex) (i:Nat):List ByteArray :=
 (if x.kind=8∧i+1=x.kids.length then x.labels.map Lb.name else [])++(if x.kind=10∧i=1 then [x.name] else [])++(if x.kind=13∧0<i then [(x.labels[i-1]?).elim ⟨#[]⟩ Lb.var] else [])++(if x.kind=15∧i=2 then [x.name,x.text] else [])
structure Good (X:Rv) (bf:List ByteArray):Prop where
 mp:dY X.mp=true
 al:∀ s,yh X s=0→dY (tW X s)=true∧tW X s≠X.mp
 bf:∀ s,ve X s=0→jC s bf=true
def yr (t:Ty):Prop:=∀ u∈t.nodes,u.kind≠9
theorem O8 {t p:Ty} (h:yr t) (hp:p∈t.parts):yr p:=fun u hu=>h u (by rw [t.dy];exact bE _ (gK.2 ⟨p,hp,hu⟩))
theorem Em {t:Ty} (h:yr t):t.kind≠9:=h t (by rw [t.dy];exact bZ ..)
def S3 (x:Ex):Prop:=∀ u∈x.nodes,∀ t∈u.own,yr t
theorem S4 {x k:Ex} (h:S3 x) (hk:k∈x.kids):S3 k:=fun u hu=>h u (by rw [x.dy];exact bE _ (gK.2 ⟨k,hk,hu⟩))
theorem O9 {x:Ex} (h:S3 x):∀ t∈x.own,yr t:=h x (by rw [x.dy];exact bZ ..)
section
def Gf:Ty:=.mk 0 ⟨#[]⟩ ⟨#[]⟩ [] []
def yu:Ex:=.mk 0 ⟨#[]⟩ ⟨#[]⟩ ⟨#[]⟩ 0 [] [] []
theorem kU {α:Type} {f:Int→α→Int} {e:α→Int}:∀ {l:List α},(∀ x∈l,∀ a,f a x=jX a (e x))→∀ a,l.foldl f a=jX a (bT e l)
 | [],_,a=>(oS a).symm
 | x :: r,h,a=>by
  rw [fq,kU (fun y hy=>h y (bE _ hy)),h x (bZ ..),kR]
  rfl
theorem qH {α:Type} {f:α→Int} {l:List α} {i:Nat} {x:α} (h:l[i]?=some x) (F:Int):jX (bT f (l.drop i)) F=if f x=0 then jX (bT f (l.drop (i+1))) F else f x:=by
 rw [m9 f h];by_cases hz:f x=0;·rw [if_pos hz,if_pos hz]
 rw [if_neg hz,if_neg hz];unfold jX;rw [if_neg hz]
def qI (a:ByteArray):List Im→Option ByteArray
 | []=>none
 | x :: r=>if x.alias=a then some x.path else qI a r
theorem Xj {a:ByteArray} {l:List Im} {i:Nat} {x:Im} (h:l[i]?=some x):qI a (l.drop i)=if x.alias=a then some x.path else qI a (l.drop (i+1)):=by have bR:=(aq.1 h).1;rw [cr bR,(aq.1 h).2];rfl
theorem Jf (path:ByteArray):∀ (l b:List Im),(gp (pc path) b l).2=0→(l.map Im.alias).Nodup∧∀ y∈l,∀ z∈b,z.alias≠y.alias
 | [],_,_=>⟨atq,fun y hy=>by cases hy⟩
 | x :: r,b,h=>by
  unfold gp at h
  have h0:pc path b x=0∧(gp (pc path) (b++[x]) r).2=0:=by
   by_cases hx:pc path b x=0
   ·rw [if_pos hx] at h
    refine⟨hx,?_⟩
    by_cases h2:(gp (pc path) (b++[x]) r).2=0
    ·exact h2
    rw [if_neg h2] at h;exact h
   rw [if_neg hx] at h;exact absurd h hx
  have hn:∀ z∈b,z.alias≠x.alias:=by
   have h1:=h0.1
   unfold pc at h1
   split at h1
   ·cases h1
   split at h1
   ·cases h1
   split at h1
   ·cases h1
   rename_i hc
   intro y hy e
   exact hc (Gu.2 ⟨y,hy,by rw [e];simp⟩)
  obtain⟨i1,i2⟩:=Jf path r (b++[x]) h0.2
  refine⟨?_,fun y hy z hz=>?_⟩
  ·rw [cz,asN]
   refine⟨fun hm=>?_,i1⟩
   obtain⟨y,hy,e⟩:=dr.1 hm
   exact i2 y hy x (gD _ (bZ ..)) e.symm
  rcases dj.1 hy with rfl|hy
  ·exact hn z hz
  exact i2 y hy z (fH _ hz)
theorem En {a:ByteArray}:∀ {l:List Im},(∀ y∈l,y.alias≠a)→qI a l=none
 | [],_=>rfl
 | x :: r,h=>by
  unfold qI
  rw [if_neg (h x (bZ ..)),En fun y hy=>h y (bE _ hy)]
theorem S5 (a:ByteArray):∀ (l:List Im) (g:List (ByteArray×ByteArray)),(l.map Im.alias).Nodup→(∀ y∈l,kj y.alias g=none)→kj a (l.foldl (fun g x=>Lm x.alias x.path g) g)=(qI a l).or (kj a g)
 | [],g,_,_=>rfl
 | x :: r,g,hd,hb=>by
  rw [cz,asN] at hd
  have hx:∀ y∈r,y.alias≠x.alias:=fun y hy e=>hd.1 (dr.2 ⟨y,hy,e⟩)
  rw [fq,S5 a r _ hd.2 (fun y hy=>by rw [IK,if_neg (fun e=>hx y hy e.symm)];exact hb y (bE _ hy)),IK,show qI a (x :: r)=if x.alias=a then some x.path else qI a r from rfl]
  by_cases ha:x.alias=a
  ·rw [if_pos ha,if_pos ha,En fun y hy e=>hx y hy (e.trans ha.symm)];rfl
  rw [if_neg ha,if_neg ha]
theorem Zj {m:Md} (h:vG m=0) (a:ByteArray):qI a m.imports=kj a (gB m.imports):=by
 have h1:(gp (pc m.path) [] m.imports).2=0:=by unfold vG at h;split at h;(·cases h);split at h;(·cases h);exact h
 unfold gB;rw [S5 a _ _ (Jf _ _ _ h1).1 fun y _=>rfl];cases qI a m.imports <;> rfl
section
variable (X:Rv) (vs:List ByteArray)
def jt (t:Ty):Int:=t.fold (gR X vs) (sR X vs) 0
def nE (t:Ty):Int:=if t.kind=10 then tE X vs t else 0
def nK (t:Ty):Int×ByteArray:=if t.kind=10 then (if t.mod=⟨#[]⟩ then (if jC t.name vs=true then (9,⟨#[]⟩) else (10,X.mp)) else (10,tW X t.mod)) else (t.kind,t.mod)
def oZ (t:Ty):Ty:=if jt X vs t=0 then t.res (gR X vs) else Gf
theorem ny:∀ (t:Ty) (a:Int),t.fold (gR X vs) (sR X vs) a=jX a (jt X vs t):=by refine Ty.induct fun t ih a=>?_;have h1:=fun a=>kU (f:=fun a t=>Ty.fold (gR X vs) (sR X vs) t a) (e:=jt X vs) (l:=t.args) (fun u hu a=>ih u (Ty.oU hu) a) a;have h2:=fun a=>kU (f:=fun a f=>Ty.fold (gR X vs) (sR X vs) (Fd.ty f) a) (e:=fun f=>jt X vs f.ty) (l:=t.bp) (fun f hf a=>ih f.ty (Ty.oV hf) a) a;unfold jt;rw [t.fold_eq,t.fold_eq];cases wW (gR X vs) t with|none=>dsimp only;unfold sR;rw [fS]|some m =>dsimp only;rw [h2,h1,h2,h1];split <;> simp only [sR,fS,kR]
theorem Xk {t:Ty} (h9:yr t):wW (gR X vs) t=if t.kind=10∧t.mod=⟨#[]⟩∧jC t.name vs=true then none else some (nK X vs t).2:=by
 have h:=Em h9;unfold wW nK gR;by_cases hk:t.kind=10;·by_cases hm:t.mod=⟨#[]⟩;(·by_cases hi:jC t.name vs=true <;> simp [hk,hm,hi]);simp [hk,hm]
 simp [hk,h]
theorem acB {t:Ty} (hn:OU t) (h9:yr t):jt X vs t=jX (nE X vs t) (jX (bT (jt X vs) t.args) (bT (fun f=>jt X vs f.ty) t.bp)) ∧
  (nE X vs t=0→t.res (gR X vs) = .mk (nK X vs t).1 (nK X vs t).2 t.name (t.args.map (Ty.res (gR X vs))) (t.bp.map (Fd.res (gR X vs)))):=by
 have h1:=fun a=>kU (f:=fun a t=>Ty.fold (gR X vs) (sR X vs) t a) (e:=jt X vs) (l:=t.args) (fun u hu a=>ny X vs u a) a;have h2:=fun a=>kU (f:=fun a f=>Ty.fold (gR X vs) (sR X vs) (Fd.ty f) a) (e:=fun f=>jt X vs f.ty) (l:=t.bp) (fun f hf a=>ny X vs f.ty a) a;have hg:=Xk X vs h9;have hk9:=Em h9;by_cases hc:t.kind=10∧t.mod=⟨#[]⟩∧jC t.name vs=true;·rw [if_pos hc] at hg;obtain⟨c1,c2,c3⟩:=hc;have hf:=(Su hn).2 (.inl c1);(have he:nE X vs t=if 0<t.args.length then 11 else 0:=by unfold nE tE;rw [if_pos c1,if_pos c2,if_pos c3]);refine⟨?_,fun h0=>?_⟩;(·(conv=>lhs;unfold jt;rw [t.fold_eq,hg]);dsimp only;unfold sR;rw [fS,show tE X vs t=nE X vs t from by unfold nE;rw [if_pos c1],he,hf];by_cases ha:0<t.args.length;(·rw [if_pos ha];rfl);rw [if_neg ha,show t.args=[] from kl (by omega)];rfl);rw [he] at h0;have ha:t.args=[]:=kl (by by_cases ha:0<t.args.length;(·rw [if_pos ha] at h0;cases h0);omega);rw [t.ke,hg,hf,ha];unfold nK;rw [if_pos c1,if_pos c2,if_pos c3];rfl
 rw [if_neg hc] at hg;refine⟨?_,fun h0=>?_⟩;·(conv=>lhs;unfold jt;rw [t.fold_eq,hg]);dsimp only;rw [h2,h1,kR];congr 1;unfold nE;by_cases hk:t.kind=10;(·rw [if_pos (.inl hk),if_pos hk];unfold sR;rw [fS]);rw [if_neg (fun h=>h.elim hk hk9),if_neg hk]
 rw [t.ke,hg];dsimp only;have:(nK X vs t).1=t.kind:=by unfold nK;by_cases hk:t.kind=10;(·rw [if_pos hk,hk];by_cases hm:t.mod=⟨#[]⟩;(·rw [if_pos hm,if_neg (fun hi=>hc ⟨hk,hm,hi⟩)]);rw [if_neg hm]);rw [if_neg hk]
 rw [this]
theorem Jg {t:Ty} (h:eh t=true):jt X vs t=0∧t.res (gR X vs)=t:=by
 unfold eh at h;simp only [aD,decide_eq_true_eq] at h;obtain⟨⟨⟨⟨h1,h2⟩,h3⟩,h4⟩,h5⟩:=h;obtain⟨k,m,n,ar,fs⟩:=t;simp only [Ty.kind,Ty.args,Ty.bp] at h1 h4 h5;have e1:=kl h4;have e2:=kl h5;subst e1;subst e2;subst h1;constructor;·rfl
 rw [Ty.ke];rfl
end
section
variable (X:Rv) (vs:List ByteArray)
noncomputable def ua (loc:List ByteArray) (x:Ex):Int:=x.fold (gR X vs) (hR X) (sR X vs) (vR X) loc 0
def xE (loc:List ByteArray) (x:Ex):Int:=if x.kind=3∨x.kind=4 then vE X loc x else 0
noncomputable def zT (lo:Nat→List ByteArray):Nat→List Ex→Int
 | _,[]=>0
 | i,x :: r=>jX (ua X vs (lo i) x) (zT lo (i+1) r)
noncomputable def rZ (loc:List ByteArray) (x:Ex):Ex:=if ua X vs loc x=0 then x.res (gR X vs) (hR X) loc else yu
theorem S6 (lo:Nat→List ByteArray) {ks:List Ex} {i:Nat} {k:Ex} (h:ks[i]?=some k):zT X vs lo i (ks.drop i)=if ua X vs (lo i) k=0 then zT X vs lo (i+1) (ks.drop (i+1)) else ua X vs (lo i) k:=by have bR:=(aq.1 h).1;rw [cr bR,(aq.1 h).2];rfl
theorem vq (lo:Nat→List ByteArray):∀ (ks:List Ex) (i:Nat),(∀ k∈ks,∀ loc a,k.fold (gR X vs) (hR X) (sR X vs) (vR X) loc a=jX a (ua X vs loc k))→∀ a,eR (gR X vs) (hR X) (sR X vs) (vR X) lo i ks a=jX a (zT X vs lo i ks)
 | [],i,_,a=>by rw [eR,zT,oS]
 | k :: r,i,h,a=>by
  rw [eR,vq lo r (i+1) fun k hk=>h k (bE _ hk),h k (bZ ..),kR,zT]
theorem Zk (loc:List ByteArray) (x:Ex):Vg (hR X) x loc=lg x.kind x.labels x.name x.text x.kids.length loc:=by
 unfold Vg kC;by_cases hk:x.kind=3∨x.kind=4;·rw [if_pos hk];(have hl:∀ k:Int,k=3∨k=4→lg k x.labels x.name x.text x.kids.length loc=fun _=>loc:=fun k h=>by funext i;unfold lg;rw [if_neg (by omega),if_neg (by omega),if_neg (by omega),if_neg (by omega)]);rw [hl _ hk,hl];unfold hR;split;(·split;(·exact hk);exact .inr rfl);exact hk
 rw [if_neg hk]
theorem S7 (loc:List ByteArray) {x:Ex} (hz:x.kind≠8→∀ l∈x.labels,eh l.ty=true):bT (fun l=>jt X vs (Lb.ty l)) (if (kC (hR X) loc x).1=8 then x.labels else [])=bT (fun l=>jt X vs l.ty) x.labels∧Y4 (gR X vs) (kC (hR X) loc x).1 x.labels=x.labels.map (Lb.res (gR X vs)):=by
 unfold Y4;by_cases hk:x.kind=8;·rw [if_pos ((F3 X loc x).2 hk),if_pos ((F3 X loc x).2 hk)];exact⟨rfl,rfl⟩
 rw [if_neg fun h=>hk ((F3 X loc x).1 h),if_neg fun h=>hk ((F3 X loc x).1 h)];refine⟨(Eh _ fun l hl=>(Jg X vs (hz hk l hl)).1).symm,?_⟩;refine (tm fun l hl=>?_).symm;show { l with ty:=l.ty.res (gR X vs) }=l;rw [(Jg X vs (hz hk l hl)).2]
theorem Jh:∀ (N:Nat) (x:Ex),x.size≤N→∀ loc a,x.fold (gR X vs) (hR X) (sR X vs) (vR X) loc a=jX a (ua X vs loc x):=by intro N;induction N with|zero=>intro x h;have:=x.size_pos;omega|succ N ih =>intro x hN loc a;have h1:=fun a=>kU (f:=fun a t=>Ty.fold (gR X vs) (sR X vs) t a) (e:=jt X vs) (l:=x.types) (fun u hu a=>ny X vs u a) a;have h2:=fun a=>kU (f:=fun a l=>Ty.fold (gR X vs) (sR X vs) (Lb.ty l) a) (e:=fun l=>jt X vs l.ty) (l:=if (kC (hR X) loc x).1=8 then x.labels else []) (fun f hf a=>ny X vs f.ty a) a;have h3:=vq X vs (Vg (hR X) x loc) x.kids 0 fun k hk loc a=>ih k (by have:=x.LD hk;omega) loc a;unfold ua;rw [x.fold_eq,x.fold_eq,h3,h2,h1,h3,h2,h1];split <;> simp only [vR,fS,kR]
theorem acC (loc:List ByteArray) (x:Ex) (hz:x.kind≠8→∀ l∈x.labels,eh l.ty=true):ua X vs loc x=jX (xE X loc x) (jX (bT (jt X vs) x.types) (jX (bT (fun l=>jt X vs l.ty) x.labels) (zT X vs (lg x.kind x.labels x.name x.text x.kids.length loc) 0 x.kids))):=by
 have h1:=fun a=>kU (f:=fun a t=>Ty.fold (gR X vs) (sR X vs) t a) (e:=jt X vs) (l:=x.types) (fun u hu a=>ny X vs u a) a;have h2:=fun a=>kU (f:=fun a l=>Ty.fold (gR X vs) (sR X vs) (Lb.ty l) a) (e:=fun l=>jt X vs l.ty) (l:=if (kC (hR X) loc x).1=8 then x.labels else []) (fun f hf a=>ny X vs f.ty a) a;have h3:=vq X vs (Vg (hR X) x loc) x.kids 0 fun k hk loc a=>Jh X vs k.size k (ax _) loc a;conv=>lhs;unfold ua
 rw [x.fold_eq,h3,h2,h1,(S7 X vs loc hz).1,Zk];unfold xE;split <;> simp only [vR,fS,kR]
theorem acD (loc:List ByteArray) (x:Ex) (hz:x.kind≠8→∀ l∈x.labels,eh l.ty=true):x.res (gR X vs) (hR X) loc = .mk (kC (hR X) loc x).1 (kC (hR X) loc x).2 x.name x.text x.num (x.types.map (Ty.res (gR X vs))) (x.labels.map (Lb.res (gR X vs))) (dR (gR X vs) (hR X) (lg x.kind x.labels x.name x.text x.kids.length loc) 0 x.kids):=by rw [x.ke,(S7 X vs loc hz).2,Zk]
end
theorem Xl (s:ByteArray) (a:List ByteArray):jC s a.reverse=jC s a:=by unfold jC;rw [List.any_reverse]
theorem Xn {L loc:List ByteArray} (h:∀ s,jC s L=jC s loc) (x:Ex) (i:Nat) (s:ByteArray):jC s (L++S2 x i)=jC s (lg x.kind x.labels x.name x.text x.kids.length loc i):=by
 have hc:∀ (a:ByteArray) (l:List ByteArray),jC s (a :: l)=(decide (s=a)||jC s l):=fun _ _=>rfl;have h0:jC s []=false:=rfl;rw [pJ,h];unfold S2 lg;by_cases c8:x.kind=8∧i+1=x.kids.length;·rw [if_pos c8,if_neg (by omega),if_neg (by omega),if_neg (by omega),if_pos c8];simp only [pJ,Xl,h0,aP,aQ,asO]
 rw [if_neg c8,if_neg c8];by_cases c10:x.kind=10∧i=1;·rw [if_pos c10,if_neg (by omega),if_neg (by omega),if_pos c10];simp only [pJ,hc,h0,aP,aQ,asO]
 rw [if_neg c10,if_neg c10];by_cases c13:x.kind=13∧0<i;·rw [if_pos c13,if_neg (by omega),if_pos c13];simp only [pJ,hc,h0,aP,aQ,asO]
 rw [if_neg c13,if_neg c13];by_cases c15:x.kind=15∧i=2;·rw [if_pos c15,if_pos c15];simp only [pJ,hc,h0,aP,aQ];cases decide (s=x.text) <;> cases decide (s=x.name) <;> cases jC s loc <;> rfl
 rw [if_neg c15,if_neg c15];simp only [pJ,h0,aP]
end
theorem acE (T:TypeId) (x y:Operand) (a b:ByteArray):eO ab (r7 .gtr T x y) (str a) (str b)=some (bl (!Op.bytesLess a.toList b.toList && !decide (a=b))):=by simp [eO,fI,r7,binOp,Op.stringOp,eqGuard,dc,lj,bind,pure,Sem.bind,de]
theorem S8 (a b:ByteArray):Rz b a=(!Op.bytesLess a.toList b.toList && !decide (a=b)):=by
 rw [show Op.bytesLess a.toList b.toList=Rz a b from rfl,FI,FI];by_cases h:a=b;·subst h;simp [asW]
 have cK:a.data.toList≠b.data.toList:=fun e=>h (by cases a;cases b;congr 1;exact ajq.1 e);by_cases h1:a.data.toList<b.data.toList;·have h2:¬ b.data.toList<a.data.toList:=fun h2=>asW _ (atj h1 h2);simp [h1,h2]
 have h2:b.data.toList<a.data.toList:=atL h1 cK.symm;simp [h1,h2,h]
theorem Aq (t:Ty):K8 t=(!(decide (t.kind<0)||decide (10<t.kind)) && !(!decide (t.kind=10)&&(!decide ((t.args.length:Int)=(if t.kind=5∨t.kind=8 then 1 else 0)) || !decide (t.mod=⟨#[]⟩)) || !(decide (t.kind=6)||decide (t.kind=7)||decide (t.kind=8))&&decide (0<(t.bp.length:Int)) || !decide (t.kind=10) && !decide (t.kind=9) && !decide (t.name=⟨#[]⟩)) && !(t.bp.any fun x=>x.opt && !decide (t.kind=8))):=by
 have AO:t.kind≠8→(t.bp.any fun x=>x.opt && !decide (t.kind=8))=t.bp.any Fd.opt:=fun h=>by simp [h]
 have S9:t.kind=8→(t.bp.any fun x=>x.opt && !decide (t.kind=8))=false:=fun h=>by simp [h]
 have uf:∀ n:Nat,decide (0<(n:Int)) = !decide (n=0):=fun n=>by by_cases h:n=0 <;> simp [h] <;> omega
 by_cases hk:t.kind<0∨10<t.kind;·(have h1:(decide (t.kind<0)||decide (10<t.kind))=true:=by simpa using hk);rw [h1];unfold K8;rw [if_neg (by omega),if_neg (by omega),if_neg (by omega),if_neg (by omega),if_neg (by omega),if_neg (by omega)];simp
 have:t.kind=0∨t.kind=1∨t.kind=2∨t.kind=3∨t.kind=4∨t.kind=5∨t.kind=6∨t.kind=7∨t.kind=8∨t.kind=9∨t.kind=10:=by omega
 have he:t.bp.length=0→t.bp.any Fd.opt=false:=fun h=>by rw [b7.1 h];rfl
 unfold K8 jQ;rw [uf];obtain⟨nf,PC⟩:∃ b,decide (t.bp.length=0)=b:=⟨_,rfl⟩;obtain⟨em,iD⟩:∃ b,decide (t.mod=⟨#[]⟩)=b:=⟨_,rfl⟩;obtain⟨en,fX⟩:∃ b,decide (t.name=⟨#[]⟩)=b:=⟨_,rfl⟩;obtain⟨ao,Za⟩:∃ b,t.bp.any Fd.opt=b:=⟨_,rfl⟩;have h0:decide ((t.args.length:Int)=0)=decide (t.args.length=0):=by simp only [ci0]
 have h1:decide ((t.args.length:Int)=1)=decide (t.args.length=1):=by simp only [ci1]
 obtain⟨a0,ha0⟩:∃ b,decide (t.args.length=0)=b:=⟨_,rfl⟩;obtain⟨a1,ha1⟩:∃ b,decide (t.args.length=1)=b:=⟨_,rfl⟩;have U0:nf=true→ao=false:=fun h=>by rw [← Za];exact he (of_decide_eq_true (PC.trans h))
 rcases this with h|h|h|h|h|h|h|h|h|h|h <;> first
  | (rw [S9 h,Za,PC,iD,fX];simp only [h,kI,Int.reduceLT,or_false,or_true,false_or,true_or,if_true,if_false,reduceIte,h0,h1,ha0,ha1,decide_true,decide_false];clear AO S9 uf he PC iD fX Za ha0 ha1 h0 h1 hk;cases em <;> cases en <;> cases nf <;> cases a0 <;> cases a1 <;> cases ao <;> first|rfl|(cases U0 rfl))
  | (rw [AO (by rw [h];decide),Za,PC,iD,fX];simp only [h,kI,Int.reduceLT,or_false,or_true,false_or,true_or,if_true,if_false,reduceIte,h0,h1,ha0,ha1,decide_true,decide_false];clear AO S9 uf he PC iD fX Za ha0 ha1 h0 h1 hk;cases em <;> cases en <;> cases nf <;> cases a0 <;> cases a1 <;> cases ao <;> first|rfl|(cases U0 rfl))
theorem Ta {t:Ty} (hs:K8 t=true) (h:(decide ((32:Int)<(t.bp.length:Int))||decide (t.kind=10)&&decide ((8:Int)<(t.args.length:Int)))=false):¬ (32<t.bp.length∨8<t.args.length):=by
 unfold K8 at hs;simp only [pe,xq,decide_eq_false_iff_not,aD] at h hs;obtain⟨-,hs⟩:=hs;have h1:=h.1;have h2:=h.2;intro hc;rcases hc with hc|hc
 ·exact h1 (by omega)
 rcases h2 with h2|h2
 ·(repeat' split at hs);all_goals first|(simp only [aD,decide_eq_true_eq] at hs;omega)|(simp at hs;done)|omega
 exact h2 (by omega)
theorem acF (t:Ty):tU t=if (decide (t.kind<0)||decide (10<t.kind))=true then 1 else if (!decide (t.kind=10)&&(!decide ((t.args.length:Int)=(if t.kind=5∨t.kind=8 then 1 else 0)) || !decide (t.mod=⟨#[]⟩)) || !(decide (t.kind=6)||decide (t.kind=7)||decide (t.kind=8))&&decide (0<(t.bp.length:Int)) || !decide (t.kind=10) && !decide (t.kind=9) && !decide (t.name=⟨#[]⟩))=true then 1 else if (t.bp.any fun x=>x.opt && !decide (t.kind=8))=true then 1 else if (decide ((32:Int)<(t.bp.length:Int))||decide (t.kind=10)&&decide ((8:Int)<(t.args.length:Int)))=true then 7 else if (decide (t.kind=9) && !x9 t.name||decide (t.kind=10)&&(!nT t.mod || !ka t.name))=true then 4 else if (t.bp.any fun x=>!dJ x.name)=true then 4 else iN (t.bp.map Fd.name):=by
 rw [Sz];by_cases a:(decide (t.kind<0)||decide (10<t.kind))=true;·rw [if_pos a,if_pos (by rw [Aq,a];rfl)]
 rw [if_neg a];rw [Gv] at a;by_cases b:(!decide (t.kind=10)&&(!decide ((t.args.length:Int)=(if t.kind=5∨t.kind=8 then 1 else 0)) || !decide (t.mod=⟨#[]⟩)) || !(decide (t.kind=6)||decide (t.kind=7)||decide (t.kind=8))&&decide (0<(t.bp.length:Int)) || !decide (t.kind=10) && !decide (t.kind=9) && !decide (t.name=⟨#[]⟩))=true;·rw [if_pos b,if_pos (by rw [Aq,a,b];rfl)]
 rw [if_neg b];rw [Gv] at b;by_cases c:(t.bp.any fun x=>x.opt && !decide (t.kind=8))=true;·rw [if_pos c,if_pos (by rw [Aq,a,b,c];rfl)]
 rw [if_neg c];rw [Gv] at c;have hs:K8 t=true:=by rw [Aq,a,b,c];rfl
 rw [if_neg (by rw [hs];simp)];by_cases d:(decide ((32:Int)<(t.bp.length:Int))||decide (t.kind=10)&&decide ((8:Int)<(t.args.length:Int)))=true;·rw [if_pos d,if_pos (by simp only [qb,aD,decide_eq_true_eq] at d;omega)]
 rw [if_neg d,if_neg (Ta hs (by rw [Gv] at d;exact d))];by_cases e:(decide (t.kind=9) && !x9 t.name||decide (t.kind=10)&&(!nT t.mod || !ka t.name))=true;·rw [if_pos e,if_pos (by simpa using e)]
 rw [if_neg e,if_neg (by simpa using e)]
end Go.Proofs.YtnboooapeopjoaaGreatDoor
end
