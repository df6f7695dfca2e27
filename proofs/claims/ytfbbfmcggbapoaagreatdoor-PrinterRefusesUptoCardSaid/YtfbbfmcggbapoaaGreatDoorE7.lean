import Derived.Test.YtfbbfmcggbapoaaGreatDoorE6
import Derived.Lib.AppendStr
import Derived.Laws.AppendOwn
import Derived.Lib.UnsafeStr
open Array renaming getElem?_modify→arl,getElem?_toList→dQ,length_toList→gb,toArray_toList→cE
open Bool renaming and_eq_true→aL,and_self→oP,and_true→aO,false_eq_true→bF,not_false→aR,not_true→aY,true_and→aP
open Int renaming natCast_nonneg→gJ,toNat_natCast→nK
open List renaming all_cons→cH,all_eq_true→aZ,all_nil→dS,append_assoc→aA,append_nil→ah,cons_append→ay,drop_succ_cons→zq,drop_zero→j1,ext_getElem?→dM,find?_eq_none→asj,flatMap_cons→ae,flatMap_nil→ag,foldl_cons→ew,foldl_nil→rn,getD_eq_getElem?_getD→eN,getElem?_append→oV,getElem?_append_left→bA,getElem?_append_right→a8,getElem?_cons_succ→cp,getElem?_cons_zero→aJ,getElem?_drop→arM,getElem?_eq_getElem→aw,getElem?_eq_none→ec,getElem?_eq_some_iff→az,getElem?_map→ak,getElem?_range→arQ,getElem?_set→bX,getElem?_set_ne→cP,getElem?_set_self→eX,getElem?_take→kz,getElem?_take_of_lt→jI,getElem?_toArray→ast,length_append→ab,length_cons→af,length_drop→dw,length_map→au,length_nil→ai,length_take→cQ,map_append→pM,map_cons→bT,map_nil→jo,mem_cons→cI,mem_map→eI,mem_of_getElem?→aE,mem_range→al4,nil_append→aC,not_mem_nil→iM,range'_succ→aro,range_eq_range'→arp,set_cons_succ→bw,set_cons_zero→bo,set_set→ap7,take_append_drop→kT,take_length→al,take_succ_cons→gf,take_zero→gQ
open Nat renaming add_sub_cancel_left→ee,add_zero→jm,le_refl→aB,lt_irrefl→ans,lt_of_lt_of_le→rm,lt_or_ge→bz,mul_one→rN,sub_self→dR,sub_zero→ap6,zero_add→cr,zero_le→bj
open Option renaming bind_some→lW,map_eq_some_iff→bc,map_none→arG,map_some→cx
open Option.some renaming injEq→aF
set_option linter.all false
section
namespace Go.Eng
variable [bB]
section
variable {P:Program} {tt:Table} {ρ:Option Nat} {n0:Nat} {st:St} {Q:Exit→St→Prop}
def UD (P:Program) (f:FuncId) (vs:List V) (st:St) (dst:Option Tmp) (Q:St→Prop):Prop :=
 ∃ R,jK P f vs st.mem R∧∀ v m',R v m'→Q ({ st with mem:=m' }.put dst v)
def Y3 (P:Program) (f:FuncId) (vs:List V) (st:St) (dst:Option Tmp) (Q:St→Prop):Prop:=Lu P f vs st dst Q∨UD P f vs st dst Q
def Y4 (P:Program) (tt:Table) (key:Nat) (o:Oper) (st:St) (Q:St→Prop):Prop :=
 match o.op with
 | .call c=>match c.callee with
  | .value f=>match di (st.eval f) (c.args.toList.map st.eval) with
   | some (g,vs)=>Y3 P g vs st o.dst Q
   | none=>False
  | .builtin .append=>match c.args.toList.map st.eval with
   | [s,x]=>match fh tt st.mem c.argTypes.toList s x with
    | some (size,rY,rows)=>Q ({ st with mem:=(eM st.mem key size rows rY).1 }.put o.dst (eM st.mem key size rows rY).2)
    | none=>yn tt st c.argTypes.toList s x o.dst Q
   | _=>False
  | _=>lL P tt key o st Q
 | _=>lL P tt key o st Q
def Qd (P:Program) (tt:Table) (gl:List (Nat×Nat)) (all:Array Oper):List Oper→St→(St→Prop)→Prop
 | [],st,Q=>Q st
 | o :: r,st,Q=>match tm gl all st.fr o with
  | some true=>Y4 P tt st.mem.length o st fun st'=>Qd P tt gl all r st' Q
  | some false=>Qd P tt gl all r (st.put o.dst (.sc undef)) Q
  | none=>False
theorem JK {ts:List TypeId} {s x:V} {dst:Option Tmp} {A B:St→Prop} (h:yn tt st ts s x dst A) (w8:∀ s,A s→B s):yn tt st ts s x dst B:=by
 unfold yn at h ⊢;split at h;·exact fun o mZ h1 h2=>w8 _ (h o mZ h1 h2)
 exact h
attribute [irreducible] Qd
end
end Go.Eng
end
section
namespace Go.Eng
variable [bB]
inductive Tk where
 | a
 | b
def tk:Tk:=.b
theorem adL {α:Type} {a b:α} (h:a=b):a=b:=h
theorem lQ {a b:Prop} (h:a=b):a=b:=h
def bq {α:Type} (_:Tk) (o:Option α) (K:α→Prop):Prop:=match o with
 | some v=>K v
 | none=>False
theorem Y5 {α:Type} {k:Tk} {o:Option α} {K:α→Prop}:bq k o K=match o with|some v=>K v|none=>False:=lQ rfl
theorem lC {α:Type} {k:Tk} {o:Option α} {K:α→Prop}:bq k o K↔∃ v,o=some v∧K v:=by cases o with|none=>exact⟨fun h=>h.elim,fun ⟨_,h,_⟩=>by cases h⟩|some v=>exact⟨fun h=>⟨v,rfl,h⟩,fun ⟨_,e,h⟩=>by cases e;exact h⟩
def nq {α:Type} (_:Tk) (o:Option α) (A:α→Prop) (B:Prop):Prop:=match o with
 | some v=>A v
 | none=>B
theorem Y6 {α:Type} {k:Tk} {o:Option α} {A:α→Prop} {B:Prop}:nq k o A B=match o with|some v=>A v|none=>B:=lQ rfl
theorem wg {α:Type} {k:Tk} {v:α} {A:α→Prop} {B:Prop}:nq k (some v) A B=A v:=rfl
theorem wh {α:Type} {k:Tk} {A:α→Prop} {B:Prop}:nq k none A B=B:=rfl
section
variable {m:Bool} {P:Program} {tt:Table} {st:St} {Q:St→Prop}
def sD (_:Tk) (m:Bool) (P:Program) (f:FuncId) (vs:List V) (o:Option (List V)) (keys:List (Nat×Nat)) (st:St) (dst:Option Tmp) (Q:St→Prop):Prop :=
 (∃ vs' r,o=some vs'∧b8 P f vs' r∧Q ({ st with mem:=iG st.mem keys r }.put dst r)) ∨
 (∃ r bS,bI P f vs st.mem r bS∧Q ({ st with mem:=bS }.put dst r)) ∨
 (m=true∧∃ R,jK P f vs st.mem R∧∀ r bS,R r bS→Q ({ st with mem:=bS }.put dst r)) ∨
 (∃ r,r7 P f vs r∧Q (st.put dst r))
def adM (_:Tk) (m:Bool) (P:Program) (k:Nat) (vs:List V) (st:St) (dst:Option Tmp) (Q:St→Prop):Prop :=
 (∃ b bS,IS P k vs st.mem b bS∧Q ({ st with mem:=bS }.put dst (.sc (.bool b)))) ∨
 (m=true∧∃ R,MB P k vs st.mem R∧∀ b bS,R b bS→Q ({ st with mem:=bS }.put dst (.sc (.bool b))))
def apV (_:Tk) (m:Bool) (r:Option (Nat×Nat×Nat×Nat×List V×List V)) (st:St) (dst:Option Tmp) (Q:St→Prop):Prop:=m=true∧match r with
 | some (size,b,v,l,rs,xs)=>∀ (o:Nat) (mZ:List V),mZ.drop o=rs++xs→o+(l+xs.length)=mZ.length→Q ({ st with mem:=st.mem.set b (.rows (v+1) size mZ) }.put dst (.ms b (v+1) o (l+xs.length)))
 | none=>False
def nxV (_:Tk) (m:Bool) (st:St) (dst:Option Tmp) (it:V) (str:Bool) (Q:St→Prop):Prop:=m=true∧vG st dst it str Q
def niV (_:Tk) (m:Bool) (n:Nat) (op:BinOp) (st:St) (dst:Option Tmp) (Q:St→Prop):Prop :=
 m=true∧∀ b:Bool,(n≠0→b=false)→Q (st.put dst (.sc (.bool (qK op b))))
def UE (tt:Table) (T:TypeId) (len:Nat) (parts:List (Nat×Operand)) (st:St) (key:Nat):Option (List bx) :=
 match xk tt T len parts st.eval with
 | some (size,rs)=>some (dm st.mem key (.rows 0 size rs))
 | none=>match TU tt T len parts st with
  | some (size,rs)=>some (dm (fw st.mem (Et st.eval parts)) key (.rows 0 size rs))
  | none=>none
def ET (tt:Table) (mem:List bx) (T:TypeId) (p x:V):Option (List bx) :=
 match nz tt mem T p x with
 | some m=>some m
 | none=>Eu tt mem T p x
def oz (m:Bool) (P:Program) (tt:Table) (key:Nat) (o:Oper) (st:St) (Q:St→Prop):Prop :=
 match o.op with
 | .alloc T=>bq tk (tt T) fun i=>Q ({ st with mem:=dm st.mem key (.box (i.zero.map V.sc)) }.put o.dst (.ptr key 0))
 | .box _ x=>bq tk (l4 (st.eval x)) fun cs=>Q ({ st with mem:=dm st.mem key (.box cs) }.put o.dst (.ptr key 0))
 | .build T parts=>bq tk (nB P tt T parts.toList st.eval) fun v=>Q (st.put o.dst v)
 | .buildSlice T len parts=>bq tk (UE tt T len parts.toList st key) fun mem=>Q ({ st with mem:=mem }.put o.dst (.ms key 0 0 len))
 | .store T p x=>bq tk (ET tt st.mem T (st.eval p) (st.eval x)) fun mem=>Q ({ st with mem:=mem }.put o.dst (.sc undef))
 | .call { callee:=.builtin .append,args:=xs,argTypes:=ts }=>match xs.toList.map st.eval with
  | [s,x]=>nq tk (fh tt st.mem ts.toList s x) (fun p=>Q ({ st with mem:=(eM st.mem key p.1 p.2.2 p.2.1).1 }.put o.dst (eM st.mem key p.1 p.2.2 p.2.1).2)) (apV tk m (o5 tt st.mem ts.toList s x) st o.dst Q)
  | _=>False
 | .call { callee:=.value f,args:=xs,.. }=>match st.eval f with
  | .j9 k=>adM tk m P k (xs.toList.map st.eval) st o.dst Q
  | fv=>bq tk (di fv (xs.toList.map st.eval)) fun p=>sD tk m P p.1 p.2 (iE st.mem p.2) (p.2.flatMap fP) st o.dst Q
 | .makeSlice T l c=>bq tk (yl tt T (st.eval l) (st.eval c)) fun p=>Q ({ st with mem:=dm st.mem key (.rows 0 p.1 p.2.1) }.put o.dst (.ms key 0 0 p.2.1.length))
 | .makeMap _ none=>Q ({ st with mem:=dm st.mem key (.map [] 0) }.put o.dst (.mp key))
 | .mapUpdate T d k x=>bq tk (dU P st.mem T (st.eval d) (st.eval k) (st.eval x)) fun mem=>Q ({ st with mem:=mem }.put o.dst (.sc undef))
 | .insert T d k x=>bq tk (dU P st.mem T (st.eval d) (st.eval k) (st.eval x)) fun mem=>Q ({ st with mem:=mem }.put o.dst (.sc undef))
 | .mapEntry T d k=>bq tk (xm P st.mem T (st.eval d) (st.eval k)) fun p=>Q ({ st with mem:=p.1 }.put o.dst p.2)
 | .entryStore _ d s x=>bq tk (xn st.mem (st.eval d) (st.eval s) (st.eval x)) fun mem=>Q ({ st with mem:=mem }.put o.dst (.sc undef))
 | .call { callee:=.builtin .delete,args:=xs,argTypes:=ts }=>bq tk (te P st.mem ts (xs.toList.map st.eval)) fun mem=>Q ({ st with mem:=mem }.put o.dst (.sc (.tuple #[])))
 | .range T x=>bq tk (p9 P st.mem T (st.eval x)) fun B=>Q ({ st with mem:=dm st.mem key B }.put o.dst (.ptr key 0))
 | .next it str=>nxV tk m st o.dst (st.eval it) str Q
 | .binOp op T x y _=>nq tk (pF tt op T (st.eval x) (st.eval y)) (fun n=>niV tk m n op st o.dst Q) (bq tk (iY P tt st o) fun v=>Q (st.put o.dst v))
 | _=>bq tk (iY P tt st o) fun v=>Q (st.put o.dst v)
theorem tr {α:Type} {k:Tk} {o:Option α} {A B:α→Prop} (h:bq k o A) (w8:∀ v,A v→B v):bq k o B:=by cases o with|none=>exact h|some v=>exact w8 v h
theorem JL {dst:Option Tmp} {it:V} {str:Bool} {A B:St→Prop} (h:vG st dst it str A) (w8:∀ s,A s→B s):vG st dst it str B:=by
 unfold vG at h ⊢;split at h;·split at h;(·split at h;(·exact⟨h.1,h.2.1,fun e=>w8 _ (h.2.2.1 e),fun e he=>w8 _ (h.2.2.2 e he)⟩);exact h);(·refine⟨h.1,?_⟩;have:=h.2;split at this;(·rename_i hp;rw [if_pos hp];exact w8 _ this);rename_i hp;rw [if_neg hp];exact w8 _ this);(·exact⟨h.1,w8 _ h.2⟩);exact h
 exact h
theorem JM {key:Nat} {o:Oper} {A B:St→Prop} (h:oz m P tt key o st A) (w8:∀ s,A s→B s):oz m P tt key o st B:=by
 have app:∀ {ts:List TypeId} {s x:V},nq tk (fh tt st.mem ts s x) (fun p=>A ({ st with mem:=(eM st.mem key p.1 p.2.2 p.2.1).1 }.put o.dst (eM st.mem key p.1 p.2.2 p.2.1).2)) (apV tk m (o5 tt st.mem ts s x) st o.dst A) →
   nq tk (fh tt st.mem ts s x) (fun p=>B ({ st with mem:=(eM st.mem key p.1 p.2.2 p.2.1).1 }.put o.dst (eM st.mem key p.1 p.2.2 p.2.1).2)) (apV tk m (o5 tt st.mem ts s x) st o.dst B):=fun {ts s x} h=>by
  cases ha:fh tt st.mem ts s x with
  | some p=>rw [ha,wg] at h;exact w8 _ h
  | none=>rw [ha,wh] at h;exact⟨h.1,JK (show yn tt st ts s x o.dst A from h.2) w8⟩
 have cv:∀ {f:FuncId} {vs:List V} {p:Option (List V)} {keys:List (Nat×Nat)},sD tk m P f vs p keys st o.dst A→sD tk m P f vs p keys st o.dst B:=fun h=>by (rcases h with ⟨vs',r,h1,h2,h3⟩|⟨r,m',h1,h2⟩|⟨hm,R,h1,h2⟩|⟨r,h1,h2⟩);(·exact .inl ⟨vs',r,h1,h2,w8 _ h3⟩);(·exact .inr (.inl ⟨r,m',h1,w8 _ h2⟩));(·exact .inr (.inr (.inl ⟨hm,R,h1,fun r m' h=>w8 _ (h2 r m' h)⟩)));exact .inr (.inr (.inr ⟨r,h1,w8 _ h2⟩))
 obtain⟨dst,op,type,pos,after,guard⟩:=o;cases op
 case call c =>
  obtain⟨callee,args,ats⟩:=c
  cases callee
  case value f =>
   simp only [oz] at h ⊢
   split at h
   ·rcases h with ⟨b,m',h1,h2⟩|⟨hm,R,h1,h2⟩
    ·exact .inl ⟨b,m',h1,w8 _ h2⟩
    exact .inr ⟨hm,R,h1,fun b m' h=>w8 _ (h2 b m' h)⟩
   exact tr h fun v hv=>cv hv
  case builtin b =>
   cases b
   case append =>
    simp only [oz] at h ⊢
    split at h
    ·exact app h
    exact h
   all_goals (simp only [oz] at h ⊢;exact tr h fun v hv=>w8 _ hv)
  all_goals (simp only [oz] at h ⊢;exact tr h fun v hv=>w8 _ hv)
 case makeMap T l =>
  cases l with
  | none=>exact w8 _ h
  | some l=>simp only [oz] at h ⊢;exact tr h fun v hv=>w8 _ hv
 case next it str=>exact⟨h.1,JL h.2 w8⟩
 case binOp op T x y yt =>
  simp only [oz] at h ⊢
  cases hn:pF tt op T (st.eval x) (st.eval y) with
  | some n =>
   rw [hn,wg] at h
   exact⟨h.1,fun b hb=>w8 _ (h.2 b hb)⟩
  | none=>rw [hn,wh] at h;exact tr h fun v hv=>w8 _ hv
 all_goals (simp only [oz] at h ⊢;exact tr h fun v hv=>w8 _ hv)
def WS (m:Bool) (P:Program) (tt:Table) (key:Nat) (o:Oper) (st:St) (Q:St→Prop):Prop:=match m with
 | true=>dn P tt key o st Q
 | false=>∃ s,Q s∧∀ K:St→Prop,K s→dn P tt key o st K
theorem kH {key:Nat} {o:Oper} (s:St) (h:Q s) (hk:∀ K:St→Prop,K s→dn P tt key o st K):WS m P tt key o st Q:=by
 cases m;·exact⟨s,h,hk⟩
 exact hk Q h
theorem Qe {f:FuncId} {vs:List V} {dst:Option Tmp} {k:Tk} (h:sD k m P f vs (iE st.mem vs) (vs.flatMap fP) st dst Q):(m=true∧ym P f vs st dst Q)∨∃ s,Q s∧∀ K:St→Prop,K s→ym P f vs st dst K:=by
 rcases h with ⟨vs',r,h1,h2,h3⟩|⟨r,m',h1,h2⟩|⟨hm,R,h1,h2⟩|⟨r,h1,h2⟩
 ·exact .inr ⟨_,h3,fun K hK=>.inl ⟨vs',r,h1,h2,hK⟩⟩
 ·exact .inr ⟨_,h2,fun K hK=>.inr (.inl ⟨r,m',h1,hK⟩)⟩
 ·exact .inl ⟨hm,.inr (.inr (.inl ⟨R,h1,h2⟩))⟩
 exact .inr ⟨_,h2,fun K hK=>.inr (.inr (.inr ⟨r,h1,hK⟩))⟩
theorem Qf {key:Nat} {o:Oper} (h:oz m P tt key o st Q):WS m P tt key o st Q:=by
 unfold oz at h;split at h;all_goals try (rename_i kf;simp only [lC] at h;obtain⟨v,h1,h2⟩:=h;refine kH _ h2 fun K hK=>?_;unfold dn;rw [kf];dsimp only;rw [h1];exact hK)
 ·rename_i kf;simp only [lC] at h;obtain⟨mem,h1,h2⟩:=h;refine kH _ h2 fun K hK=>?_;unfold dn;rw [kf];dsimp only;unfold UE at h1;split at h1;(·rename_i hl;cases h1;rw [hl];exact hK);rename_i hl;rw [hl];split at h1;(·rename_i hl;cases h1;dsimp only;rw [hl];exact hK);cases h1
 ·rename_i kf;simp only [lC] at h;obtain⟨mem,h1,h2⟩:=h;refine kH _ h2 fun K hK=>?_;unfold dn;rw [kf];dsimp only;unfold ET at h1;split at h1;(·rename_i hl;cases h1;rw [hl];exact hK);rename_i hl;rw [hl];dsimp only;rw [h1];exact hK
 ·rename_i kf;split at h;(·rename_i s x TW;cases ha:fh tt st.mem _ s x with|some p =>rw [ha,wg] at h;refine kH _ h fun K hK=>?_;unfold dn;rw [kf];dsimp only;rw [TW];dsimp only;rw [ha];exact hK|none =>rw [ha,wh] at h;obtain⟨rfl,h⟩:=h;show dn P tt key o st Q;unfold dn;rw [kf];dsimp only;rw [TW];dsimp only;rw [ha];exact h);exact h.elim
 ·rename_i kf;split at h;(·rename_i k hk;(rcases h with ⟨b,m',h1,h2⟩|⟨rfl,R,h1,h2⟩);(·refine kH _ h2 fun K hK=>?_;unfold dn;rw [kf];dsimp only;rw [hk];exact .inl ⟨b,m',h1,hK⟩);show dn P tt key o st Q;unfold dn;rw [kf];dsimp only;rw [hk];exact .inr ⟨R,h1,h2⟩);rename_i hk;simp only [lC] at h;obtain⟨⟨g,vs⟩,h1,h2⟩:=h;(have adN:∀ K:St→Prop,ym P g vs st o.dst K→dn P tt key o st K:=fun K hK=>by unfold dn;rw [kf];dsimp only;split;(·rename_i k hy;exact (hk k hy).elim);rw [h1];exact hK);(rcases Qe h2 with ⟨rfl,h3⟩|⟨s,h3,h4⟩);(·exact adN Q h3);exact kH s h3 fun K hK=>adN K (h4 K hK)
 ·rename_i kf;exact kH _ h fun K hK=>by unfold dn;rw [kf];exact hK
 ·rename_i kf;obtain⟨rfl,h⟩:=h;show dn P tt key o st Q;unfold dn;rw [kf];exact h
 ·rename_i op T x y yt kf;cases hn:pF tt op T (st.eval x) (st.eval y) with|some n =>rw [hn,wg] at h;obtain⟨rfl,h⟩:=h;show dn P tt key o st Q;unfold dn;rw [kf];dsimp only;rw [hn];exact h|none =>rw [hn,wh,lC] at h;obtain⟨v,h1,h2⟩:=h;exact kH _ h2 fun K hK=>by unfold dn;rw [kf];dsimp only;rw [hn];dsimp only;rw [h1];exact hK
 rw [lC] at h;obtain⟨v,h1,h2⟩:=h;refine kH _ h2 fun K hK=>?_;unfold dn;split
 all_goals first
  | (rw [h1];exact hK)
  | (exfalso;solve_by_elim)
end
end Go.Eng
end
section
namespace Go.Eng
variable [bB]
section
variable {P:Program} {ρ:Option Nat} {n0:Nat} {c:Code} {st:St} {Q:Exit→St→Prop}
theorem UF {v v':V} (t:Nat) (h0:st.fr[t]?=some v) (hp:ke st.mem v=some v') (h:ek P ρ n0 c { fr:=st.fr.set t v',mem:=fw st.mem (fP v) } Q):ek P ρ n0 c st Q:=fun E0 w0 he0 E w a he hs oq=>by
 obtain⟨E',h1,h2,h3⟩:=hs.freeze (vs:=[v]) (vs':=[v']) (by simp only [iE,hp]);obtain⟨x,hx,hr⟩:=hs.fr.get h0;have FW:=(h3 [x] (cU.cons hr (.nil _))).2 0 v' x rfl rfl;have e1:[v].flatMap fP=fP v:=by simp
 rw [e1] at h1;have e2:a.tmps.toList.set t x=a.tmps.toList:=by apply dM;intro i;rw [bX];split;(·rename_i hi;subst hi;rw [if_pos (az.1 hx).1,hx]);rfl
 have h4:cU E' (st.fr.set t v') a.tmps.toList:=by have:=(cU.set (n:=t) h1.fr FW);rwa [e2] at this
 exact h E0 w0 he0 E' w a (he.trans h2) ⟨h1.F,h1.lt,h1.mem,h1.top,h1.dZ,h1.apart,h4⟩ (oq.La h2)
theorem EU {v v':V} (t:Nat) (h0:st.fr[t]?=some v) (hp:ke st.mem v=some v') (h:Ex P ρ n0 c { fr:=st.fr.set t v',mem:=fw st.mem (fP v) } Q):Ex P ρ n0 c st Q:=by obtain⟨e,s2,hq,h2⟩:=h;exact⟨e,s2,hq,fun Q' h'=>UF t h0 hp (h2 Q' h')⟩
theorem M0 {k:Nat} {cs:List V} (t:Nat) (h0:st.fr[t]?=some (.ptr k 0)) (hk:st.mem[k]?=some (.box cs)) (hp:cs.all kY=true) (h:Ex P ρ n0 c { fr:=st.fr.set t (.fq cs),mem:=st.mem.set k .dead } Q):Ex P ρ n0 c st Q:=by obtain⟨e,s2,hq,h2⟩:=h;refine⟨e,s2,hq,fun Q' h' E0 w0 he0 E w a he hs oq=>?_⟩;obtain⟨E',h3,h4⟩:=hs.xw hk hp h0;exact h2 Q' h' E0 w0 he0 E' w a (he.trans h4) h3 (oq.La h4)
end
end Go.Eng
end
section
namespace Go.Eng
variable [bB]
def lk (t:Nat):List (Nat×V)→V
 | []=>.undef
 | p :: ws=>if p.1=t then p.2 else lk t ws
def W (n:Nat) (ws:List (Nat×V)):List V:=(List.range n).map fun i=>lk i ws
theorem A3 (n:Nat) (ws:List (Nat×V)) (t:Nat):(W n ws)[t]?=if t<n then some (lk t ws) else none:=by
 unfold W;rw [ak];by_cases h:t<n;·rw [if_pos h,arQ h];rfl
 rw [if_neg h,ec (by simp;omega)];rfl
theorem Y7 (n:Nat) (ws:List (Nat×V)) (t:Nat):(W n ws).getD t .undef=if t<n then lk t ws else .undef:=by rw [eN,A3];split <;> rfl
theorem sE (n:Nat) (ws:List (Nat×V)):(W n ws).length=n:=by simp [W]
theorem WU (n:Nat) (ws:List (Nat×V)) (d:Nat) (v:V):(W n ws).set d v=W n ((d,v) :: ws):=by
 apply dM;intro i;rw [bX,A3,A3,sE];simp only [lk];by_cases h:d=i;·subst h;simp
 simp [h]
def FY (nX:List (Nat×V)):List (Nat×V)→Prop
 | []=>True
 | p :: r=>lk p.1 nX=p.2∧FY nX r
theorem Lw {nX:List (Nat×V)}:∀ {ws:List (Nat×V)},FY nX ws→∀ i,lk i ws = .undef∨lk i ws=lk i nX
 | [],_,i=>.inl rfl
 | p :: r,h,i=>by
  simp only [lk]
  by_cases e:p.1=i
  ·subst e;rw [if_pos rfl];exact .inr h.1.symm
  rw [if_neg e];exact Lw h.2 i
theorem Lx {E:Env} {n:Nat} {nX ws:List (Nat×V)} (h:FY nX ws) {xs:List Value} (hr:cU E (W n nX) xs):cU E (W n ws) xs:=by
 refine⟨by rw [← hr.1,sE,sE],fun i v x hv hx=>?_⟩;rw [A3] at hv;split at hv;·rename_i hi;cases hv;(rcases Lw h i with e|e);(·rw [e];exact .undef _ _);rw [e];exact hr.2 i _ x (by rw [A3,if_pos hi]) hx
 cases hv
def Qg (k:Nat) (ws:List (Nat×V)):Bool:=ws.all fun p=>aG k p.2
theorem adP {k n:Nat} {ws:List (Nat×V)} (h:Qg k ws=true):(W n ws).all (aG k)=true:=by rw [aZ];intro v hv;unfold W at hv;obtain⟨i,-,rfl⟩:=eI.1 hv;clear hv;induction ws with|nil=>rfl|cons p r ih =>unfold Qg at h ih;rw [cH,aL] at h;simp only [lk];split;(·exact h.1);exact ih h.2
def X (_:Tk) (m:Bool) (P:Program) (ρ:Option Nat) (n0:Nat) (c:Code) (st:St) (Q:Exit→St→Prop):Prop:=match m with
 | true=>ek P ρ n0 c st Q
 | false=>Ex P ρ n0 c st Q
section
variable {k_:Tk} {m:Bool} {P:Program} {tt:Table} {sp:List Nat} {ρ:Option Nat} {n0:Nat} {st:St} {Q:Exit→St→Prop} {n:Nat} {ws nX:List (Nat×V)} {mem j6:List bx}
theorem X.mono {c:Code} {Q2:Exit→St→Prop} (h:X k_ m P ρ n0 c st Q) (hq:∀ e s,Q e s→Q2 e s):X k_ m P ρ n0 c st Q2:=by
 cases m;·exact Ex.mono h hq
 exact ek.mono h hq
theorem Ds {x y:Code} (h:X k_ m P ρ n0 x st (ir (fun st'=>X k_ m P ρ n0 y st' Q) Q)):X k_ m P ρ n0 (.seq x y) st Q:=by
 cases m;·exact eS h
 exact bE h
theorem UG {id:Nat} {c:Code} (h:X k_ m P ρ n0 c st (kg id Q)):X k_ m P ρ n0 (.block id c) st Q:=by
 cases m;·exact eA h
 exact bU h
theorem Qh {c:Code} {st':St} (hw:∀ E w a,de E w a st→de E w a st') (h:X k_ m P ρ n0 c st' Q):X k_ m P ρ n0 c st Q:=by
 cases m;·obtain⟨e,s,hq,h⟩:=h;exact⟨e,s,hq,fun Q' h'=>sg hw (h Q' h')⟩
 exact sg hw h
theorem Y8 {c:Code} (k:Nat) (hn:n0≤k) (hf:st.fr.all (aG k)=true) (hm:(st.mem.take k).all (aK k)=true) (h:X k_ m P ρ n0 c { st with mem:=st.mem.take k } Q):X k_ m P ρ n0 c st Q:=by
 cases m;·obtain⟨e,s,hq,h⟩:=h;exact⟨e,s,hq,fun Q' h'=>Ay k [] hn hf hm (h Q' h')⟩
 exact Ay k [] hn hf hm h
def xF (n0 k n:Nat) (ws:List (Nat×V)) (mem:List bx) (st:St):Prop :=
 ∃ nX j6,st=⟨W n nX,j6⟩∧n0≤k∧FY nX ws∧Qg k ws=true∧mem.all (aK k)=true∧j6.take k=mem
theorem eK {k:Nat} (h0:n0≤k) (h1:FY nX ws∧Qg k ws=true∧mem.all (aK k)=true∧j6.take k=mem):xF n0 k n ws mem ⟨W n nX,j6⟩:=⟨nX,j6,rfl,h0,h1⟩
theorem JN {c:Code} {k:Nat} (hl:xF n0 k n ws mem st) (h:X k_ m P ρ n0 c ⟨W n ws,mem⟩ Q):X k_ m P ρ n0 c st Q:=by obtain⟨nX,j6,rfl,h0,h1,h2,h3,h4⟩:=hl;subst h4;exact Qh (st':=⟨W n ws,j6⟩) (fun E w a hs=>⟨hs.F,hs.lt,hs.mem,hs.top,hs.dZ,hs.apart,Lx h1 hs.fr⟩) (Y8 k h0 (adP h2) h3 h)
def gate (_:Tk) (b:Bool) (d:Nat) (st:St) (f:Bool→St→Prop):Prop:=∀ b',b=b'→f b' { st with fr:=st.fr.set d (.sc (.bool b')) }
theorem Y9 {d:Nat} {f:Bool→St→Prop}:gate k_ true d st f=f true { st with fr:=st.fr.set d (.sc (.bool true)) }:=propext ⟨fun h=>h _ rfl,fun h b' e=>by subst e;exact h⟩
theorem Za {d:Nat} {f:Bool→St→Prop}:gate k_ false d st f=f false { st with fr:=st.fr.set d (.sc (.bool false)) }:=propext ⟨fun h=>h _ rfl,fun h b' e=>by subst e;exact h⟩
theorem ca {b:Bool} {d:Nat} {f:Bool→St→Prop} (h1:b=true→f true { st with fr:=st.fr.set d (.sc (.bool true)) }) (h2:b=false→f false { st with fr:=st.fr.set d (.sc (.bool false)) }):gate k_ b d st f:=by intro b' e;cases b' with|true=>exact h1 e|false=>exact h2 e
theorem Ly {b:Bool} {d:Nat} {f:Bool→St→Prop} (hd:st.fr[d]?=some (.sc (.bool b))∨st.fr.getD d .undef = .sc (.bool b)) (h:gate k_ b d st f):f b st:=by
 have:=h b rfl;have e:st.fr.set d (.sc (.bool b))=st.fr:=by (rcases hd with hd|hd);(·exact sw hd);rw [eN] at hd;cases hg:st.fr[d]? with|none=>rw [hg] at hd;cases hd|some v=>rw [hg] at hd;cases hd;exact sw hg
 rw [e] at this;exact this
def EV (_:Tk) (v:Option V) (d:Nat) (want:Bool) (st:St) (yes no:St→Prop):Prop:=match v with
 | some (.sc (.bool b))=>gate tk b d st fun b s=>match b==want with|true=>yes s|false=>no s
 | some (.sc _)=>no st
 | some _=>False
 | none=>no st
def yF:List Oper→Nat→Option Tmp
 | [],_=>none
 | o :: _,0=>o.dst
 | _ :: r,n+1=>yF r n
theorem UH {o:Oper} {r:List Oper}:yF (o :: r) 0=o.dst:=rfl
theorem Lz {o:Oper} {r:List Oper} {n:Nat}:yF (o :: r) (n+1)=yF r n:=rfl
theorem Hd:∀ (l:List Oper) (j:Nat),yF l j=(l[j]?).bind (·.dst)
 | [],j=>by simp [yF]
 | o :: r,0=>rfl
 | o :: r,j+1=>by rw [Lz,Hd r j,cp]
def gd (all:List Oper) (o:Oper) (st:St) (yes no:St→Prop):Prop:=match o.guard with
 | none=>yes st
 | some (j,want)=>match yF all j with
  | none=>no st
  | some d=>EV tk st.fr[d]? d want st yes no
theorem WV {all:Array Oper} {o:Oper} {yes no:St→Prop} (h:gd all.toList o st yes no):(gh all st.fr o=some true∧yes st)∨(gh all st.fr o=some false∧no st):=by
 unfold gd at h;unfold gh;split at h;·rename_i hg;rw [hg];exact .inl ⟨rfl,h⟩
 rename_i j want hg;rw [hg];dsimp only;rw [Hd,dQ] at h;cases hd:(all[j]?).bind (·.dst) with|none=>rw [hd] at h;exact .inr ⟨rfl,h⟩|some d =>rw [hd] at h;dsimp only at h ⊢;unfold EV at h;split at h;(·rename_i b hb;have h:=Ly (.inl hb) h;rw [hb];dsimp only;cases hc:b==want with|true=>rw [hc] at h;exact .inl ⟨rfl,h⟩|false=>rw [hc] at h;exact .inr ⟨rfl,h⟩);(·rename_i x hx hb;rw [hb];cases x with|bool b=>exact absurd rfl (hx b)|_=>exact .inr ⟨rfl,h⟩);(·exact h.elim);rename_i hb;rw [hb];exact .inr ⟨rfl,h⟩
def sF (m:Bool) (P:Program) (tt:Table) (all:List Oper):List Oper→St→(St→Prop)→Prop
 | [],st,Q=>Q st
 | o :: r,st,Q=>gd all o st (fun s=>oz m P tt s.mem.length o s fun s=>sF m P tt all r s Q) (fun s=>sF m P tt all r (s.put o.dst (.sc undef)) Q)
theorem Zb {all:List Oper} {Q:St→Prop}:sF m P tt all [] ⟨W n ws,mem⟩ Q=Q ⟨W n ws,mem⟩:=lQ rfl
theorem Zc {all:List Oper} {o:Oper} {r:List Oper} {Q:St→Prop}:sF m P tt all (o :: r) ⟨W n ws,mem⟩ Q=gd all o ⟨W n ws,mem⟩ (fun s=>oz m P tt s.mem.length o s fun s=>sF m P tt all r s Q) (fun s=>sF m P tt all r (s.put o.dst (.sc undef)) Q):=lQ rfl
def adQ (m:Bool) (P:Program) (tt:Table) (all:Array Oper) (l:List Oper) (st:St) (Q:St→Prop):Prop:=match m with
 | true=>fa P tt all l st Q
 | false=>∃ s,Q s∧∀ K:St→Prop,K s→fa P tt all l st K
theorem qW {all:Array Oper} {Q:St→Prop}:∀ (l:List Oper) (st:St),sF m P tt all.toList l st Q→adQ m P tt all l st Q
 | [],st,h=>by
  cases m with
  | true=>show fa P tt all [] st Q;rw [fa];exact h
  | false=>exact⟨st,h,fun K hK=>by rw [fa];exact hK⟩
 | o :: r,st,h=>by
  rw [sF] at h
  rcases WV h with ⟨hw,h⟩|⟨hw,h⟩
  ·have h:=Qf (JM (B:=fun s=>adQ m P tt all r s Q) h fun s hs=>qW r s hs)
   cases m with
   | true =>
    show fa P tt all (o :: r) st Q
    rw [fa,hw]
    exact h
   | false =>
    obtain⟨s1,h1,h2⟩:=h
    obtain⟨s2,h3,h4⟩:=h1
    exact⟨s2,h3,fun K hK=>by rw [fa,hw];exact h2 _ (h4 K hK)⟩
  have h:=qW r _ h
  cases m with
  | true =>
   show fa P tt all (o :: r) st Q
   rw [fa,hw];exact h
  | false =>
   obtain⟨s2,h3,h4⟩:=h
   exact⟨s2,h3,fun K hK=>by rw [fa,hw];exact h4 K hK⟩
theorem A4 (ht:TT P tt) {id:Nat} {ops:Array Oper} (h:sF m P tt ops.toList ops.toList st (Q .normal)):X k_ m P ρ n0 (.region id ops false) st Q:=by have h:=qW _ _ h;cases m with|true=>exact mH ht h|false =>obtain⟨s,h1,h2⟩:=h;exact⟨.normal,s,h1,fun Q' h'=>mH ht (h2 _ h')⟩
def LA (c:Operand) (st:St) (f:Bool→St→Prop):Prop:=match st.eval c with
 | .sc (.bool b)=>match c with
  | .tmp t=>gate tk b t st f
  | _=>f b st
 | _=>False
def Qi (i:Nat):List Nat→Bool
 | []=>false
 | a :: r=>if a=i then true else Qi i r
def ky:Code→Nat
 | .cond (.tmp t) _ _=>10000+t
 | .block i _=>20000+i
 | .seq _ _=>30000
 | .region i _ _=>i
 | _=>40000
def vc (m:Bool) (P:Program) (tt:Table) (sp:List Nat) (ρ:Option Nat) (n0:Nat):Code→St→(Exit→St→Prop)→Prop
 | .seq x y,st,Q=>match x with
  | .region id ops false=>match Qi id sp with
   | false=>sF m P tt ops.toList ops.toList st fun s=>vc m P tt sp ρ n0 y s Q
   | true=>X tk m P ρ n0 (.seq (.region id ops false) y) st Q
  | .skip=>vc m P tt sp ρ n0 y st Q
  | _=>match Qi (ky x) sp with
   | false=>vc m P tt sp ρ n0 x st (ir (fun s=>vc m P tt sp ρ n0 y s Q) Q)
   | true=>X tk m P ρ n0 (.seq x y) st Q
 | .region id ops false,st,Q=>match Qi id sp with
  | false=>sF m P tt ops.toList ops.toList st (Q .normal)
  | true=>X tk m P ρ n0 (.region id ops false) st Q
 | .cond c x y,st,Q=>LA c st fun b s=>match b with|true=>vc m P tt sp ρ n0 x s Q|false=>vc m P tt sp ρ n0 y s Q
 | .block id c,st,Q=>vc m P tt sp ρ n0 c st (kg id Q)
 | .skip,st,Q=>Q .normal st
 | .ret,st,Q=>Q .ret st
 | .exit id,st,Q=>Q (.exit id) st
 | c,st,Q=>X tk m P ρ n0 c st Q
theorem vx (ht:TT P tt):∀ {c:Code} {st:St} {Q:Exit→St→Prop},vc m P tt sp ρ n0 c st Q→X k_ m P ρ n0 c st Q:=by intro c;induction c with|seq x y ihx ihy =>(intro st Q h;unfold vc at h;split at h;(·split at h;(·refine Ds ((A4 (Q:=ir (fun s=>vc m P tt sp ρ n0 y s Q) Q) ht h).mono fun e s h=>?_);cases e with|normal=>exact ihy h|_=>exact h);exact h);(·have h:=ihy h;cases m;(·exact eS (gO h));exact bE (cw h));split at h;(·refine Ds ((ihx h).mono fun e s h=>?_);cases e with|normal=>exact ihy h|_=>exact h);exact h)|region id ops mixed =>intro st Q h;cases mixed;(·unfold vc at h;split at h;(·exact A4 ht h);exact h);unfold vc at h;exact h|cond c x y ihx ihy =>intro st Q h;unfold vc at h;unfold LA at h;split at h;(·rename_i b hb;(have h:X k_ m P ρ n0 (if b=true then x else y) st Q:=by split at h;(·rename_i t;have h:=Ly (.inr hb) h;cases b;(·exact ihy h);exact ihx h);cases b;(·exact ihy h);exact ihx h);cases m;(·exact tn hb h);exact bd hb h);exact h.elim|block id c ih=>intro st Q h;unfold vc at h;exact UG (ih h)|skip =>intro st Q h;unfold vc at h;cases m;(·exact gO h);exact cw h|ret =>intro st Q h;unfold vc at h;cases m;(·exact lB h);exact cn h|exit id =>intro st Q h;unfold vc at h;cases m;(·exact j5 h);exact ep h|_=>intro st Q h;unfold vc at h;exact h
section
variable {x y:Code} {id:Nat} {ops:Array Oper} {c:Operand}
theorem JO {v:Option V} {d:Nat} {want:Bool} {yes no:St→Prop} {k:Tk}:EV k v d want st yes no=match v with
  | some (.sc (.bool b))=>gate tk b d st fun b s=>match b==want with|true=>yes s|false=>no s
  | some (.sc _)=>no st
  | some _=>False
  | none=>no st:=lQ rfl
def sV:=@oz
theorem M1 {key:Nat} {o:Oper} {Q:St→Prop}:oz m P tt key o ⟨W n ws,mem⟩ Q=sV m P tt key o ⟨W n ws,mem⟩ Q:=lQ rfl
theorem Zd {key:Nat} {o:Oper} {Q:St→Prop}:sV m P tt key o st Q=match o.op with
   | .alloc T=>bq tk (tt T) fun i=>Q ({ st with mem:=dm st.mem key (.box (i.zero.map V.sc)) }.put o.dst (.ptr key 0))
   | .box _ x=>bq tk (l4 (st.eval x)) fun cs=>Q ({ st with mem:=dm st.mem key (.box cs) }.put o.dst (.ptr key 0))
   | .build T parts=>bq tk (nB P tt T parts.toList st.eval) fun v=>Q (st.put o.dst v)
   | .buildSlice T len parts=>bq tk (UE tt T len parts.toList st key) fun mem=>Q ({ st with mem:=mem }.put o.dst (.ms key 0 0 len))
   | .store T p x=>bq tk (ET tt st.mem T (st.eval p) (st.eval x)) fun mem=>Q ({ st with mem:=mem }.put o.dst (.sc undef))
   | .call { callee:=.builtin .append,args:=xs,argTypes:=ts }=>match xs.toList.map st.eval with
    | [s,x]=>nq tk (fh tt st.mem ts.toList s x) (fun p=>Q ({ st with mem:=(eM st.mem key p.1 p.2.2 p.2.1).1 }.put o.dst (eM st.mem key p.1 p.2.2 p.2.1).2)) (apV tk m (o5 tt st.mem ts.toList s x) st o.dst Q)
    | _=>False
   | .call { callee:=.value f,args:=xs,.. }=>match st.eval f with
    | .j9 k=>adM tk m P k (xs.toList.map st.eval) st o.dst Q
    | fv=>bq tk (di fv (xs.toList.map st.eval)) fun p=>sD tk m P p.1 p.2 (iE st.mem p.2) (p.2.flatMap fP) st o.dst Q
   | .makeSlice T l c=>bq tk (yl tt T (st.eval l) (st.eval c)) fun p=>Q ({ st with mem:=dm st.mem key (.rows 0 p.1 p.2.1) }.put o.dst (.ms key 0 0 p.2.1.length))
   | .makeMap _ none=>Q ({ st with mem:=dm st.mem key (.map [] 0) }.put o.dst (.mp key))
   | .mapUpdate T d k x=>bq tk (dU P st.mem T (st.eval d) (st.eval k) (st.eval x)) fun mem=>Q ({ st with mem:=mem }.put o.dst (.sc undef))
   | .insert T d k x=>bq tk (dU P st.mem T (st.eval d) (st.eval k) (st.eval x)) fun mem=>Q ({ st with mem:=mem }.put o.dst (.sc undef))
   | .mapEntry T d k=>bq tk (xm P st.mem T (st.eval d) (st.eval k)) fun p=>Q ({ st with mem:=p.1 }.put o.dst p.2)
   | .entryStore _ d s x=>bq tk (xn st.mem (st.eval d) (st.eval s) (st.eval x)) fun mem=>Q ({ st with mem:=mem }.put o.dst (.sc undef))
   | .call { callee:=.builtin .delete,args:=xs,argTypes:=ts }=>bq tk (te P st.mem ts (xs.toList.map st.eval)) fun mem=>Q ({ st with mem:=mem }.put o.dst (.sc (.tuple #[])))
   | .range T x=>bq tk (p9 P st.mem T (st.eval x)) fun B=>Q ({ st with mem:=dm st.mem key B }.put o.dst (.ptr key 0))
   | .next it str=>nxV tk m st o.dst (st.eval it) str Q
   | .binOp op T x y _=>nq tk (pF tt op T (st.eval x) (st.eval y)) (fun n=>niV tk m n op st o.dst Q) (bq tk (iY P tt st o) fun v=>Q (st.put o.dst v))
   | _=>bq tk (iY P tt st o) fun v=>Q (st.put o.dst v):=lQ rfl
theorem Ze {all:List Oper} {o:Oper} {yes no:St→Prop}:gd all o ⟨W n ws,mem⟩ yes no=match o.guard with
  | none=>yes ⟨W n ws,mem⟩
  | some (j,want)=>match yF all j with
   | none=>no ⟨W n ws,mem⟩
   | some d=>EV tk (W n ws)[d]? d want ⟨W n ws,mem⟩ yes no:=lQ rfl
theorem M3 {f:Bool→St→Prop}:LA c st f=match st.eval c with
  | .sc (.bool b)=>match c with
   | .tmp t=>gate tk b t st f
   | _=>f b st
  | _=>False:=lQ rfl
theorem adR:vc m P tt sp ρ n0 (.seq (.region id ops false) y) ⟨W n ws,mem⟩ Q=match Qi id sp with
  | false=>sF m P tt ops.toList ops.toList ⟨W n ws,mem⟩ fun s=>vc m P tt sp ρ n0 y s Q
  | true=>X tk m P ρ n0 (.seq (.region id ops false) y) ⟨W n ws,mem⟩ Q:=lQ rfl
theorem adS:vc m P tt sp ρ n0 (.seq (.region id ops true) y) ⟨W n ws,mem⟩ Q=match Qi id sp with
  | false=>vc m P tt sp ρ n0 (.region id ops true) ⟨W n ws,mem⟩ (ir (fun s=>vc m P tt sp ρ n0 y s Q) Q)
  | true=>X tk m P ρ n0 (.seq (.region id ops true) y) ⟨W n ws,mem⟩ Q:=lQ rfl
theorem adT {x1:Code}:vc m P tt sp ρ n0 (.seq (.seq x x1) y) ⟨W n ws,mem⟩ Q=match Qi 30000 sp with
  | false=>vc m P tt sp ρ n0 (.seq x x1) ⟨W n ws,mem⟩ (ir (fun s=>vc m P tt sp ρ n0 y s Q) Q)
  | true=>X tk m P ρ n0 (.seq (.seq x x1) y) ⟨W n ws,mem⟩ Q:=lQ rfl
theorem adU {x1:Code} {t:Nat}:vc m P tt sp ρ n0 (.seq (.cond (.tmp t) x x1) y) ⟨W n ws,mem⟩ Q=match Qi (10000+t) sp with
  | false=>vc m P tt sp ρ n0 (.cond (.tmp t) x x1) ⟨W n ws,mem⟩ (ir (fun s=>vc m P tt sp ρ n0 y s Q) Q)
  | true=>X tk m P ρ n0 (.seq (.cond (.tmp t) x x1) y) ⟨W n ws,mem⟩ Q:=lQ rfl
theorem adV:vc m P tt sp ρ n0 (.seq (.block id x) y) ⟨W n ws,mem⟩ Q=match Qi (20000+id) sp with
  | false=>vc m P tt sp ρ n0 (.block id x) ⟨W n ws,mem⟩ (ir (fun s=>vc m P tt sp ρ n0 y s Q) Q)
  | true=>X tk m P ρ n0 (.seq (.block id x) y) ⟨W n ws,mem⟩ Q:=lQ rfl
theorem aji:vc m P tt sp ρ n0 (.region id ops false) ⟨W n ws,mem⟩ Q=match Qi id sp with
  | false=>sF m P tt ops.toList ops.toList ⟨W n ws,mem⟩ (Q .normal)
  | true=>X tk m P ρ n0 (.region id ops false) ⟨W n ws,mem⟩ Q:=lQ rfl
theorem ajj:vc m P tt sp ρ n0 (.region id ops true) ⟨W n ws,mem⟩ Q=X tk m P ρ n0 (.region id ops true) ⟨W n ws,mem⟩ Q:=lQ rfl
theorem ajk:vc m P tt sp ρ n0 (.cond c x y) ⟨W n ws,mem⟩ Q=LA c ⟨W n ws,mem⟩ fun b s=>match b with|true=>vc m P tt sp ρ n0 x s Q|false=>vc m P tt sp ρ n0 y s Q:=lQ rfl
theorem ajl:vc m P tt sp ρ n0 (.block id x) ⟨W n ws,mem⟩ Q=vc m P tt sp ρ n0 x ⟨W n ws,mem⟩ (kg id Q):=lQ rfl
theorem ajm:vc m P tt sp ρ n0 .skip ⟨W n ws,mem⟩ Q=Q .normal ⟨W n ws,mem⟩:=lQ rfl
theorem ajn:vc m P tt sp ρ n0 .ret ⟨W n ws,mem⟩ Q=Q .ret ⟨W n ws,mem⟩:=lQ rfl
theorem ajo:vc m P tt sp ρ n0 (.exit id) ⟨W n ws,mem⟩ Q=Q (.exit id) ⟨W n ws,mem⟩:=lQ rfl
theorem ajp:vc m P tt sp ρ n0 (.loop x) ⟨W n ws,mem⟩ Q=X tk m P ρ n0 (.loop x) ⟨W n ws,mem⟩ Q:=lQ rfl
theorem ajq {f:St→Prop}:ir f Q .normal st=f st:=lQ rfl
theorem ajr {f:St→Prop}:ir f Q .ret st=Q .ret st:=lQ rfl
theorem ajs {f:St→Prop} {j:Nat}:ir f Q (.exit j) st=Q (.exit j) st:=lQ rfl
theorem ajt {j:Nat}:kg j Q .normal st=Q .normal st:=lQ rfl
theorem aju {j:Nat}:kg j Q .ret st=Q .ret st:=lQ rfl
theorem ajv {i j:Nat}:kg i Q (.exit j) st=if j=i then Q .normal st else Q (.exit j) st:=lQ rfl
end
attribute [irreducible] vc
end
end Go.Eng
end
section
namespace Go.Eng
variable [bB]
section
variable {k_:Tk} {m:Bool} {P:Program} {tt:Table} {ρ:Option Nat} {n0:Nat} {st:St} {Q:Exit→St→Prop} {n:Nat} {ws nX:List (Nat×V)} {mem j6:List bx}
theorem He (ht:TT P tt) {sp:List Nat} {y:Code} (e:Exit) (s:St) (h:ir (fun s=>vc m P tt sp ρ n0 y s Q) Q e s):ir (fun s=>X k_ m P ρ n0 y s Q) Q e s:=by cases e with|normal=>exact vx (k_:=k_) ht h|_=>exact h
theorem sq (ht:TT P tt) (sp:List Nat) {x y:Code} (h:vc m P tt sp ρ n0 x st (ir (fun s=>vc m P tt sp ρ n0 y s Q) Q)):X k_ m P ρ n0 (.seq x y) st Q:=Ds ((vx ht h).mono (He ht))
theorem nk (ht:TT P tt) {id:Nat} {ops:Array Oper} (h:sF m P tt ops.toList ops.toList st (Q .normal)):X k_ m P ρ n0 (.region id ops false) st Q:=A4 ht h
theorem qX {c:Code} {k j:Nat} (hl:xF n0 k n ws mem st) (h:l5 P ρ n0 c j ⟨W n ws,mem⟩ Q):l5 P ρ n0 c j st Q:=by cases j with|zero=>exact h.elim|succ j=>exact JN (k_:=.b) (m:=true) hl h
theorem Zf {α:Type} (F:α→List (Nat×V)) (M:α→List bx) (μ:α→Nat) (Inv:α→Prop) (a0:α) (k:Nat) {c:Code} (h0:xF n0 k n (F a0) (M a0) st) (hi:Inv a0)
  (step:∀ a,Inv a→X k_ m P ρ n0 c ⟨W n (F a),M a⟩ (ir (fun s=>∃ a',Inv a'∧μ a'<μ a∧xF n0 k n (F a') (M a') s) Q)):X k_ m P ρ n0 (.loop c) st Q:=by cases m with|true =>((have key:∀ (j:Nat) (a:α),Inv a→μ a=j→l5 P ρ n0 c (j+1) ⟨W n (F a),M a⟩ Q:=by intro j;induction j using Nat.strongRecOn with|_ j ih =>intro a hi hj;refine ek.mono (step a hi) fun e s h=>?_;cases e with|normal =>obtain⟨a',h1,h2,h3⟩:=h;exact qX h3 (uI (by omega) (ih _ (by omega) a' h1 rfl))|_=>exact h);exact sf _ (qX h0 (key _ a0 hi rfl)))|false =>(have key:∀ (j:Nat) (a:α),Inv a→μ a=j→∃ (e:Exit) (s:St),Q e s∧∀ Q':Exit→St→Prop,Q' e s→∃ i,l5 P ρ n0 c i ⟨W n (F a),M a⟩ Q':=by intro j;induction j using Nat.strongRecOn with|_ j ih =>intro a hi hj;obtain⟨e,s,hq,h⟩:=step a hi;cases e with|normal =>obtain⟨a',h1,h2,h3⟩:=hq;obtain⟨e2,s2,mi,h5⟩:=ih _ (by omega) a' h1 rfl;refine⟨e2,s2,mi,fun Q' h'=>?_⟩;obtain⟨i,h6⟩:=h5 Q' h';exact⟨i+1,h _ (qX h3 h6)⟩|_=>exact⟨_,s,hq,fun Q' h'=>⟨1,h (ir (fun st'=>l5 P ρ n0 c 0 st' Q') Q') h'⟩⟩);obtain⟨e,s,hq,h⟩:=key _ a0 hi rfl;refine⟨e,s,hq,fun Q' h'=>?_⟩;obtain⟨j,hj⟩:=h Q' h';exact sf j (qX h0 hj)
theorem mv (ht:TT P tt) (sp:List Nat) {α:Type} (F:α→List (Nat×V)) (M:α→List bx) (μ:α→Nat) (Inv:α→Prop) (a0:α) (k:Nat) {c:Code} (h0:xF n0 k n (F a0) (M a0) st) (hi:Inv a0)
  (step:∀ a,Inv a→∀ K:St→Prop,(∀ s,(∃ a',Inv a'∧μ a'<μ a∧xF n0 k n (F a') (M a') s)→K s)→vc m P tt sp ρ n0 c ⟨W n (F a),M a⟩ (ir K Q)):X k_ m P ρ n0 (.loop c) st Q:=Zf F M μ Inv a0 k h0 hi fun a h=>vx ht (step a h _ fun _ h=>h)
def pk (ws:List (Nat×V)):List Nat→List (Nat×V)
 | []=>[]
 | k :: r=>(k,lk k ws) :: pk ws r
def zk:List Nat→List V→List (Nat×V)→List (Nat×V)
 | t :: ts,v :: vs,r=>(t,v) :: zk ts vs r
 | _,_,r=>r
theorem Zg {ks:List Nat}:FY ws (pk ws ks):=by induction ks with|nil=>trivial|cons k r ih=>exact⟨rfl,ih⟩
theorem wi {k:Nat} {p:Nat×V}:Qg k (p :: ws)=(aG k p.2&&Qg k ws):=adL rfl
theorem zN {k:Nat}:Qg k []=true:=adL rfl
theorem Zh (ht:TT P tt) (sp:List Nat) (ts:List Nat) (Tu:List V) (k:Nat) (ks:List Nat) (μ:List V→Nat) (Inv:List V→Prop) {c:Code} (hn:n0≤k) (h0:FY nX (zk ts Tu (pk nX ks))∧Qg k (zk ts Tu (pk nX ks))=true∧(j6.take k).all (aK k)=true) (hi:Inv Tu)
  (step:∀ vs,Inv vs→∀ K:St→Prop,(∀ s,(∃ vs',Inv vs'∧μ vs'<μ vs∧xF n0 k n (zk ts vs' (pk nX ks)) (j6.take k) s)→K s)→vc m P tt sp ρ n0 c ⟨W n (zk ts vs (pk nX ks)),j6.take k⟩ (ir K Q)):X k_ m P ρ n0 (.loop c) ⟨W n nX,j6⟩ Q :=
 mv ht sp (fun vs=>zk ts vs (pk nX ks)) (fun _=>j6.take k) μ Inv Tu k (eK hn ⟨h0.1,h0.2.1,h0.2.2,rfl⟩) hi step
def fY (ws:List (Nat×V)):List Nat→List V
 | []=>[]
 | t :: r=>lk t ws :: fY ws r
theorem A5:∀ {ts:List Nat} {r:List (Nat×V)},FY ws r→FY ws (zk ts (fY ws ts) r)
 | [],r,h=>h
 | t :: ts,r,h=>⟨rfl,A5 h⟩
theorem eh (ht:TT P tt) (sp:List Nat) (ts:List Nat) (k:Nat) (ks:List Nat) (μ:List V→Nat) (Inv:List V→Prop) {c:Code} (hn:n0≤k) (h0:Qg k (zk ts (fY nX ts) (pk nX ks))=true∧(j6.take k).all (aK k)=true) (hi:Inv (fY nX ts))
  (step:∀ vs,Inv vs→∀ K:St→Prop,(∀ s,(∃ vs',Inv vs'∧μ vs'<μ vs∧xF n0 k n (zk ts vs' (pk nX ks)) (j6.take k) s)→K s)→vc m P tt sp ρ n0 c ⟨W n (zk ts vs (pk nX ks)),j6.take k⟩ (ir K Q)):X k_ m P ρ n0 (.loop c) ⟨W n nX,j6⟩ Q :=
 Zh ht sp ts (fY nX ts) k ks μ Inv hn ⟨A5 Zg,h0⟩ hi step
theorem jd {ts ks:List Nat} {k j:Nat} {Inv:List V→Prop} {μ:List V→Nat} {EW:List (Nat×V)} {Hf:List bx} (hn:n0≤k) (h:FY EW (pk nX ks)∧Qg k (zk ts (fY EW ts) (pk nX ks))=true∧(j6.take k).all (aK k)=true∧Hf.take k=j6.take k) (hi:Inv (fY EW ts)) (hm:μ (fY EW ts)<j) :
  ∃ vs',Inv vs'∧μ vs'<j∧xF n0 k n (zk ts vs' (pk nX ks)) (j6.take k) ⟨W n EW,Hf⟩:=⟨_,hi,hm,eK hn ⟨A5 h.1,h.2⟩⟩
theorem gP {ts ks:List Nat} {k:Nat} {Inv:List V→Prop} {EW:List (Nat×V)} {Hf:List bx} (hn:n0≤k) (h:FY EW (pk nX ks)∧Qg k (zk ts (fY EW ts) (pk nX ks))=true∧(j6.take k).all (aK k)=true∧Hf.take k=j6.take k) (hi:Inv (fY EW ts)) :
  ∃ vs',Inv vs'∧xF n0 k n (zk ts vs' (pk nX ks)) (j6.take k) ⟨W n EW,Hf⟩:=⟨_,hi,eK hn ⟨A5 h.1,h.2⟩⟩
theorem fZ (ht:TT P tt) (sp:List Nat) (ts:List Nat) (k:Nat) (ks:List Nat) (Inv:List V→Prop) {x y:Code}
  (h1:∀ K:St→Prop,(∀ s,(∃ vs,Inv vs∧xF n0 k n (zk ts vs (pk nX ks)) (j6.take k) s)→K s)→vc m P tt sp ρ n0 x ⟨W n nX,j6⟩ (ir K Q))
  (h2:∀ vs,Inv vs→vc m P tt sp ρ n0 y ⟨W n (zk ts vs (pk nX ks)),j6.take k⟩ Q):X k_ m P ρ n0 (.seq x y) ⟨W n nX,j6⟩ Q:=by refine Ds ((vx ht (h1 _ fun _ h=>h)).mono fun e s h=>?_);cases e with|normal =>obtain⟨vs,hv,hl⟩:=h;exact JN (k_:=k_) hl (vx ht (h2 vs hv))|_=>exact h
theorem sG (ht:TT P tt) (sp:List Nat) {α:Type} (F:α→List (Nat×V)) (M:α→List bx) (k:Nat) (Inv:α→Prop) {x y:Code}
  (h1:∀ K:St→Prop,(∀ s,(∃ a,Inv a∧xF n0 k n (F a) (M a) s)→K s)→vc m P tt sp ρ n0 x st (ir K Q))
  (h2:∀ a,Inv a→vc m P tt sp ρ n0 y ⟨W n (F a),M a⟩ Q):X k_ m P ρ n0 (.seq x y) st Q:=by refine Ds ((vx ht (h1 _ fun _ h=>h)).mono fun e s h=>?_);cases e with|normal =>obtain⟨a,hv,hl⟩:=h;exact JN (k_:=k_) hl (vx ht (h2 a hv))|_=>exact h
def Qj (_:Tk) (P:Program) (f:FuncId) (o:Option (List V)) (st:St) (dst:Option Tmp) (Q:St→Prop):Prop:=∃ vs' r,o=some vs'∧EC P f vs' r∧Q (st.put dst r)
def Zi (_:Tk) (P:Program) (f:FuncId) (o:Option (List V)) (st:St) (key:Nat) (dst:Option Tmp) (Q:St→Prop):Prop:=∃ vs' e rs,o=some vs'∧AB P f vs' e rs∧Q (AE st key dst e rs)
def Qk (_:Tk) (P:Program) (f:FuncId) (vs:List V) (o:Option (List V)) (keys:List (Nat×Nat)) (st:St) (dst:Option Tmp) (Q:St→Prop):Prop:=(∃ vs' r,o=some vs'∧b8 P f vs' r∧Q ({ st with mem:=iG st.mem keys r }.put dst r))∨∃ r m',bI P f vs st.mem r m'∧Q ({ st with mem:=m' }.put dst r)
def Zj (_:Tk) (fl:Bool) (P:Program) (f:FuncId) (vs:List V) (k:Nat) (st:St) (dst:Option Tmp) (Q:St→Prop):Prop:=Pw fl P f vs k st dst Q
def Ql (P:Program) (tt:Table) (o:Oper) (CD st:St) (Q:St→Prop):Prop :=
 match o.op with
 | .call { callee:=.value f,args:=xs,.. }=>bq tk (di (CD.eval f) (xs.toList.map CD.eval)) fun p=>Qj tk P p.1 (iE [] p.2) st o.dst Q
 | _=>bq tk (y3 P tt o CD) fun v=>Q (st.put o.dst v)
def Zk (P:Program) (o:Oper) (key:Nat) (st:St) (Q:St→Prop):Prop :=
 match o.op with
 | .call { callee:=.value f,args:=xs,.. }=>bq tk (di (st.eval f) (xs.toList.map st.eval)) fun p=>Zi tk P p.1 (iE [] p.2) st key o.dst Q
 | _=>False
def zG (P:Program) (o:Oper) (st:St) (Q:St→Prop):Prop :=
 match o.op with
 | .call { callee:=.value f,args:=xs,.. }=>bq tk (di (st.eval f) (xs.toList.map st.eval)) fun p=>Qk tk P p.1 p.2 (iE st.mem p.2) (p.2.flatMap fP) st o.dst Q
 | _=>False
def eG (fl:Bool) (P:Program) (tt:Table) (o:Oper) (k:Nat) (st:St) (Q:St→Prop):Prop :=
 match o.op with
 | .call { callee:=.value f,args:=xs,.. }=>bq tk (di (st.eval f) (xs.toList.map st.eval)) fun p=>Zj tk fl P p.1 p.2 k st o.dst Q
 | _=>bq tk (rI tt k o st) fun mem=>Q ({ st with mem:=mem }.put o.dst (.sc undef))
def Qm (P:Program) (tt:Table) (base:Nat) (o:Oper) (p:Pl) (st:St) (Q:St→Prop):Prop:=match p.cls with
 | .n=>Ql P tt o { st with mem:=[] } st Q
 | .r=>Ql P tt o { st with mem:=ez (p.mask.map (base + ·)++p.abs) st.mem } st Q
 | .a=>isHole st.mem (base+p.key)=true∧nq tk (hD tt o (base+p.key) st) (fun q=>Q ({ st with mem:=st.mem.set (base+p.key) q.1 }.put o.dst q.2)) (Zk P o (base+p.key) st Q)
 | .w=>isHole st.mem (base+p.key)=true∧bq tk (oQ P tt (base+p.key) o st) fun q=>Q ({ st with mem:=q.1 }.put o.dst q.2)
 | .s=>bq tk (rI tt (base+p.key) o st) fun mem=>Q ({ st with mem:=mem }.put o.dst (.sc undef))
 | .b=>bq tk (ow tt o { st with mem:=ez (p.mask.map (base + ·)) st.mem }) fun v=>Q (st.put o.dst v)
 | .z=>zG P o st Q
 | .e=>eG (!p.mask.isEmpty) P tt o p.key st Q
theorem Zl {all:Array Oper} {base:Nat} {o:Oper} {p:Pl} {Q:St→Prop} (hw:gh all st.fr o=some true) (h:Qm P tt base o p st Q):gx P tt all base o p st Q:=by
 have hv:∀ {CD:St},Ql P tt o CD st Q→qb P tt o CD st Q:=fun {CD} h=>by unfold Ql at h;unfold qb;split at h;(·rename_i f xs ts kf;rw [kf];dsimp only;rw [lC] at h;obtain⟨⟨g,vs⟩,h1,h2⟩:=h;rw [h1];exact h2);rename_i kf;split;(·rename_i f xs ts Zm;exact (kf f xs ts Zm).elim);rw [lC] at h;obtain⟨v,h1,h2⟩:=h;rw [h1];exact h2
 unfold Qm at h;unfold gx;rw [hw];dsimp only;split at h <;> (rename_i hc;rw [hc];dsimp only);·exact hv h
 ·exact hv h
 ·refine⟨h.1,?_⟩;have h:=h.2;cases hn:hD tt o (base+p.key) st with|some q=>rw [hn,wg] at h;exact h|none =>rw [hn,wh] at h;dsimp only;unfold Zk at h;unfold uJ;split at h;(·rename_i kf;rw [kf];dsimp only;rw [lC] at h;obtain⟨⟨g,vs⟩,h1,h2⟩:=h;rw [h1];exact h2);exact h.elim
 ·refine⟨h.1,?_⟩;have h:=h.2;rw [lC] at h;obtain⟨q,h1,h2⟩:=h;rw [h1];exact h2
 ·rw [lC] at h;obtain⟨q,h1,h2⟩:=h;rw [h1];exact h2
 ·rw [lC] at h;obtain⟨q,h1,h2⟩:=h;rw [h1];exact h2
 ·unfold zG at h;unfold o8;split at h;(·rename_i kf;rw [kf];dsimp only;rw [lC] at h;obtain⟨⟨g,vs⟩,h1,h2⟩:=h;rw [h1];exact h2);exact h.elim
 unfold eG at h;unfold vO;split at h;·rename_i kf;rw [kf];dsimp only;rw [lC] at h;obtain⟨⟨g,vs⟩,h1,h2⟩:=h;rw [h1];exact h2
 rename_i kf;rw [lC] at h;obtain⟨m,h1,h2⟩:=h;split;·rename_i f xs ts Zm;exact (kf _ _ _ Zm).elim
 rw [h1];exact h2
def Hg (P:Program) (tt:Table) (all:List Oper) (base:Nat):List Oper→List Pl→St→(St→Prop)→Prop
 | [],_,st,K=>K st
 | o :: r,p :: ps,st,K=>gd all o st (fun st=>Qm P tt base o p st fun st'=>Hg P tt all base r ps st' K) (fun st=>Hg P tt all base r ps (st.put o.dst (.sc undef)) K)
 | _ :: _,[],_,_=>False
theorem Zn {all:List Oper} {base:Nat} {ps:List Pl} {K:St→Prop}:Hg P tt all base [] ps ⟨W n ws,mem⟩ K=K ⟨W n ws,mem⟩:=lQ rfl
theorem Zo {all:List Oper} {base:Nat} {o:Oper} {r:List Oper} {p:Pl} {ps:List Pl} {K:St→Prop}:Hg P tt all base (o :: r) (p :: ps) ⟨W n ws,mem⟩ K=gd all o ⟨W n ws,mem⟩ (fun st=>Qm P tt base o p st fun st'=>Hg P tt all base r ps st' K) (fun st=>Hg P tt all base r ps (st.put o.dst (.sc undef)) K):=lQ rfl
theorem zO {all:Array Oper} {base:Nat} {Q:St→Prop}:∀ (l:List Oper) (ps:List Pl) (st:St),Hg P tt all.toList base l ps st Q→runM P tt all base l ps st Q
 | [],ps,st,h=>h
 | o :: r,[],st,h=>h.elim
 | o :: r,p :: ps,st,h=>by
  rw [runM]
  rcases WV (show gd all.toList o st _ _ from h) with ⟨hw,h⟩|⟨hw,h⟩
  ·have h:=Zl hw h
   by_cases hz:p.cls = .z
   ·unfold gx at h ⊢
    rw [hw,hz] at h ⊢
    exact AF h fun s hs=>zO r ps s hs
   obtain⟨v,m,h1,h2⟩:=(jP hz).1 h
   exact (jP hz).2 ⟨v,m,h1,zO r ps _ h2⟩
  unfold gx
  rw [hw]
  exact zO r ps _ h
theorem fL (ht:TT P tt) (hm:P.follows .mixedOrders=true) (plan:List Pl) (j:Nat) {id:Nat} {ops:Array Oper} (gV:ug ops plan=true) (h:Hg P tt ops.toList st.mem.length ops.toList plan { st with mem:=st.mem++List.replicate j .hole } (Q .normal)):X k_ m P ρ n0 (.region id ops true) st Q:=by
 have h:=zO _ _ _ h;cases m;·obtain⟨s,h1,h2⟩:=wb _ _ _ h;exact⟨.normal,s,h1,fun Q' h'=>qf ht hm plan j gV (h2 _ h')⟩
 exact qf ht hm plan j gV h
section
variable {k:Tk} {f:FuncId} {vs vs':List V} {o:Option (List V)} {keys:List (Nat×Nat)} {dst:Option Tmp} {Q:St→Prop}
theorem cF {R:V→Prop} (hr:∃ v,R v∧b8 P f vs' v) (h:∀ v,R v→Q ({ st with mem:=iG st.mem keys v }.put dst v)):sD k m P f vs (some vs') keys st dst Q:=by obtain⟨v,h1,h2⟩:=hr;exact .inl ⟨vs',v,rfl,h2,h v h1⟩
theorem cN {R:V→Prop} (hr:∃ v,R v∧r7 P f vs v) (h:∀ v,R v→Q (st.put dst v)):sD k m P f vs o keys st dst Q:=by obtain⟨v,h1,h2⟩:=hr;exact .inr (.inr (.inr ⟨v,h2,h v h1⟩))
theorem cW {R:V→List bx→Prop} (hr:∃ v m',R v m'∧bI P f vs st.mem v m') (h:∀ v m',R v m'→Q ({ st with mem:=m' }.put dst v)):sD k m P f vs o keys st dst Q:=by obtain⟨v,m',h1,h2⟩:=hr;exact .inr (.inl ⟨v,m',h2,h v m' h1⟩)
theorem cS {R:V→Prop} (hr:∃ v,R v∧bI P f vs st.mem v st.mem) (h:∀ v,R v→Q (st.put dst v)):sD k m P f vs o keys st dst Q:=by obtain⟨v,h1,h2⟩:=hr;exact .inr (.inl ⟨v,_,h2,h v h1⟩)
theorem cG {R:V→Prop} (hr:∃ v,R v∧b8 P f vs' v) (h:∀ v,R v→Q (st.put dst v)):Qj k P f (some vs') st dst Q:=by obtain⟨v,h1,h2⟩:=hr;exact⟨vs',v,rfl,.inl h2,h v h1⟩
theorem xG {R:V→List bx→Prop} {o:Option (List V)} (hr:∃ v m',R v m'∧bI P f vs st.mem v m') (h:∀ v m',R v m'→Q ({ st with mem:=m' }.put dst v)):Qk k P f vs o keys st dst Q:=by obtain⟨v,m',h1,h2⟩:=hr;exact .inr ⟨v,m',h2,h v m' h1⟩
end
def CF:Nat→List V→List (Nat×V)
 | i,v :: vs=>(i,v) :: CF (i+1) vs
 | _,[]=>[]
theorem LC:∀ (vs:List V) (i t:Nat),lk t (CF i vs)=if i≤t then vs.getD (t-i) .undef else .undef
 | [],i,t=>by simp [CF,lk]
 | v :: vs,i,t=>by
  simp only [CF,lk]
  rw [LC vs (i+1) t]
  by_cases h:i=t
  ·subst h;simp
  rw [if_neg h]
  by_cases h2:i+1≤t
  ·rw [if_pos h2,if_pos (by omega),show t-i=(t-(i+1))+1 by omega];simp
  rw [if_neg h2,if_neg (by omega)]
theorem LD {fn:Func} {args:List V} {c:Code} (hn:fn.ntmps=n) (hl:args.length≤n) (h:X k_ m P ρ n0 c ⟨W n (CF 0 args),mem⟩ Q):X k_ m P ρ n0 c (cO fn args mem) Q:=by
 refine Qh (st':=⟨W n (CF 0 args),mem⟩) (fun E w a hs=>⟨hs.F,hs.lt,hs.mem,hs.top,hs.dZ,hs.apart,?_⟩) h;have hr:=hs.fr;simp only [cO,hn] at hr;refine⟨by rw [← hr.1,sE,ab,List.length_replicate];omega,fun i v x hv hx=>?_⟩;rw [A3] at hv;split at hv;·rename_i hi;cases hv;rw [LC,if_pos (bj _),ap6,eN];cases ha:args[i]? with|none=>exact .undef _ _|some v=>exact hr.2 i v x (by rw [bA (az.1 ha).1];exact ha) hx
 cases hv
def UI (R:V→Prop) (o:Option V):Prop:=∃ r,R r∧o=some r
theorem M4 {R:V→Prop} {v:V}:UI R (some v)=R v:=propext ⟨fun ⟨_,h,e⟩=>by cases e;exact h,fun h=>⟨v,h,rfl⟩⟩
theorem Qn {K:V→Prop} {L:List V} {k:Nat} (h:L.length=k) (hk:K (.slice L)):UI K (if k≤L.length then some (.slice (L.take k)) else none):=by subst h;rw [if_pos (aB _),al];exact⟨_,hk,rfl⟩
def adW (R:V→Prop) (tt:Table) (rs:Array ResultVar) (e:Exit) (s:St):Prop:=(e = .ret∨e = .normal)∧UI R (nU tt rs s)
theorem Qo {R:V→Prop} {rs:Array ResultVar}:adW R tt rs .ret ⟨W n ws,mem⟩=UI R (nU tt rs ⟨W n ws,mem⟩):=propext ⟨fun h=>h.2,fun h=>⟨.inl rfl,h⟩⟩
def UJ (R:V→List bx→Prop) (k:Nat) (o:Option V) (mem:List bx):Prop:=∃ r,R r mem∧o=some r∧aG k r=true∧mem.all (aK k)=true
theorem M5 {R:V→List bx→Prop} {k:Nat} {v:V}:UJ R k (some v) mem=(R v mem∧aG k v=true∧mem.all (aK k)=true):=propext ⟨fun ⟨_,h,e,h2⟩=>by cases e;exact⟨h,h2⟩,fun ⟨h,h2⟩=>⟨v,h,rfl,h2⟩⟩
def UK (R:V→List bx→Prop) (k:Nat) (tt:Table) (rs:Array ResultVar) (e:Exit) (s:St):Prop:=(e = .ret∨e = .normal)∧UJ R k (pH tt rs s) (s.mem.take k)
theorem Qp {R:V→List bx→Prop} {k:Nat} {rs:Array ResultVar}:UK R k tt rs .ret ⟨W n ws,mem⟩=UJ R k (pH tt rs ⟨W n ws,mem⟩) (mem.take k):=propext ⟨fun h=>h.2,fun h=>⟨.inl rfl,h⟩⟩
theorem M6 {R:V→List bx→Prop} {k:Nat} {rs:Array ResultVar}:UK R k tt rs .normal ⟨W n ws,mem⟩=UJ R k (pH tt rs ⟨W n ws,mem⟩) (mem.take k):=propext ⟨fun h=>h.2,fun h=>⟨.inr rfl,h⟩⟩
end
section
variable {P:Program} {tt:Table} {f:FuncId} {fn:Func} {body:Code} {args:List V}
theorem gy (ht:TT P tt) (sp:List Nat) (n:Nat) (rs:List ResultVar) {R:V→Prop} (hf:P.funcs[f]?=some fn) (hb:fn.body=some body)
  (gL:∀ (xs:Array Value) (w:World),(callFunc f xs).run P w = .ok (.enter f xs) w) (hn:fn.ntmps=n∧fn.results=rs.toArray∧args.length≤n)
  (h:∀ K:V→Prop,(∀ v,R v→K v)→vc false P tt sp none 0 body ⟨W n (CF 0 args),[]⟩ (adW K tt rs.toArray)):∃ r,R r∧b8 P f args r:=by have h:=h R fun _ h=>h;obtain⟨e,s,⟨h1,r,hr,h2⟩,h3⟩:=LD (m:=false) hn.1 hn.2.2 (vx (k_:=.b) ht h);exact⟨r,hr,jL ht hf hb gL (h3 _ ⟨h1,by rw [hn.2.1];exact h2⟩)⟩
theorem uP (ht:TT P tt) (sp:List Nat) (n:Nat) (rs:List ResultVar) {R:V→List bx→Prop} {mem:List bx} (k:Nat) (hk:mem.length≤k) (hf:P.funcs[f]?=some fn) (hb:fn.body=some body)
  (gL:∀ (xs:Array Value) (w:World),(callFunc f xs).run P w = .ok (.enter f xs) w) (hn:fn.ntmps=n∧fn.results=rs.toArray∧args.length≤n)
  (h:∀ K:V→List bx→Prop,(∀ v m',R v m'→K v m')→vc false P tt sp none mem.length body ⟨W n (CF 0 args),mem⟩ (UK K k tt rs.toArray)):∃ r m',R r m'∧bI P f args mem r m':=by have h:=h R fun _ _ h=>h;obtain⟨e,s,⟨h1,r,hr,h2,h4⟩,h5⟩:=LD (m:=false) hn.1 hn.2.2 (vx (k_:=.b) ht h);exact⟨r,_,hr,ov ht k hk hf hb gL (h5 _ ⟨h1,by rw [hn.2.1];exact h2,h4.1,h4.2,rfl⟩)⟩
theorem M7 (ht:TT P tt) (sp:List Nat) (n:Nat) (rs:List ResultVar) {R:V→Prop} {mem:List bx} (hf:P.funcs[f]?=some fn) (hb:fn.body=some body)
  (gL:∀ (xs:Array Value) (w:World),(callFunc f xs).run P w = .ok (.enter f xs) w) (hn:fn.ntmps=n∧fn.results=rs.toArray∧args.length≤n)
  (h:∀ K:V→List bx→Prop,(∀ v m',R v∧m'=mem→K v m')→vc false P tt sp none mem.length body ⟨W n (CF 0 args),mem⟩ (UK K mem.length tt rs.toArray)):∃ r,R r∧bI P f args mem r mem:=by obtain⟨r,m',⟨hr,rfl⟩,h⟩:=uP ht sp n rs (R:=fun r m'=>R r∧m'=mem) mem.length (aB _) hf hb gL hn h;exact⟨r,hr,h⟩
end
end Go.Eng
end
section
namespace Go.Eng
variable [bB]
open Go.RowKit (Below)
mutual
def lR (σ:Nat→Nat):V→V
 | .undef=>.undef
 | .sc v=>.sc v
 | .agg cs=>.agg (tN σ cs)
 | .slice rows=>.slice rows
 | .ms b v s l=>.ms (σ b) v s l
 | .ptr b o=>.ptr (σ b) o
 | .iv b v i o=>.iv (σ b) v i o
 | .fq cs=>.fq cs
 | .iU f first cap=>.iU f (tN σ first) (tN σ cap)
 | .eg vs=>.eg (tN σ vs)
 | .j9 b=>.j9 (σ b)
 | .mp b=>.mp (σ b)
 | .gn=>.gn
 | .full rows=>.full rows
def tN (σ:Nat→Nat):List V→List V
 | []=>[]
 | c :: r=>lR σ c :: tN σ r
end
theorem iH (σ:Nat→Nat):∀ l:List V,tN σ l=l.map (lR σ)
 | []=>rfl
 | c :: r=>by rw [tN,iH σ r];rfl
def CG (σ:Nat→Nat):bx→bx
 | .box cs=>.box (tN σ cs)
 | .loop s p fr ps a b=>.loop s p (tN σ fr) ps a b
 | .map dP c=>.map (dP.map fun e=>(e.1,e.2.1,lR σ e.2.2)) c
 | .jJ m since seen last=>.jJ (σ m) since seen last
 | .n5 T kb v l=>.n5 T (σ kb) v l
 | B=>B
theorem Hh (σ:Nat→Nat) (B:bx):(CG σ B).dZ=B.dZ:=by cases B <;> rfl
theorem cY.JP {E:Env} {v:V} {x:Value} (h:cY E v x):∀ {n:Nat} {σ:Nat→Nat} {E2:Env},aG n v=true→(∀ ad y,E.F ad=some y→E2.F ad=some y)→(∀ k v t,k<n→E.cC k v=some t→E2.cC (σ k) v=some t)→cY E2 (lR σ v) x:=by induction h with|undef=>intros;exact .undef _ _|sc=>intros;exact .sc _ _|slice E rows a cap ux ad xf ha mh hz hF h1 hR ih =>intro n σ E2 hb jV hk;exact .slice _ _ _ _ ux ad xf ha mh hz (fun i row j c hi hj=>jV _ _ (hF i row j c hi hj)) h1 fun i row j c hi hj=>(hR i row j c hi hj).mono ⟨jV,fun _ _ _ h=>by cases h⟩|ms E b v s l g e c a cap fK hl h0 vf =>intro n σ E2 hb jV hk;exact .ms _ _ _ _ _ g e c _ _ (hk _ _ _ (by simpa [aG] using hb) fK) hl h0 vf|ja=>intros;exact .ja _ _ _ _|ptr E b o g e c fK =>intro n σ E2 hb jV hk;exact .ptr _ _ _ g e c (hk _ _ _ (by simpa [aG] using hb) fK)|j9 E b l e c fK =>intro n σ E2 hb jV hk;exact .j9 _ _ l e c (hk _ _ _ (by simpa [aG] using hb) fK)|mp E b l e c fK =>intro n σ E2 hb jV hk;exact .mp _ _ l e c (hk _ _ _ (by simpa [aG] using hb) fK)|iv E b v i o g e c fK =>intro n σ E2 hb jV hk;exact .iv _ _ _ _ _ g e c (hk _ _ _ (by simpa [aG] using hb) fK)|fq E cs ad xf hF hR ih =>intro n σ E2 hb jV hk;exact .fq _ _ _ xf (fun j c hj=>jV _ _ (hF j c hj)) fun j c hj=>(hR j c hj).mono ⟨jV,fun _ _ _ h=>by cases h⟩|gn=>intros;exact .gn _|full E rows a h ih =>intro n σ E2 hb jV hk;exact .full _ _ _ (ih (n:=n) (σ:=σ) rfl jV hk)|agg E cs xs hl hh ih =>intro n σ E2 hb jV hk;rw [aG,gG] at hb;rw [lR,iH];refine .agg _ _ _ (by rw [au];exact hl) fun i c x hc hx=>?_;rw [ak,bc] at hc;obtain⟨c0,G3,rfl⟩:=hc;exact ih i c0 x G3 hx (aZ.1 hb c0 (aE G3)) jV hk|eg E cs xs hl hh ih =>intro n σ E2 hb jV hk;rw [aG,gG] at hb;rw [lR,iH];refine .eg _ _ _ (by rw [au];exact hl) fun i c x hc hx=>?_;rw [ak,bc] at hc;obtain⟨c0,G3,rfl⟩:=hc;exact ih i c0 x G3 hx (aZ.1 hb c0 (aE G3)) jV hk|iU E f first cap xs ys hx hy h1 h2 XW XX =>intro n σ E2 hb jV hk;rw [aG,gG,gG,aL] at hb;rw [lR,iH,iH];refine .iU _ _ _ _ _ _ (by rw [au];exact hx) (by rw [au];exact hy) (fun i c x hc hx=>?_) fun i c x hc hx=>?_;(·rw [ak,bc] at hc;obtain⟨c0,G3,rfl⟩:=hc;exact XW i c0 x G3 hx (aZ.1 hb.1 c0 (aE G3)) jV hk);rw [ak,bc] at hc;obtain⟨c0,G3,rfl⟩:=hc;exact XX i c0 x G3 hx (aZ.1 hb.2 c0 (aE G3)) jV hk
theorem cY.wj {E:Env} {u:V} {x:Value} (h:cY E u x):∀ {v:V} {n:Nat} {σ:Nat→Nat} {E2:Env},u=lR σ v→aG n v=true→(∀ ad y,E.F ad=some y→E2.F ad=some y)→(∀ k v t,k<n→E.cC (σ k) v=some t→E2.cC k v=some t)→cY E2 v x:=by induction h with|undef =>intro v n σ E2 he hb jV hk;cases v <;> simp only [lR,reduceCtorEq] at he;exact .undef _ _|sc =>intro v n σ E2 he hb jV hk;cases v <;> simp only [lR,reduceCtorEq,V.sc.injEq] at he;subst he;exact .sc _ _|slice E rows a cap ux ad xf ha mh hz hF h1 hR ih =>intro v n σ E2 he hb jV hk;cases v <;> simp only [lR,reduceCtorEq,V.slice.injEq] at he;subst he;exact .slice _ _ _ _ ux ad xf ha mh hz (fun i row j c hi hj=>jV _ _ (hF i row j c hi hj)) h1 fun i row j c hi hj=>(hR i row j c hi hj).mono ⟨jV,fun _ _ _ h=>by cases h⟩|ms E b v s l g e c a cap fK hl h0 vf =>intro v n σ E2 he hb jV hk;cases v <;> simp only [lR,reduceCtorEq,V.ms.injEq] at he;obtain⟨rfl,rfl,rfl,rfl⟩:=he;exact .ms _ _ _ _ _ g e c _ _ (hk _ _ _ (by simpa [aG] using hb) fK) hl h0 vf|ja =>intro v n σ E2 he hb jV hk;cases v <;> simp only [lR,reduceCtorEq,V.ms.injEq] at he;obtain⟨rfl,rfl,rfl,rfl⟩:=he;exact .ja _ _ _ _|ptr E b o g e c fK =>intro v n σ E2 he hb jV hk;cases v <;> simp only [lR,reduceCtorEq,V.ptr.injEq] at he;obtain⟨rfl,rfl⟩:=he;exact .ptr _ _ _ g e c (hk _ _ _ (by simpa [aG] using hb) fK)|j9 E b l e c fK =>intro v n σ E2 he hb jV hk;cases v <;> simp only [lR,reduceCtorEq,V.j9.injEq] at he;subst he;exact .j9 _ _ l e c (hk _ _ _ (by simpa [aG] using hb) fK)|mp E b l e c fK =>intro v n σ E2 he hb jV hk;cases v <;> simp only [lR,reduceCtorEq,V.mp.injEq] at he;subst he;exact .mp _ _ l e c (hk _ _ _ (by simpa [aG] using hb) fK)|iv E b v i o g e c fK =>intro v n σ E2 he hb jV hk;cases v <;> simp only [lR,reduceCtorEq,V.iv.injEq] at he;obtain⟨rfl,rfl,rfl,rfl⟩:=he;exact .iv _ _ _ _ _ g e c (hk _ _ _ (by simpa [aG] using hb) fK)|fq E cs ad xf hF hR ih =>intro v n σ E2 he hb jV hk;cases v <;> simp only [lR,reduceCtorEq,V.fq.injEq] at he;subst he;exact .fq _ _ _ xf (fun j c hj=>jV _ _ (hF j c hj)) fun j c hj=>(hR j c hj).mono ⟨jV,fun _ _ _ h=>by cases h⟩|full E rows a h ih =>intro v n σ E2 he hb jV hk;cases v <;> simp only [lR,reduceCtorEq,V.full.injEq] at he;subst he;exact .full _ _ _ (ih (v:=.slice rows) (n:=n) (σ:=σ) rfl rfl jV hk)|gn =>intro v n σ E2 he hb jV hk;cases v <;> simp only [lR,reduceCtorEq] at he;exact .gn _|agg E cs xs hl hh ih =>intro v n σ E2 he hb jV hk;cases v <;> simp only [lR,reduceCtorEq,V.agg.injEq] at he;subst he;rw [aG,gG] at hb;rw [iH,au] at hl;refine .agg _ _ _ hl fun i c x hc hx=>?_;exact ih i (lR σ c) x (by rw [iH,ak,hc];rfl) hx rfl (aZ.1 hb c (aE hc)) jV hk|eg E cs xs hl hh ih =>intro v n σ E2 he hb jV hk;cases v <;> simp only [lR,reduceCtorEq,V.eg.injEq] at he;subst he;rw [aG,gG] at hb;rw [iH,au] at hl;refine .eg _ _ _ hl fun i c x hc hx=>?_;exact ih i (lR σ c) x (by rw [iH,ak,hc];rfl) hx rfl (aZ.1 hb c (aE hc)) jV hk|iU E f first cap xs ys hx hy h1 h2 XW XX =>intro v n σ E2 he hb jV hk;cases v <;> simp only [lR,reduceCtorEq,V.iU.injEq] at he;obtain⟨rfl,rfl,rfl⟩:=he;rw [aG,gG,gG,aL] at hb;rw [iH,au] at hx hy;refine .iU _ _ _ _ _ _ hx hy (fun i c x hc hx=>?_) fun i c x hc hx=>?_;(·exact XW i (lR σ c) x (by rw [iH,ak,hc];rfl) hx rfl (aZ.1 hb.1 c (aE hc)) jV hk);exact XX i (lR σ c) x (by rw [iH,ak,hc];rfl) hx rfl (aZ.1 hb.2 c (aE hc)) jV hk
theorem cU.JP {E E2:Env} {vs:List V} {xs:List Value} {n:Nat} {σ:Nat→Nat} (h:cU E vs xs) (hb:vs.all (aG n)=true) (hF:∀ ad y,E.F ad=some y→E2.F ad=some y) (hk:∀ k v t,k<n→E.cC k v=some t→E2.cC (σ k) v=some t):cU E2 (tN σ vs) xs:=by rw [iH];refine⟨by rw [au];exact h.1,fun i v x hv hx=>?_⟩;rw [ak,bc] at hv;obtain⟨c,hc,rfl⟩:=hv;exact (h.2 i c x hc hx).JP (aZ.1 hb c (aE hc)) hF hk
theorem cU.wj {E E2:Env} {vs:List V} {xs:List Value} {n:Nat} {σ:Nat→Nat} (h:cU E (tN σ vs) xs) (hb:vs.all (aG n)=true) (hF:∀ ad y,E.F ad=some y→E2.F ad=some y) (hk:∀ k v t,k<n→E.cC (σ k) v=some t→E2.cC k v=some t):cU E2 vs xs:=by rw [iH] at h;refine⟨by have:=h.1;rwa [au] at this,fun i v x hv hx=>?_⟩;exact (h.2 i (lR σ v) x (by rw [ak,hv];rfl) hx).wj rfl (aZ.1 hb v (aE hv)) hF hk
theorem kL.JP {E E2:Env} {w w2:World} {k:Nat} {B:bx} {n:Nat} {σ:Nat→Nat} (h:kL E w k B) (iz:k<n) (hb:aK n B=true) (hF:E2.F=E.F) (hk:∀ k v,k<n→E2.cC (σ k) v=E.cC k v) (hw:w2.heap=w.heap):kL E2 w2 (σ k) (CG σ B):=by
 have Gr:∀ ad y,E.F ad=some y→E2.F ad=some y:=fun ad y h=>by rw [hF];exact h
 have iw:∀ k v t,k<n→E.cC k v=some t→E2.cC (σ k) v=some t:=fun k v t hn h=>by rw [hk k v hn];exact h
 have hp:E2.pure=E.pure:=Env.Mo hF rfl;cases B with|hole=>(exact fun v=>by rw [hk k v iz];exact h v)|dead=>trivial|box cs =>obtain⟨g,T,xs,h1,h2,h3,h4⟩:=h;exact⟨g,T,xs,iw _ _ _ iz h1,by rw [hw];exact h2,h3.JP hb Gr iw,fun o=>by rw [hF];exact h4 o⟩|rows v e rs =>((rcases h with ⟨h1,h2⟩|⟨g,T,xs,c,h1,h2,h3,h4,h5,h6⟩);(·exact .inl ⟨h1,by rw [hk k v iz];exact h2⟩);exact .inr ⟨g,T,xs,c,iw _ _ _ iz h1,by rw [hw];exact h2,h3,h4,by rw [hp];exact h5,fun o=>by rw [hF];exact h6 o⟩)|rP v e rs =>((rcases h with ⟨h1,h2⟩|⟨g,c,h1,h2,h3⟩);(·exact .inl ⟨h1,by rw [hk k v iz];exact h2⟩);exact .inr ⟨g,c,iw _ _ _ iz h1,h2,by rw [hp,hF];exact h3⟩)|loop s nP fr params assign body =>obtain⟨l,fn,tmps,db,h1,h2,h3,h4⟩:=h;exact⟨l,fn,tmps,db,iw _ _ _ iz h1,by rw [hw];exact h2,h3.JP hb Gr iw,fun o=>by rw [hF];exact h4 o⟩|map dP clock =>obtain⟨g,es,h1,h2,h3,h4⟩:=h;refine⟨g,es,iw _ _ _ iz h1,by rw [hw];exact h2,⟨by rw [au];exact h3.1,fun i kb e kD he=>?_⟩,fun o=>by rw [hF];exact h4 o⟩;rw [ak,bc] at kD;obtain⟨q,hq,rfl⟩:=kD;obtain⟨p1,p2,p3⟩:=h3.2 i q e hq he;exact⟨p1,p2,p3.JP (aZ.1 hb q (aE hq)) Gr iw⟩|jJ m since seen last =>obtain⟨g,gm,e,c,h1,h2,h3,h4⟩:=h;exact⟨g,gm,e,c,iw _ _ _ iz h1,iw _ _ _ (by simpa [aK] using hb) h2,by rw [hw];exact h3,fun o=>by rw [hF];exact h4 o⟩|n5 T kb v l =>obtain⟨g,T',p,s,h1,h2,h3,h4,h5⟩:=h;exact⟨g,T',p,s,iw _ _ _ iz h1,by rw [hw];exact h2,h3,h4.JP (n:=n) (by simpa [aK,aG] using hb) Gr iw,fun o=>by rw [hF];exact h5 o⟩|oW T v O =>((rcases h with ⟨h1,h2⟩|⟨g,cur,c,h1,h2,h3,h4,h5,h6⟩);(·exact .inl ⟨h1,by rw [hk k v iz];exact h2⟩);exact .inr ⟨g,cur,c,iw _ _ _ iz h1,by rw [hw];exact h2,h3,h4,h5,fun o=>by rw [hF];exact h6 o⟩)|nL s pos =>obtain⟨g,h1,h2,h3⟩:=h;exact⟨g,iw _ _ _ iz h1,by rw [hw];exact h2,fun o=>by rw [hF];exact h3 o⟩|og =>obtain⟨g,h1,h2,h3⟩:=h;exact⟨g,iw _ _ _ iz h1,by rw [hw];exact h2,fun o=>by rw [hF];exact h3 o⟩
theorem kL.wj {E E2:Env} {w:World} {k:Nat} {B:bx} {n:Nat} {σ:Nat→Nat} (h:kL E w (σ k) (CG σ B)) (iz:k<n) (hb:aK n B=true) (hF:E2.F=E.F) (hk:∀ k v,k<n→E2.cC k v=E.cC (σ k) v):kL E2 w k B:=by
 have Gr:∀ ad y,E.F ad=some y→E2.F ad=some y:=fun ad y h=>by rw [hF];exact h
 have iw:∀ k v t,k<n→E.cC (σ k) v=some t→E2.cC k v=some t:=fun k v t hn h=>by rw [hk k v hn];exact h
 have hp:E2.pure=E.pure:=Env.Mo hF rfl;cases B with|hole=>(exact fun v=>by rw [hk k v iz];exact h v)|dead=>trivial|box cs =>obtain⟨g,T,xs,h1,h2,h3,h4⟩:=h;exact⟨g,T,xs,iw _ _ _ iz h1,h2,h3.wj hb Gr iw,fun o=>by rw [hF];exact h4 o⟩|rows v e rs =>((rcases h with ⟨h1,h2⟩|⟨g,T,xs,c,h1,h2,h3,h4,h5,h6⟩);(·exact .inl ⟨h1,by rw [hk k v iz];exact h2⟩);exact .inr ⟨g,T,xs,c,iw _ _ _ iz h1,h2,h3,h4,by rw [hp];exact h5,fun o=>by rw [hF];exact h6 o⟩)|rP v e rs =>((rcases h with ⟨h1,h2⟩|⟨g,c,h1,h2,h3⟩);(·exact .inl ⟨h1,by rw [hk k v iz];exact h2⟩);exact .inr ⟨g,c,iw _ _ _ iz h1,h2,by rw [hp,hF];exact h3⟩)|loop s nP fr params assign body =>obtain⟨l,fn,tmps,db,h1,h2,h3,h4⟩:=h;exact⟨l,fn,tmps,db,iw _ _ _ iz h1,h2,h3.wj hb Gr iw,fun o=>by rw [hF];exact h4 o⟩|map dP clock =>obtain⟨g,es,h1,h2,h3,h4⟩:=h;refine⟨g,es,iw _ _ _ iz h1,h2,⟨by have:=h3.1;rwa [au] at this,fun i q e hq he=>?_⟩,fun o=>by rw [hF];exact h4 o⟩;obtain⟨p1,p2,p3⟩:=h3.2 i _ e (by rw [ak,hq];rfl) he;exact⟨p1,p2,p3.wj rfl (aZ.1 hb q (aE hq)) Gr iw⟩|jJ m since seen last =>obtain⟨g,gm,e,c,h1,h2,h3,h4⟩:=h;exact⟨g,gm,e,c,iw _ _ _ iz h1,iw _ _ _ (by simpa [aK] using hb) h2,h3,fun o=>by rw [hF];exact h4 o⟩|n5 T kb v l =>obtain⟨g,T',p,s,h1,h2,h3,h4,h5⟩:=h;exact⟨g,T',p,s,iw _ _ _ iz h1,h2,h3,cY.wj h4 (v:=.ms kb v 0 l) (n:=n) rfl (by simpa [aK,aG] using hb) Gr iw,fun o=>by rw [hF];exact h5 o⟩|oW T v O =>((rcases h with ⟨h1,h2⟩|⟨g,cur,c,h1,h2,h3,h4,h5,h6⟩);(·exact .inl ⟨h1,by rw [hk k v iz];exact h2⟩);exact .inr ⟨g,cur,c,iw _ _ _ iz h1,h2,h3,h4,h5,fun o=>by rw [hF];exact h6 o⟩)|nL s pos =>obtain⟨g,h1,h2,h3⟩:=h;exact⟨g,iw _ _ _ iz h1,h2,fun o=>by rw [hF];exact h3 o⟩|og =>obtain⟨g,h1,h2,h3⟩:=h;exact⟨g,iw _ _ _ iz h1,h2,fun o=>by rw [hF];exact h3 o⟩
def sH (σ:Nat→Nat):Nat→List bx→List bx→List bx
 | _,[],M=>M
 | i,B :: r,M=>sH σ (i+1) r (M.set (σ i) (CG σ B))
def Hi (σ:Nat→Nat) (n:Nat) (bS M:List bx):List bx:=sH σ 0 (bS.take n) M++(bS.drop n).map (CG σ)
theorem jR (σ:Nat→Nat):∀ (l:List bx) (i:Nat) (M:List bx),(sH σ i l M).length=M.length
 | [],_,_=>rfl
 | B :: r,i,M=>by rw [sH,jR σ r];simp
theorem xH (σ:Nat→Nat):∀ (l:List bx) (i:Nat) (M:List bx) (k:Nat),(∀ j,i≤j→j<i+l.length→σ j≠k)→(sH σ i l M)[k]?=M[k]?
 | [],_,_,_,_=>rfl
 | B :: r,i,M,k,h=>by
  rw [sH,xH σ r (i+1) _ k fun j h1 h2=>h j (by omega) (by simp;omega),cP (h i (aB _) (by simp))]
theorem Dt (σ:Nat→Nat):∀ (l:List bx) (i:Nat) (M:List bx) (j:Nat) (B:bx),(∀ a b,i≤a→a<i+l.length→i≤b→b<i+l.length→σ a=σ b→a=b)→i≤j→l[j-i]?=some B→σ j<M.length→(sH σ i l M)[σ j]?=some (CG σ B)
 | [],_,_,_,_,_,_,h,_=>by simp at h
 | C :: r,i,M,j,B,M8,IP,h,bL=>by
  rw [sH]
  by_cases hj:j=i
  ·subst hj
   rw [dR] at h;cases h
   rw [xH σ r (j+1) _ (σ j) fun a h1 h2 e=>by have:=M8 a j (by omega) (by simp;omega) (aB _) (by simp) e;omega]
   rw [bX];simp [bL]
  refine Dt σ r (i+1) _ j B (fun a b h1 h2 h3 h4=>M8 a b (by omega) (by simp;omega) (by omega) (by simp;omega)) (by omega) ?_ (by simpa using bL)
  rw [show j-i=(j-(i+1))+1 by omega] at h
  simpa using h
theorem bI.JP {P:Program} {f:FuncId} {vs:List V} {r:V} {mem bS:List bx} (h:bI P f vs mem r bS) (M:List bx) (σ:Nat→Nat) (n:Nat) (hn:n=mem.length) (hv:vs.all (aG n)=true) (hm:mem.all (aK n)=true) (hr:aG bS.length r=true)
  (hm':bS.all (aK bS.length)=true) (hlen:n≤bS.length) (hσ:∀ i B,mem[i]?=some B→M[σ i]?=some (CG σ B)) (M8:∀ i j,i<n→j<n→σ i=σ j→i=j) (pC:∀ j,n≤j→σ j=M.length+(j-n)) :
  bI P f (tN σ vs) M (lR σ r) (Hi σ n bS M):=by
 subst hn;have hold:∀ i,i<mem.length→σ i<M.length:=fun i hi=>(az.1 (hσ i _ (aw hi))).1;have hL:(Hi σ mem.length bS M).length=M.length+(bS.length-mem.length):=by unfold Hi;rw [ab,jR,au,dw]
 have PD:∀ i B,bS[i]?=some B→(Hi σ mem.length bS M)[σ i]?=some (CG σ B):=fun i B hi=>by unfold Hi;(rcases bz i mem.length with bL|gq);(·rw [bA (by rw [jR];exact hold i bL)];refine Dt σ _ 0 M i B (fun a b _ h2 _ h4 he=>?_) (bj _) (by rw [ap6,jI bL];exact hi) (hold i bL);rw [cQ] at h2 h4;exact M8 a b (by omega) (by omega) he);rw [pC i gq,a8 (by rw [jR];omega),jR,ee,ak,arM,show mem.length+(i-mem.length)=i by omega,hi];rfl
 have dL:∀ k,k<M.length→(∀ i,i<mem.length→σ i≠k)→(Hi σ mem.length bS M)[k]?=M[k]?:=fun k hk h=>by unfold Hi;rw [bA (by rw [jR];exact hk)];exact xH σ _ 0 M k fun j _ h2=>h j (by rw [cQ] at h2;omega)
 generalize Hi σ mem.length bS M=M' at hL PD dL;refine⟨h.1,fun E w xs hs hx=>?_⟩;have hE0:∀ k v,k<mem.length→(⟨E.F,fun k v=>if k<mem.length then E.cC (σ k) v else none,E.gl⟩:Env).cC k v=E.cC (σ k) v:=fun k v hk=>if_pos hk;have Zp:∀ k v,mem.length≤k→(⟨E.F,fun k v=>if k<mem.length then E.cC (σ k) v else none,E.gl⟩:Env).cC k v=none:=fun k v hk=>if_neg (by omega);have JQ:(⟨E.F,fun k v=>if k<mem.length then E.cC (σ k) v else none,E.gl⟩:Env).F=E.F:=rfl;generalize (⟨E.F,fun k v=>if k<mem.length then E.cC (σ k) v else none,E.gl⟩:Env)=E0 at hE0 Zp JQ;have pw:∀ k v t,E0.cC k v=some t→k<mem.length∧E.cC (σ k) v=some t:=fun k v t h=>by (rcases bz k mem.length with hk|hk);(·exact⟨hk,by rw [← hE0 k v hk];exact h⟩);rw [Zp k v hk] at h;cases h
 have Jc:de E0 w { tmps := #[],defers:=[] } { fr:=[],mem:=mem } :=
  ⟨fun ad y hy=>hs.F ad y (by rw [← JQ];exact hy),fun k v g e c hk=>hs.lt _ _ _ _ _ (pw _ _ _ hk).2,
   fun k B hk=>(hs.mem _ _ (hσ k B hk)).wj (az.1 hk).1 (aZ.1 hm B (aE hk)) JQ hE0,
   fun k hk v=>Zp k v hk,fun k B hk v hv=>by
    rw [hE0 k v (az.1 hk).1]
    exact hs.dZ _ _ (hσ k B hk) v (by rw [Hh];exact hv),
   fun k k' v v' g e c e' c' h1 h2=>by
    obtain⟨p1,p2⟩:=pw _ _ _ h1
    obtain⟨q1,q2⟩:=pw _ _ _ h2
    exact M8 k k' p1 q1 (hs.apart _ _ _ _ _ _ _ _ _ p2 q2),.nil _⟩
 have KZ:cU E0 vs xs.toList:=hx.wj hv (fun ad y hy=>by rw [JQ];exact hy) fun k v t hk h=>by rw [hE0 k v hk];exact h
 refine (h.2 E0 w xs Jc KZ).mono ?_;rintro en w1 ⟨E1,x,rfl,gE,pO,FW⟩;have hA0:∀ i v,i<mem.length→(⟨E1.F,fun K v=>match (List.range mem.length).find? (fun i=>σ i==K) with|some i=>E1.cC i v|none=>if K<M.length then E.cC K v else E1.cC (K-M.length+mem.length) v,E1.gl⟩:Env).cC (σ i) v=E1.cC i v:=fun i v hi=>by show (match (List.range mem.length).find? (fun j=>σ j==σ i) with|some i=>E1.cC i v|none=>_)=_;(have:(List.range mem.length).find? (fun j=>σ j==σ i)=some i:=by cases hf:(List.range mem.length).find? (fun j=>σ j==σ i) with|none =>have:=asj.1 hf i (al4.2 hi);simp at this|some j =>have h1:=List.find?_some hf;have h2:=al4.1 (List.mem_of_find?_eq_some hf);rw [M8 j i h2 hi (by simpa using h1)]);rw [this]
 have jS:∀ K,(∀ i,i<mem.length→σ i≠K)→(List.range mem.length).find? (fun i=>σ i==K)=none:=fun K h=>asj.2 fun i hi=>by have:=h i (al4.1 hi);simpa using this
 have hB:∀ K v,K<M.length→(∀ i,i<mem.length→σ i≠K)→(⟨E1.F,fun K v=>match (List.range mem.length).find? (fun i=>σ i==K) with|some i=>E1.cC i v|none=>if K<M.length then E.cC K v else E1.cC (K-M.length+mem.length) v,E1.gl⟩:Env).cC K v=E.cC K v:=fun K v hK h=>by show (match (List.range mem.length).find? (fun j=>σ j==K) with|some i=>E1.cC i v|none=>_)=_;rw [jS K h];exact if_pos hK
 have FV:∀ i v,mem.length≤i→(⟨E1.F,fun K v=>match (List.range mem.length).find? (fun i=>σ i==K) with|some i=>E1.cC i v|none=>if K<M.length then E.cC K v else E1.cC (K-M.length+mem.length) v,E1.gl⟩:Env).cC (σ i) v=E1.cC i v:=fun i v hi=>by show (match (List.range mem.length).find? (fun j=>σ j==σ i) with|some i=>E1.cC i v|none=>_)=_;have qC:=pC i hi;rw [jS (σ i) fun j hj e=>by have:=hold j hj;omega];show (if σ i<M.length then E.cC (σ i) v else E1.cC (σ i-M.length+mem.length) v)=_;rw [if_neg (by omega),qC,show M.length+(i-mem.length)-M.length+mem.length=i by omega]
 have JR:(⟨E1.F,fun K v=>match (List.range mem.length).find? (fun i=>σ i==K) with|some i=>E1.cC i v|none=>if K<M.length then E.cC K v else E1.cC (K-M.length+mem.length) v,E1.gl⟩:Env).F=E1.F:=rfl;generalize (⟨E1.F,fun K v=>match (List.range mem.length).find? (fun i=>σ i==K) with|some i=>E1.cC i v|none=>if K<M.length then E.cC K v else E1.cC (K-M.length+mem.length) v,E1.gl⟩:Env)=E2 at hA0 hB FV JR;have hA:∀ i v,E2.cC (σ i) v=E1.cC i v:=fun i v=>by (rcases bz i mem.length with hi|hi);(·exact hA0 i v hi);exact FV i v hi
 have cl:∀ K,(∃ i,K=σ i)∨(K<M.length∧∀ i,i<mem.length→σ i≠K):=fun K=>by (rcases bz K M.length with hK|hK);(·by_cases h:∃ i,i<mem.length∧σ i=K;(·obtain⟨i,-,hi⟩:=h;exact .inl ⟨i,hi.symm⟩);exact .inr ⟨hK,fun i hi e=>h ⟨i,hi,e⟩⟩);exact .inl ⟨K-M.length+mem.length,by rw [pC _ (by omega)];omega⟩
 have Av:∀ K v g e c,(∀ i,i<mem.length→σ i≠K)→E.cC K v=some (g,e,c)→∀ k0 v0 e0 c0,E0.cC k0 v0≠some (g,e0,c0):=fun K v g e c hK hb k0 v0 e0 c0 h=>by obtain⟨h1,h2⟩:=pw _ _ _ h;exact hK k0 h1 (hs.apart _ _ _ _ _ _ _ _ _ h2 hb)
 have hle:E.le E2:=⟨fun ad y hy=>by rw [JR];exact gE.le.F _ _ (by rw [JQ];exact hy),fun K v t hk=>by (rcases cl K with ⟨i,rfl⟩|⟨hK,wk⟩);(·rw [hA i v];(rcases bz i mem.length with hi|hi);(·exact gE.le.cC _ _ _ (by rw [hE0 i v hi];exact hk));rw [hs.top (σ i) (by rw [pC i hi];dsimp only;omega) v] at hk;cases hk);rw [hB K v hK wk];exact hk⟩;refine⟨E2,x,rfl,⟨hle,fun K v g e c hk=>?_,fun ad y hy=>?_,gE.os,gE.tape,gE.output,gE.size,fun b hb dL=>gE.heap b hb fun k v e c h=>dL _ _ _ _ (pw _ _ _ h).2⟩, ⟨fun ad y hy=>pO.F _ _ (by rw [← JR];exact hy),fun K v g e c hk=>?_,fun K B hk=>?_,fun K hk v=>?_,fun K B hk v hv=>?_,fun K K' v v' g e1 c1 e2 c2 h5 h6=>?_,.nil _⟩,FW.JP hr (fun ad y hy=>by rw [JR];exact hy) fun k v t _ hk=>by rw [hA];exact hk⟩;·(rcases cl K with ⟨i,rfl⟩|⟨hK,wk⟩);(·rw [hA i v] at hk;(rcases gE.cC _ _ _ _ _ hk with ⟨k0,v0,e0,c0,h⟩|h);(·exact .inl ⟨_,_,_,_,(pw _ _ _ h).2⟩);exact .inr h);rw [hB K v hK wk] at hk;exact .inl ⟨_,_,_,_,hk⟩
 ·rw [JR] at hy;(rcases gE.F _ _ hy with h|h|⟨k0,v0,e0,c0,h⟩);(·exact .inl (by rw [← JQ];exact h));(·exact .inr (.inl h));exact .inr (.inr ⟨_,_,_,_,(pw _ _ _ h).2⟩)
 ·(rcases cl K with ⟨i,rfl⟩|⟨hK,wk⟩);(·rw [hA i v] at hk;exact pO.lt _ _ _ _ _ hk);rw [hB K v hK wk] at hk;exact rm (hs.lt _ _ _ _ _ hk) gE.size
 ·(rcases cl K with ⟨i,rfl⟩|⟨hK,wk⟩);(·(have hi:i<bS.length:=by have h1:=(az.1 hk).1;(rcases bz i mem.length with h2|h2);(·omega);have h3:=pC i h2;dsimp only at h1;omega);have lY:=PD i _ (aw hi);rw [hk] at lY;cases lY;exact (pO.mem i _ (aw hi)).JP hi (aZ.1 hm' _ (List.getElem_mem hi)) JR (fun k v _=>hA k v) rfl);dsimp only at hk;rw [dL K hK wk] at hk;refine (hs.mem K B hk).mono hle (fun v hv=>by rw [hB K v hK wk];exact hv) (fun g e c hb=>gE.heap g (hs.lt _ _ _ _ _ hb) fun k0 v0 e0 c0 h=>Av _ _ _ _ _ wk hb _ _ _ _ h) fun g e c o hb hn=>?_;rw [JR];cases hy:E1.F ⟨g,o,none⟩ with|none=>rfl|some y =>(rcases gE.F _ _ hy with h|h|⟨k0,v0,e0,c0,h⟩);(·rw [JQ,hn] at h;cases h);(·have:=hs.lt _ _ _ _ _ hb;simp at h;omega);exact absurd h (Av _ _ _ _ _ wk hb _ _ _ _)
 ·(rcases cl K with ⟨i,rfl⟩|⟨hK,wk⟩);(·rw [hA i v];refine pO.top i ?_ v;dsimp only at hk ⊢;(rcases bz i mem.length with h2|h2);(·have:=hold i h2;omega);have h3:=pC i h2;omega);dsimp only at hk;omega
 ·(rcases cl K with ⟨i,rfl⟩|⟨hK,wk⟩);(·rw [hA i v];(have hi:i<bS.length:=by have h1:=(az.1 hk).1;(rcases bz i mem.length with h2|h2);(·omega);have h3:=pC i h2;dsimp only at h1;omega);have lY:=PD i _ (aw hi);rw [hk] at lY;cases lY;rw [Hh] at hv;exact pO.dZ i _ (aw hi) v hv);rw [hB K v hK wk];dsimp only at hk;rw [dL K hK wk] at hk;exact hs.dZ K B hk v hv
 have mixed:∀ i K' v v' g e1 c1 e2 c2,(∀ i,i<mem.length→σ i≠K')→E1.cC i v=some (g,e1,c1)→E.cC K' v'=some (g,e2,c2)→False:=fun i K' v v' g e1 c1 e2 c2 hK' h h'=>by (rcases gE.cC _ _ _ _ _ h with ⟨k0,v0,e0,c0,h0⟩|h0);(·exact absurd h0 (Av _ _ _ _ _ hK' h' _ _ _ _));have:=hs.lt _ _ _ _ _ h';omega
 rcases cl K with ⟨i,rfl⟩|⟨hK,Zq⟩ <;> rcases cl K' with ⟨j,rfl⟩|⟨hK',JS⟩
 ·rw [hA] at h5 h6;rw [pO.apart _ _ _ _ _ _ _ _ _ h5 h6]
 ·rw [hA] at h5;rw [hB K' _ hK' JS] at h6;exact (mixed _ _ _ _ _ _ _ _ _ JS h5 h6).elim
 ·rw [hB K _ hK Zq] at h5;rw [hA] at h6;exact (mixed _ _ _ _ _ _ _ _ _ Zq h6 h5).elim
 rw [hB K _ hK Zq] at h5;rw [hB K' _ hK' JS] at h6;exact hs.apart _ _ _ _ _ _ _ _ _ h5 h6
end Go.Eng
end
section
namespace Go.Eng
variable [bB]
section
variable {P:Program} {ρ:Option Nat} {n0:Nat} {c:Code} {st:St} {Q:Exit→St→Prop}
end
end Go.Eng
end
section
namespace Go.Eng
variable [bB]
section
variable {P:Program} {ρ:Option Nat} {n0:Nat} {Q:Exit→St→Prop} {c:Code} {st:St}
end
end Go.Eng
end
section
namespace Go.Eng
variable [bB]
section
variable {k_:Tk} {m:Bool} {P:Program} {ρ:Option Nat} {n0:Nat} {st:St} {Q:Exit→St→Prop} {n:Nat} {ws:List (Nat×V)} {mem:List bx} {c:Code}
end
end Go.Eng
end
section
namespace Go.Proofs.YtfbbfmcggbapoaaGreatDoor
open Go.Eng
set_option maxHeartbeats 4000000
set_option maxRecDepth 100000
attribute [go_sem] fa dn gh iY St.eval St.put ka l4 Ee cH dS aO aP oP Value.oneCell' if_true if_false dm af ai ans aC ay ah bo bw List.getD_cons_zero List.getD_cons_succ xk j2 oX rW tc jo bT Nat.zero_mul D1 TI fieldAt pV jN j1 zq gf gQ aJ cp List.head?_cons cr jm bj aB true_and and_true and_self fh jb rowsOf eM bF D7 Yk Yl Ym Yn Yo Yp Yq Yr Ys Yt Yu OJ T1 T3 T4 gJ oh indexAt Af K3 D9 xi nK V.cells F2 D4 XY di cx arG lW List.size_toArray ast beq_self_eq_true decide_true decide_false aY aR pF r9 qK nz kC kY TO pZ rowOf mF ne_eq not_true_eq_false not_false_eq_true nB nc vJ V.sc.injEq Value.bool.injEq vS ae ag fP iF adj adk Ud Ue Uf KY tt3 tt4 tt5 tt9 aiR aiS aiT aiU aiV aiW aiX aiY aiZ ai0 ai1 ai2 ai3 ai4 ai5 ai6 ai7 ai8 ai9 aja adu adv adw adx ady P0 WK WL adz adA AX adB adC adD List.toList_toArray List.append_eq Ak OP I5 V0 ow eY o8 vO yn o5 qV lL Lu gj tm gT P8 YV Uy uN xD Ci iE ke iD ej runM gx qb y3 hD oQ rI isHole ez Gz bx.dZ uJ Y7 A3 WU sE lk FY wi zN pk zk fY fw y1 ew rn CF aG aQ aK Y9 Za Zb Zc UE ET niV Ql Zk zG eG Qm Zn Zo AE Qi adR adS adT adU adV aji ajj ajk ajl ajm ajn ajo ajp ajq ajr ajs ajt aju ajv Qo M4 Qp M6 M5 nU pH nT pG CA List.replicate al rX uy
attribute [go_sem ↓] JO M3 Ze M1 Zd Y5 Y6 UH Lz
attribute [go_sem] reduceIte Nat.reduceAdd Nat.reduceLT Nat.reduceLeDiff Nat.reduceMul Nat.reduceEqDiff Nat.reduceSub reduceCtorEq
attribute [go_sem] pN pR mu jO
end Go.Proofs.YtfbbfmcggbapoaaGreatDoor
end
section
namespace Go.Eng
variable [bB]
theorem de.A6 {E:Env} {w:World} {a:Act} {st:St} (hs:de E w a st) {b:Nat} {B B':bx} (hm:st.mem[b]?=some B) (TL:B'.dZ=B.dZ) (hB:kL E w b B'):de E w a { st with mem:=st.mem.set b B' }:=by
 have bL:b<st.mem.length:=(az.1 hm).1;refine⟨hs.F,hs.lt,fun k B1 hk=>?_,fun k hk=>hs.top k (by simpa using hk),fun k B1 hk v hv=>?_,hs.apart,hs.fr⟩;·dsimp only at hk;rw [bX] at hk;split at hk;(·rename_i fK;subst fK;cases hk;exact hB);exact hs.mem k B1 hk
 dsimp only at hk;rw [bX] at hk;split at hk;·rename_i fK;subst fK;cases hk;exact hs.dZ _ B hm v (by rw [← TL];exact hv)
 exact hs.dZ k B1 hk v hv
theorem de.snoc {E:Env} {w:World} {a:Act} {st:St} (hs:de E w a st) {B:bx} (hB:kL E w st.mem.length B):de E w a { st with mem:=st.mem++[B] }:=by
 refine⟨hs.F,hs.lt,fun k B1 hk=>?_,fun k hk=>hs.top k (by dsimp only at hk;rw [ab] at hk;simp at hk;omega),fun k B1 hk v hv=>?_,hs.apart,hs.fr⟩;·dsimp only at hk;rw [oV] at hk;split at hk;(·exact hs.mem k B1 hk);rename_i gq;(have:k-st.mem.length=0:=by have:=(az.1 hk).1;simpa using this);rw [this] at hk;cases hk;(have:k=st.mem.length:=by omega);subst this;exact hB
 dsimp only at hk;rw [oV] at hk;split at hk;·exact hs.dZ k B1 hk v hv
 rename_i gq;exact hs.top k (by omega) v
def lS (O:List UInt8):List V:=O.map fun b=>.sc (.int .u8 (b.toNat:Int))
theorem mb (O:List UInt8):(lS O).length=O.length:=au _
theorem A7 {E:Env} {w:World} {k v:Nat} {T:TypeId} {O:List UInt8} (h:kL E w k (.oW T v O)):kL E w k (.rows v 1 (lS O)):=by
 rcases h with ⟨rfl,h⟩|⟨g,cur,c,h1,h2,h3,h4,h5,h6⟩
 ·exact .inl ⟨rfl,h⟩
 refine .inr ⟨g,T,cur,c,h1,h2,by rw [h3,rN],by rw [mb];exact h4.1,fun i row hi=>?_,h6⟩;unfold lS at hi;rw [ak] at hi;cases hb:O[i]? with|none=>rw [hb] at hi;cases hi|some b =>rw [hb] at hi;cases hi;refine⟨rfl,fun j c hj=>?_⟩;cases j with|succ j=>simp [V.cells] at hj|zero =>simp only [V.cells,aJ,aF] at hj;subst hj;exact⟨_,by dsimp only;rw [rN,jm];exact h5 i b hb,rfl,.sc _ _⟩
theorem Hj {E:Env} {w:World} {k v:Nat} {T:TypeId} {O:List UInt8} (h:kL E w k (.rows v 1 (lS O))) (hT:∀ g c,E.cC k v=some (g,1,c)→∃ cur,w.heap[g]?=some (.cells cur T (0,0))∧cur.size≤maxLen):kL E w k (.oW T v O):=by
 rcases h with ⟨h,h0⟩|⟨g,T',cur,c,h1,h2,h3,h4,h5,h6⟩
 ·exact .inl ⟨by simpa [lS] using h,h0⟩
 obtain⟨aon,h7,h8⟩:=hT g c h1;rw [h2] at h7;cases h7;rw [rN] at h3;refine .inr ⟨g,cur,c,h1,h2,h3,⟨by rw [mb] at h4;exact h4,by omega⟩,fun j b hb=>?_,h6⟩;obtain⟨-,h9⟩:=h5 j (.sc (.int .u8 (b.toNat:Int))) (by unfold lS;rw [ak,hb];rfl);obtain⟨x,hx,-,hr⟩:=h9 0 (.sc (.int .u8 (b.toNat:Int))) rfl;dsimp only at hx;rw [rN,jm] at hx;rw [hx,fu hr]
theorem yG (s:ByteArray):(j4 s).length=s.size:=by unfold j4;rw [au,gb];rfl
theorem UL (O:List UInt8) (s:ByteArray):lS O++j4 s=lS (O++s.data.toList):=by unfold lS j4;rw [pM]
theorem cY.uQ {E:Env} {k v n:Nat} {x:Value} (h:cY E (.ms k v 0 n) x):(n=0∧x = .slice none 0 0)∨∃ g e c,x = .slice (some ⟨g,0,none⟩) n c∧E.cC k v=some (g,e,c)∧n≤c:=by
 generalize hm:V.ms k v 0 n=m at h;cases h <;> first|(cases hm;done)|skip
 ·cases hm;rename_i g e c a cap hb h0 hl hc;obtain⟨rfl,rfl⟩:=h0 rfl;exact .inr ⟨g,e,_,rfl,hb,hc.1⟩
 cases hm;exact .inl ⟨rfl,rfl⟩
theorem EX {E:Env} {w:World} {k v:Nat} {T:TypeId} {O:List UInt8} {x:Value} (h:kL E w k (.oW T v O)) (hr:cY E (.ms k v 0 O.length) x):w.ownsRow 0 T 1 x O.length (Lib.byteCells O):=by
 refine⟨by rw [Lib.byteCells_length,rN],?_⟩;rcases hr.uQ with ⟨h0,rfl⟩|⟨g,e,c,rfl,hb,hc⟩
 ·exact .inl ⟨rfl,h0⟩
 rcases h with ⟨rfl,h⟩|⟨g',cur,c',h1,h2,h3,h4,h5,h6⟩
 ·rw [h] at hb;cases hb
 rw [h1] at hb;cases hb;refine .inr ⟨g,c,cur,rfl,bj _,h2,h4.1,h4.2,by rw [h3,rN],?_⟩;rw [rN];apply dM;intro j;rw [kz];split;·rename_i hj;have hb:=aw hj;have h7:=h5 j _ hb;rw [dQ,h7];simp [Lib.byteCells,hb]
 rename_i hj;rw [ec];rw [Lib.byteCells_length];omega
theorem de.Zr {P:Program} {tt:Table} (ht:TT P tt) {E:Env} {w:World} {a:Act} {st:St} (hs:de E w a st) {k v:Nat} {t e u ty:TypeId} {O:List UInt8} {s:ByteArray} {sv:Value} {it iu:Ti}
  (hT:tt t=some it) (he:it.elem=some e) (hE:tt e=some { size:=1,agg:=false,zero:=[.int .u8 0],bytes:=1 }) (hi:∃ i,P.info? e=some i∧i.zero=some (.int .u8 0)∧i.size=1∧i.bytes=1) (hU:tt u=some iu) (hu1:iu.elem=none) (hu2:uy iu.zero=true) (hu3:iu.agg=false)
  (hm:st.mem[k]?=some (.oW e v O)) (Zs:cY E (.ms k v 0 O.length) sv) (h0:0<s.size) (hlen:O.length+s.size≤34359738368) :
  ∃ v' w' E',(Builtin.append_ #[t,u] ty #[sv,.string s]).run P w = .ok v' w'∧de E' w' a { st with mem:=st.mem.set k (.oW e (v+1) (O++s.data.toList)) }∧ic E w E' w'∧cY E' (.ms k (v+1) 0 (O.length+s.size)) v':=by
 have bL:k<st.mem.length:=(az.1 hm).1;have Hk:=hs.mem k _ hm;have y5:=EX Hk Zs;have qC:=hs.A6 hm (B':=.rows v 1 (lS O)) rfl (A7 Hk);have Zt:fh tt (st.mem.set k (.rows v 1 (lS O))) [t,u] (.ms k v 0 O.length) (.sc (.string s))=some (1,some (k,v),lS O++j4 s):=by (have h1:(lS O).length+(j4 s).length≤34359738368:=by rw [mb,yG];exact hlen);(have h2:jb (st.mem.set k (.rows v 1 (lS O))) 1 (.ms k v 0 O.length)=some (some (k,v),lS O):=by simp only [jb,eX bL,mb,and_self,if_true]);(have h3:rX tt (st.mem.set k (.rows v 1 (lS O))) u 1 (.sc (.string s))=some (j4 s):=by simp only [rX,hU,hu1,hu2,hu3,and_self,if_true]);simp only [fh,hT,he,hE,h2,h3,h1,if_true,Ak];rfl
 obtain⟨v',w',E',fj,rH,gE,kF⟩:=pD ht qC (ts := #[t,u]) (ty:=ty) (key:=st.mem.length) (.inr (by simp)) Zs (.sc _ _) Zt;obtain⟨i,ud,On,TP,hi4⟩:=hi;obtain⟨d,hd,-,ve,-⟩:=ht.desc t it hT;have Qq:0≤w.heap.size:=bj _;obtain⟨v2,w2,Hl,Qr,-,-⟩:=Lib.run_append_own_string (P:=P) w 0 t u ty e i (by rw [hd,ve e he]) (ht.str u iu hU hu2 hu3) ud On TP hi4 sv O.length _ y5 s (by unfold maxLen;omega) (by omega) Qq;rw [fj] at Hl;cases Hl;have hn:(lS O++j4 s).length=O.length+s.size:=by rw [ab,mb,yG]
 have Hm:cY E' (.ms k (v+1) 0 (O.length+s.size)) v':=by have:=kF;simp only [eM,hn] at this;exact this
 refine⟨v',w',E',fj,?_,gE,Hm⟩;have ng:(st.mem.set k (.rows v 1 (lS O))).set k (.rows (v+1) 1 (lS O++j4 s))=st.mem.set k (.rows (v+1) 1 (lS (O++s.data.toList))):=by rw [ap7,UL]
 simp only [eM] at rH;rw [ng] at rH;have kG:(st.mem.set k (.rows (v+1) 1 (lS (O++s.data.toList))))[k]?=some (.rows (v+1) 1 (lS (O++s.data.toList))):=eX bL;have FX:=rH.A6 kG (B':=.oW e (v+1) (O++s.data.toList)) rfl (Hj (rH.mem k _ kG) fun g c hb=>by (rcases Hm.uQ with ⟨h9,-⟩|⟨g',e',c',rfl,gD,-⟩);(·omega);rw [hb] at gD;cases gD;(rcases Qr.2 with ⟨h9,-⟩|⟨g2,ajx,Zu,h9,-,C9,-,h11,h12,-⟩);(·cases h9);cases h9;exact⟨Zu,C9,by omega⟩);dsimp only at FX;rw [ap7] at FX;exact FX
theorem de.UM {P:Program} {tt:Table} (ht:TT P tt) {E:Env} {w:World} {a:Act} {st:St} (hs:de E w a st) {k v:Nat} {t e ty:TypeId} {O:List UInt8} {b:UInt8} {sv:Value} {it:Ti}
  (hT:tt t=some it) (he:it.elem=some e) (hE:tt e=some { size:=1,agg:=false,zero:=[.int .u8 0],bytes:=1 }) (hi:∃ i,P.info? e=some i∧i.zero=some (.int .u8 0)∧i.size=1∧i.bytes=1)
  (hm:st.mem[k]?=some (.oW e v O)) (Zs:cY E (.ms k v 0 O.length) sv) (hlen:O.length+1≤34359738368) :
  ∃ v' w' E',(Builtin.append_ #[t,t] ty #[sv,.slice (some ⟨w.heap.size,0,none⟩) 1 1]).run P (w.alloc (.cells #[.int .u8 (b.toNat:Int)] e (0,0))) = .ok v' w'∧de E' w' a { st with mem:=st.mem.set k (.oW e (v+1) (O++[b])) }∧ic E w E' w'∧cY E' (.ms k (v+1) 0 (O.length+1)) v':=by
 have bL:k<st.mem.length:=(az.1 hm).1;obtain⟨E0,Jc,Uc,Ct⟩:=hs.GK (xs := #[.int .u8 (b.toNat:Int)]) (rs:=lS [b]) (e:=1) (c:=1) e (by simp [lS]) (fun i row hi=>by cases i with|succ i=>simp [lS] at hi|zero =>simp only [lS,bT,jo,aJ,aF] at hi;subst hi;refine⟨rfl,fun j c hj=>?_⟩;cases j with|succ j=>simp [V.cells] at hj|zero =>simp only [V.cells,aJ,aF] at hj;subst hj;exact⟨_,rfl,rfl,.sc _ _⟩);have adY:=Zs.mono Uc.le;have Hk:=Jc.mem k _ hm;have y5:=EX Hk adY;have qC:=Jc.A6 hm (B':=.rows v 1 (lS O)) rfl (A7 Hk);have Zt:fh tt (st.mem.set k (.rows v 1 (lS O))) [t,t] (.ms k v 0 O.length) (.slice (lS [b]))=some (1,some (k,v),lS O++lS [b]):=by (have h1:(lS O).length+(lS [b]).length≤34359738368:=by rw [mb,mb];exact hlen);(have h2:jb (st.mem.set k (.rows v 1 (lS O))) 1 (.ms k v 0 O.length)=some (some (k,v),lS O):=by simp only [jb,eX bL,mb,and_self,if_true]);(have h3:rX tt (st.mem.set k (.rows v 1 (lS O))) t 1 (.slice (lS [b]))=some (lS [b]):=by simp only [rX,hT,he];rfl);simp only [fh,hT,he,hE,h2,h3,h1,if_true,Ak];rfl
 obtain⟨v',w',E',fj,rH,gE,kF⟩:=pD ht qC (ts := #[t,t]) (ty:=ty) (key:=st.mem.length) (.inr (by simp)) adY Ct Zt;obtain⟨i,ud,On,TP,hi4⟩:=hi;obtain⟨d,hd,-,ve,-⟩:=ht.desc t it hT;have Qq:0≤(w.alloc (.cells #[.int .u8 (b.toNat:Int)] e (0,0))).heap.size:=bj _
 obtain⟨v2,w2,Hl,Qr,-,-⟩:=Go.run_append_own (P:=P) (w:=w.alloc (.cells #[.int .u8 (b.toNat:Int)] e (0,0))) 0 t ty e i (.int .u8 0) 1 1 (by rw [hd,ve e he]) ud On TP hi4 rfl (by omega) sv O.length _ y5 ⟨w.heap.size,0,none⟩ 1 1 [.int .u8 (b.toNat:Int)] rfl
  (fun j u hj=>by
   cases j with
   | succ j=>simp at hj
   | zero =>
    simp only [aJ,aF] at hj
    subst hj
    exact nQ (heap_alloc_new w _) 0) (fun u hu=>by simp only [cI,iM,or_false] at hu;subst hu;rfl) (by unfold maxLen;omega) (by omega) Qq
 have hz:(lS [b]).length=1:=rfl;rw [hz] at fj;rw [fj] at Hl;cases Hl;have hn:(lS O++lS [b]).length=O.length+1:=by rw [ab,mb,mb];rfl
 have Hm:cY E' (.ms k (v+1) 0 (O.length+1)) v':=by have:=kF;simp only [eM,hn] at this;exact this
 refine⟨v',w',E',fj,?_,Uc.trans gE,Hm⟩;have Je:lS O++lS [b]=lS (O++[b]):=by unfold lS;rw [pM]
 have ng:(st.mem.set k (.rows v 1 (lS O))).set k (.rows (v+1) 1 (lS O++lS [b]))=st.mem.set k (.rows (v+1) 1 (lS (O++[b]))):=by rw [ap7,Je]
 simp only [eM] at rH;rw [ng] at rH;have kG:(st.mem.set k (.rows (v+1) 1 (lS (O++[b]))))[k]?=some (.rows (v+1) 1 (lS (O++[b]))):=eX bL;have FX:=rH.A6 kG (B':=.oW e (v+1) (O++[b])) rfl (Hj (rH.mem k _ kG) fun g c hb=>by (rcases Hm.uQ with ⟨h9,-⟩|⟨g',e',c',rfl,gD,-⟩);(·omega);rw [hb] at gD;cases gD;(rcases Qr.2 with ⟨h9,-⟩|⟨g2,ajx,Zu,h9,-,C9,-,h11,h12,-⟩);(·cases h9);cases h9;exact⟨Zu,C9,by omega⟩);dsimp only at FX;rw [ap7] at FX;exact FX
theorem de.fz {E:Env} {w w':World} {a:Act} {st:St} (hs:de E w a st) {b v e c g:Nat} {rs:List V} (hm:st.mem[b]?=some (.rP v e rs)) (hb:E.cC b v=some (g,e,c)) (ho:o3 w w' g) (hF:∀ ad x,w.cell? ad=some x→w'.cell? ad=some x):de E w' a st∧ic E w E w':=by
 refine⟨⟨fun ad x hx=>hF ad x (hs.F ad x hx),fun k v g' e' c' hk=>by rw [ho.size];exact hs.lt _ _ _ _ _ hk,fun k B1 hk=>?_,hs.top,hs.dZ,hs.apart,hs.fr⟩,
  E.le_refl,fun k v g e c h=>.inl ⟨k,v,e,c,h⟩,fun _ _ h=>.inl h,ho.os,ho.tape,ho.output,by rw [ho.size];exact aB _,fun b' gD dL=>ho.heap b' fun e=>by subst e;exact dL _ _ _ _ hb⟩
 by_cases kD:b=k;·subst kD;rw [hm] at hk;cases hk;exact hs.mem b _ hm
 cases Om:B1.held with|false=>(cases B1 <;> first|exact hs.mem k _ hk|trivial|simp [bx.held] at Om)|true =>refine (hs.mem k B1 hk).mono E.le_refl (fun _ h=>h) (fun g' e' c' fK=>ho.heap _ fun e=>?_) fun _ _ _ _ _ h=>h;subst e;exact kD (hs.apart _ _ _ _ _ _ _ _ _ hb fK)
theorem de.Zv {E:Env} {w:World} {a:Act} {st:St} (hs:de E w a st) {k v:Nat} {T:TypeId} {O:List UInt8} {sv:Value} (hm:st.mem[k]?=some (.oW T v O)) (h0:O≠[]) (Zs:cY E (.ms k v 0 O.length) sv) :
  ∃ g cap cells E',sv = .slice (some ⟨g,0,none⟩) O.length cap∧cap≠0∧w.shape? g=some (T,cells)∧O.length≤cells∧O.length≤maxLen∧(∀ j x,O[j]?=some x→w.cell? ((⟨g,0,none⟩:Addr).add j)=some (.int .u8 x.toNat)) ∧
   de E' (w.drew.freeze ⟨g,0,none⟩ O.length) a { st with mem:=st.mem.set k (.rP v 1 (lS O)) }∧ic E w E' (w.drew.freeze ⟨g,0,none⟩ O.length):=by
 have n6:O.length≠0:=by simpa using h0
 have bL:k<st.mem.length:=(az.1 hm).1;have Hk:=hs.mem k _ hm;have y5:=EX Hk Zs;rcases Zs.uQ with ⟨h9,-⟩|⟨g,e,c,rfl,hb,hc⟩
 ·omega
 rcases Hk with ⟨h9,-⟩|⟨g',cur,c',h1,h2,h3,h4,h5,h6⟩
 ·exact absurd h9 h0
 rw [h1] at hb;cases hb;have qC:=hs.drew.A6 hm (B':=.rows v 1 (lS O)) rfl (A7 (hs.drew.mem k _ hm));have kG:(st.mem.set k (.rows v 1 (lS O)))[k]?=some (.rows v 1 (lS O)):=eX bL;obtain⟨E',rH,gE,-⟩:=qC.freeze (vs:=[.ms k v 0 O.length]) (vs':=[.slice (((lS O).drop 0).take O.length)]) (by simp only [iE,ke,ej,kG,mb,cr,aB,and_self,if_true]);have ng:fw (st.mem.set k (.rows v 1 (lS O))) ([V.ms k v 0 O.length].flatMap fP)=st.mem.set k (.rP v 1 (lS O)):=by simp only [ae,ag,fP,iF,ah,fw,ew,rn,y1,kG,if_true,ap7]
 dsimp only at rH;rw [ng] at rH;have hfz:∀ b,b≠g→(w.drew.freeze ⟨g,0,none⟩ O.length).heap[b]?=w.drew.heap[b]?:=fun b hb=>by unfold World.freeze;rw [if_neg n6];simp only [arl];rw [if_neg (fun e=>hb e.symm)]
 obtain⟨FX,Jd⟩:=rH.fz (w':=w.drew.freeze ⟨g,0,none⟩ O.length) (b:=k) (eX bL) (gE.le.cC _ _ _ h1) ⟨by unfold World.freeze;rw [if_neg n6],by unfold World.freeze;rw [if_neg n6],by unfold World.freeze;rw [if_neg n6],by unfold World.freeze;rw [if_neg n6];simp,hfz⟩ fun ad x hx=>by rw [← hx];by_cases hb:ad.block=g;(·(have h7:(w.drew.freeze ⟨g,0,none⟩ O.length).heap[g]?=some (.cells cur T (0,0+O.length)):=by unfold World.freeze;rw [if_neg n6];simp only [arl,if_true];have h2':w.drew.heap[g]?=some (.cells cur T (0,0)):=h2;rw [h2'];rfl);have h2':w.drew.heap[g]?=some (.cells cur T (0,0)):=h2;simp only [World.cell?,hb,h7,h2']);simp only [World.cell?,hfz _ hb]
 refine⟨g,c,cur.size,E',rfl,by omega,by simp [World.shape?,h2],by omega,by omega,fun j x hx=>?_,FX,((ic.drew E w).trans gE).trans Jd⟩;exact y5.cells (g:=g) rfl j (.int .u8 x.toNat) (by simp [Lib.byteCells,hx])
theorem A8 {P:Program} {tt:Table} {ρ:Option Nat} {n0:Nat} {st:St} {Q:Exit→St→Prop} (ht:TT P tt) {id:Nat} {T TE:TypeId} {d:Tmp} {o:Oper} {i:Ti} (ho:o.op = .alloc T) (hd:o.dst=some d) (hg:o.guard=none) (hT:tt T=some i) (hz:i.zero=[.pointer none,.slice none 0 0])
  (h:Q .normal { fr:=st.fr.set d (.ptr st.mem.length 0),mem:=st.mem++[.n5 T (st.mem.length+1) 0 0,.oW TE 0 []] }):ek P ρ n0 (.region id #[o] false) st Q:=fun E0 w0 h0 E w a he hs hm=>by
 obtain⟨dst,op,type,pos,after,guard⟩:=o
 dsimp only at ho hd hg
 subst ho;subst hd;subst hg
 obtain⟨info,ud,-,-,z,Yd,C0⟩:=ht.size T i hT
 rw [hz] at C0
 have hzc:z.cells = #[.pointer none,.slice none 0 0]:=by rw [← cE (xs:=z.cells),C0]
 have hk:iZ st.mem st.mem.length:=.inr rfl
 have ft:(E.with st.mem.length 0 (w.heap.size,0,0)).cC st.mem.length 0=some (w.heap.size,0,0):=if_pos ⟨rfl,rfl⟩
 obtain⟨h1,h2⟩:=hs.new (obj:=.cells #[.pointer none,.slice none 0 0] T (0,0)) (B:=.n5 T (st.mem.length+1) 0 0) (e:=0) (c:=0) hk rfl
  ⟨w.heap.size,T,.pointer none,.slice none 0 0,ft,heap_alloc_new w _,.inl ⟨rfl,rfl⟩,.ja _ _ _ _,fun o=>by
   show E.F _=none
   cases hx:E.F ⟨w.heap.size,o,none⟩ with
   | none=>rfl
   | some x=>have:=World.block_lt_of_cell? w _ (hs.F _ _ hx);simp at this⟩
 have WW:dm st.mem st.mem.length (.n5 T (st.mem.length+1) 0 0)=st.mem++[.n5 T (st.mem.length+1) 0 0]:=by unfold dm;rw [if_neg (ans _)]
 rw [WW] at h1
 have h3:=h1.snoc (B:=.oW TE 0 []) (.inl ⟨rfl,h1.top _ (aB _) 0⟩)
 have h4:=h3.put (some d) (v:=.ptr st.mem.length 0) (x:=.pointer (some ⟨w.heap.size,0,none⟩)) (.ptr _ _ _ _ _ _ ft)
 refine wpIn_region ?_
 rw [arp]
 show wpOpsIn (WF ρ) 0 P _ (Po E0 w0 Q) (List.range' 0 1) a w
 rw [aro,wpOpsIn]
 simp only [ast,aJ]
 rw [if_pos (iO hs rfl)]
 refine dr (fun c hc=>by cases hc) (v:=.pointer (some ⟨w.heap.size,0,none⟩)) (w':=w.alloc (.cells #[.pointer none,.slice none 0 0] T (0,0))) ?_ ?_
 ·have Ye:(zeroValue T).run P w = .ok z w:=by simp [zeroValue,fp ud,Yd]
  simp [execOp,Instr.alloc,Ye,newVar,newRow,hzc]
 refine⟨_,_,h4,he.trans h2,?_,?_⟩
 ·rw [put_defers];exact hm.La h2
 simpa [St.put,aA] using h
section
variable {k_:Tk} {m:Bool} {P:Program} {tt:Table} {ρ:Option Nat} {n0:Nat} {Q:Exit→St→Prop} {n:Nat} {ws:List (Nat×V)} {mem:List bx}
theorem adZ (ht:TT P tt) (TE:TypeId) (sp:List Nat) {id:Nat} {T:TypeId} {d:Tmp} {o:Oper} {i:Ti} {y:Code} (ho:o.op = .alloc T) (hd:o.dst=some d) (hg:o.guard=none) (hT:tt T=some i) (hz:i.zero=[.pointer none,.slice none 0 0])
  (h:vc m P tt sp ρ n0 y ⟨W n ((d,.ptr mem.length 0) :: ws),mem++[.n5 T (mem.length+1) 0 0,.oW TE 0 []]⟩ Q):X k_ m P ρ n0 (.seq (.region id #[o] false) y) ⟨W n ws,mem⟩ Q:=by rw [← WU] at h;refine Ds (X.mono (Q:=ir (fun s=>vc m P tt sp ρ n0 y s Q) Q) ?_ (He ht));cases m with|true=>exact A8 ht ho hd hg hT hz h|false=>exact⟨.normal,_,h,fun Q' h'=>A8 ht ho hd hg hT hz h'⟩
end
end Go.Eng
end
section
namespace Go.Eng
variable [bB]
open Go.RowKit (Below)
theorem de.below {E:Env} {w w':World} {a:Act} {st:St} (hs:de E w a st) (hb:Below w.heap.size w w'):de E w' a st∧ic E w E w':=by
 refine⟨⟨fun ad y hy=>?_,fun k v g e c h=>rm (hs.lt _ _ _ _ _ h) hb.size,fun k B hk=>?_,hs.top,hs.dZ,hs.apart,hs.fr⟩, ⟨E.le_refl,fun k v g e c h=>.inl ⟨k,v,e,c,h⟩,fun _ _ h=>.inl h,hb.os,hb.tape,hb.output,hb.size,fun b bL _=>hb.block b bL⟩⟩;·rw [hb.cell (World.block_lt_of_cell? w ad (hs.F ad y hy))];exact hs.F ad y hy
 exact (hs.mem k B hk).mono E.le_refl (fun _ h=>h) (fun g e c h=>hb.block _ (hs.lt _ _ _ _ _ h)) fun _ _ _ _ _ h=>h
end Go.Eng
end
section
namespace Go.Eng
variable [bB]
section
variable {k_:Tk} {m:Bool} {P:Program} {tt:Table} {ρ:Option Nat} {n0:Nat} {st:St} {Q:Exit→St→Prop} {n:Nat} {ws nX:List (Nat×V)} {mem j6:List bx}
theorem Ho (ht:TT P tt) {ρ:Option Nat} {n:Nat} {all:Array Oper} {Z:St→Prop} {Q':Exit→Act→World→Prop} (post:List Oper):∀ (l1 pre:List Oper),all.toList=pre++(l1++post) →
  ∀ {E:Env} {w:World} {a:Act} {st:St},de E w a st→fa P tt all l1 st Z→(∀ a' w',a'.defers=a.defers→(∃ E' st',de E' w' a' st'∧ic E w E' w'∧Z st')→wpOpsIn (WF ρ) n P all Q' (List.range' (pre.length+l1.length) post.length) a' w')→wpOpsIn (WF ρ) n P all Q' (List.range' pre.length (l1.length+post.length)) a w:=by intro l1;induction l1 with|nil =>intro pre _ E w a st hs h hq;have:=hq _ _ rfl ⟨E,st,hs,ic.refl E w,h⟩;simpa using this|cons o r ih =>intro pre dN E w a st hs h hq;(have kX:all[pre.length]?=some o:=by rw [← dQ,dN,a8 (aB _)];simp);(have Pn:all.toList=(pre++[o])++(r++post):=by rw [dN];simp);have Yj:=@ih (pre++[o]) Pn;simp only [ab,af,ai,cr] at Yj;(have e1:(o :: r).length+post.length=r.length+post.length+1:=by simp only [af];omega);(have e2:pre.length+(o :: r).length=pre.length+1+r.length:=by simp only [af];omega);rw [e2] at hq;rw [e1,aro,wpOpsIn,kX];dsimp only;simp only [fa] at h;split at h;(·rename_i hw;rw [if_pos (iO hs hw)];refine gN ht hs (.inr rfl) h ?_;rintro v w' ⟨E',st',h1,h2,h3⟩;exact Yj h1 h3 fun a'' w'' hd ⟨Ch,I9,h4,h5,h6⟩=>hq _ _ (hd.trans (put_defers _ _ _)) ⟨Ch,I9,h4,h2.trans h5,h6⟩);(·rename_i hw;rw [if_neg (by rw [iO hs hw];simp)];exact⟨fun _ _=>trivial,Yj (hs.put o.dst (.sc _ _)) h fun a'' w'' hd h=>hq _ _ (hd.trans (put_defers _ _ _)) h⟩);exact h.elim
inductive JT (P:Program) (tt:Table) (all:Array Oper):List Oper→St→(St→Prop)→Prop
 | fin {l:List Oper} {st:St} {Q:St→Prop} (h:fa P tt all l st Q):JT P tt all l st Q
 | cut {l1 l2:List Oper} {st:St} {Q Z Z':St→Prop} (h1:fa P tt all l1 st Z) (h2:∀ s,Z s→∃ s',Z' s'∧∀ E w a,de E w a s→de E w a s') (h3:∀ s',Z' s'→JT P tt all l2 s' Q):JT P tt all (l1++l2) st Q
theorem JU (ht:TT P tt) {ρ:Option Nat} {n:Nat} {all:Array Oper} {Q':Exit→Act→World→Prop} {TY:List Oper} {st:St} {Q:St→Prop} (h:JT P tt all TY st Q):∀ (pre:List Oper),all.toList=pre++TY →
  ∀ {E:Env} {w:World} {a:Act},de E w a st→(∀ a' w',a'.defers=a.defers→(∃ E' st',de E' w' a' st'∧ic E w E' w'∧Q st')→Q' .normal a' w')→wpOpsIn (WF ρ) n P all Q' (List.range' pre.length TY.length) a w:=by induction h with|fin h=>intro pre dN E w a hs hq;exact vL ht _ pre dN hs h hq|@cut l1 l2 st Q Z Z' h1 h2 h3 ih =>intro pre dN E w a hs hq;rw [ab];refine Ho ht l2 l1 pre dN hs h1 fun a' w' hd ⟨E',s,pO,he,hz⟩=>?_;obtain⟨s',hz',hw⟩:=h2 s hz;have:=ih s' hz' (pre++l1) (by rw [dN,aA]) (hw _ _ _ pO) fun a'' w'' hd' ⟨Ch,I9,h4,h5,h6⟩=>hq _ _ (hd'.trans hd) ⟨Ch,I9,h4,he.trans h5,h6⟩;rw [ab] at this;exact this
inductive EY (m:Bool) (P:Program) (tt:Table) (all:List Oper):List Oper→St→(St→Prop)→Prop
 | fin {l:List Oper} {st:St} {Q:St→Prop} (h:sF m P tt all l st Q):EY m P tt all l st Q
 | cut {l1 l2:List Oper} {st:St} {Q Z Z':St→Prop} (h1:sF m P tt all l1 st Z) (h2:∀ s,Z s→∃ s',Z' s'∧∀ E w a,de E w a s→de E w a s') (h3:∀ s',Z' s'→EY m P tt all l2 s' Q):EY m P tt all (l1++l2) st Q
theorem Zw {all:Array Oper} {l:List Oper} {st:St} {Q:St→Prop} (h:EY true P tt all.toList l st Q):JT P tt all l st Q:=by induction h with|fin h=>exact .fin (qW _ _ h)|cut h1 h2 _ ih=>exact .cut (qW _ _ h1) h2 ih
theorem Zx {all:Array Oper} {l:List Oper} {st:St} {Q:St→Prop} (h:EY false P tt all.toList l st Q):∃ s,Q s∧∀ K:St→Prop,K s→JT P tt all l st K:=by induction h with|fin h =>obtain⟨s,h1,h2⟩:=qW _ _ h;exact⟨s,h1,fun K hK=>.fin (h2 K hK)⟩|cut h1 h2 _ ih =>obtain⟨s,hz,h4⟩:=qW _ _ h1;obtain⟨s',hz',hw⟩:=h2 s hz;obtain⟨s2,hq,h5⟩:=ih s' hz';exact⟨s2,hq,fun K hK=>.cut (Z:=(· = s)) (Z':=(· = s')) (h4 _ rfl) (fun _ e=>⟨s',rfl,by subst e;exact hw⟩) fun _ e=>by subst e;exact h5 K hK⟩
theorem yH (ht:TT P tt) {id:Nat} {ops:Array Oper} (h:JT P tt ops ops.toList st (Q .normal)):ek P ρ n0 (.region id ops false) st Q:=fun E0 w0 h0 E w a he hs hm=>by refine wpIn_region ?_;have:=JU ht (ρ:=ρ) (n:=0) (Q':=Po E0 w0 Q) h [] (by simp) hs (fun a' w' hd ⟨E',st',h1,h2,h3⟩=>⟨E',st',h1,he.trans h2,by rw [hd];exact hm.La h2,h3⟩);rw [arp];simpa using this
theorem ad0 (ht:TT P tt) {id:Nat} {ops:Array Oper} (h:EY m P tt ops.toList ops.toList st (Q .normal)):X k_ m P ρ n0 (.region id ops false) st Q:=by cases m with|true=>exact yH ht (Zw h)|false =>obtain⟨s,h1,h2⟩:=Zx h;exact⟨.normal,s,h1,fun Q' h'=>yH ht (h2 _ h')⟩
theorem WY (j:Nat) (ts ks:List Nat) (Inv:List V→Prop) {all l:List Oper} {Q:St→Prop}
  (h1:∀ K:St→Prop,(∀ s,(∃ vs,Inv vs∧∃ EW,s=⟨W n EW,j6⟩∧FY EW (zk ts vs (pk nX ks)))→K s)→sF m P tt all (l.take j) ⟨W n nX,j6⟩ K)
  (h2:∀ vs,Inv vs→EY m P tt all (l.drop j) ⟨W n (zk ts vs (pk nX ks)),j6⟩ Q):EY m P tt all l ⟨W n nX,j6⟩ Q:=by
 have:=EY.cut (Q:=Q) (Z':=fun s=>∃ vs,Inv vs∧s=⟨W n (zk ts vs (pk nX ks)),j6⟩) (h1 _ fun _ h=>h)
  (fun s hs=>by
   obtain⟨vs,hv,EW,rfl,ha⟩:=hs
   exact⟨_,⟨vs,hv,rfl⟩,fun E w a hs=>⟨hs.F,hs.lt,hs.mem,hs.top,hs.dZ,hs.apart,Lx ha hs.fr⟩⟩)
  (fun s hs=>by
   obtain⟨vs,hv,rfl⟩:=hs
   exact h2 vs hv)
 rw [kT] at this;exact this
theorem Hp {ts ks:List Nat} {Inv:List V→Prop} {EW:List (Nat×V)} {Hf:List bx} (h:FY EW (pk nX ks)∧Hf=j6) (hi:Inv (fY EW ts)) :
  ∃ vs,Inv vs∧∃ ws2,(⟨W n EW,Hf⟩:St)=⟨W n ws2,j6⟩∧FY ws2 (zk ts vs (pk nX ks)):=⟨_,hi,EW,by rw [h.2],A5 h.1⟩
end
end Go.Eng
end
section
namespace Go.Eng
variable [bB]
def Du:List (FuncId×List V×V)→FuncId→List V→Option V
 | [],_,_=>none
 | e :: t,f,vs=>if e.1=f then (if kh e.2.1 vs=true then some e.2.2 else Du t f vs) else Du t f vs
theorem bQ {P:Program}:rB P (Du []):=fun f vs r h=>by cases h
theorem jz {P:Program} {f:FuncId} {vs:List V} {r:V} {t:List (FuncId×List V×V)} (h:b8 P f vs r) (ht:rB P (Du t)):rB P (Du ((f,vs,r) :: t)):=fun g ws s hs=>by
 unfold Du at hs;dsimp only at hs;split at hs;·rename_i hf;split at hs;(·rename_i hv;cases hs;rw [← hf,← gU hv];exact h);exact ht g ws s hs
 exact ht g ws s hs
def A9:List (FuncId×List V×List bx×List (V×List bx))→l9
 | [],_,_,_=>none
 | e :: t,f,vs,mem=>if e.1=f then (if kh e.2.1 vs=true then (if sx e.2.2.1 mem=true then some e.2.2.2 else A9 t f vs mem) else A9 t f vs mem) else A9 t f vs mem
theorem ob {P:Program}:kP P (A9 []):=fun f vs mem outs h=>by cases h
theorem oA {P:Program} {f:FuncId} {vs:List V} {mem:List bx} {outs:List (V×List bx)} {t:List (FuncId×List V×List bx×List (V×List bx))} (h:jK P f vs mem fun r m=>(r,m)∈outs) (ht:kP P (A9 t)):kP P (A9 ((f,vs,mem,outs) :: t)):=fun g ws m o hs=>by
 unfold A9 at hs;dsimp only at hs;split at hs;·rename_i hf;split at hs;(·rename_i hv;split at hs;(·rename_i hm;cases hs;rw [← hf,← gU hv,← tl hm];exact h);exact ht g ws m o hs);exact ht g ws m o hs
 exact ht g ws m o hs
end Go.Eng
end
section
namespace Go.Eng
variable [bB]
section
variable {k_:Tk} {m:Bool} {P:Program} {ρ:Option Nat} {n0:Nat} {Q:Exit→St→Prop} {n:Nat} {ws:List (Nat×V)} {mem:List bx} {c:Code}
end
end Go.Eng
end
section
namespace Go.Eng
variable [bB]
theorem jK.Dn {P:Program} {f:FuncId} {vs:List V} {mem:List bx} {R R':V→List bx→Prop} (h:jK P f vs mem R)
  (step:∀ r m,R r m→∃ v' m2,R' v' (m2.take mem.length)∧aG mem.length v'=true∧(m2.take mem.length).all (aK mem.length)=true ∧
   ∀ (E:Env) (w:World) (x:Value),de E w { tmps := #[],defers:=[] } { fr:=[],mem:=m }→cY E r x→∃ E2,de E2 w { tmps := #[],defers:=[] } { fr:=[],mem:=m2 }∧ic E w E2 w∧cY E2 v' x):jK P f vs mem R':=by
 refine⟨h.1,fun E w xs hs hx=>(h.2 E w xs hs hx).mono ?_⟩;rintro e w' ⟨E',x,r,m,rfl,hR,gE,pO,kF⟩;obtain⟨v',m2,hR',hv,hm,st⟩:=step r m hR;obtain⟨E2,s2,ev2,YB⟩:=st E' w' x pO kF;have he:=gE.trans ev2;have hc:=s2.cut (n:=mem.length) rfl hm;refine⟨E2.cut mem.length,x,v',m2.take mem.length,rfl,hR',⟨⟨he.le.F,fun k v t hk=>?_⟩,fun k v g e c hk=>?_,he.F,he.os,he.tape,he.output,he.size,he.heap⟩,hc,iP YB hv⟩;·(have:k<mem.length:=by (rcases bz k mem.length with bL|gq);(·exact bL);rw [hs.top k gq v] at hk;cases hk);exact (if_pos this).trans (he.le.cC _ _ _ hk)
 have:E2.cC k v=some (g,e,c):=by by_cases iz:k<mem.length;(·exact ((if_pos iz).symm.trans hk:E2.cC k v=_));have h2:(E2.cut mem.length).cC k v=none:=if_neg iz;rw [h2] at hk;cases hk
 exact he.cC _ _ _ _ _ this
end Go.Eng
end
