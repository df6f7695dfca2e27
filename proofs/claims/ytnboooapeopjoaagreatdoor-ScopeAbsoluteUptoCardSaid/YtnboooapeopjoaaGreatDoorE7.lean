import Derived.Test.YtnboooapeopjoaaGreatDoorE6
open Array renaming getElem?_toList→fC
open Bool renaming and_eq_true→aL,and_self→oJ,and_true→aN,false_eq_true→cf,not_false→aT,not_true→aZ,true_and→aY
open Int renaming natCast_nonneg→kD,toNat_natCast→Cp
open List renaming all_cons→cZ,all_eq_true→a7,all_nil→dY,append_nil→jv,cons_append→au,drop_eq_nil_of_le→eI,drop_succ_cons→yS,drop_zero→xJ,ext_getElem?→dy,find?_eq_none→aqs,flatMap_cons→kV,flatMap_nil→apS,foldl_cons→aM,foldl_nil→ba,getD_eq_getElem?_getD→eZ,getElem?_append_left→bF,getElem?_append_right→aW,getElem?_cons_succ→dx,getElem?_cons_zero→dk,getElem?_drop→BU,getElem?_eq_getElem→ak,getElem?_eq_none→dQ,getElem?_eq_some_iff→az,getElem?_map→ae,getElem?_range→aqx,getElem?_set→bK,getElem?_set_ne→eY,getElem?_take_of_lt→jN,head?_cons→aqe,length_append→aQ,length_cons→ay,length_drop→gG,length_map→ab,length_nil→aI,length_set→pB,length_take→cd,map_cons→cR,map_nil→cP,mem_cons→cb,mem_cons_of_mem→bP,mem_cons_self→b9,mem_map→dv,mem_of_getElem?→aB,mem_or_eq_of_mem_set→ap4,mem_range→alf,nil_append→ax,set_cons_succ→bu,set_cons_zero→bh,take_length→ai,take_of_length_le→aX,take_succ_cons→gq,take_zero→e8
open Nat renaming add_sub_cancel_left→ez,add_zero→kC,le_refl→aw,lt_irrefl→apy,lt_of_lt_of_le→qL,lt_or_ge→bL,sub_self→cU,sub_zero→SP,zero_add→bE,zero_le→bn
open Option renaming bind_some→eL,map_eq_some_iff→bA,map_none→apx,map_some→cA
set_option linter.all false
section
namespace Go.Eng
variable [bg]
section
variable {P:Program} {tt:Table} {ρ:Option Nat} {n0:Nat} {st:St} {Q:Exit→St→Prop}
def Uj (P:Program) (f:FuncId) (vs:List V) (st:St) (dst:Option Tmp) (Q:St→Prop):Prop :=
 ∃ R,eB P f vs st.mem R∧∀ v m',R v m'→Q ({ st with mem:=m' }.put dst v)
def YG (P:Program) (f:FuncId) (vs:List V) (st:St) (dst:Option Tmp) (Q:St→Prop):Prop:=K3 P f vs st dst Q∨Uj P f vs st dst Q
def YH (P:Program) (tt:Table) (key:Nat) (o:Oper) (st:St) (Q:St→Prop):Prop :=
 match o.op with
 | .call c=>match c.callee with
  | .value f=>match dn (st.eval f) (c.args.toList.map st.eval) with
   | some (g,vs)=>YG P g vs st o.dst Q
   | none=>False
  | .builtin .append=>match c.args.toList.map st.eval with
   | [s,x]=>match ji tt st.mem c.argTypes.toList s x with
    | some (size,tW,rows)=>Q ({ st with mem:=(gE st.mem key size rows tW).1 }.put o.dst (gE st.mem key size rows tW).2)
    | none=>xV tt st c.argTypes.toList s x o.dst Q
   | _=>False
  | _=>lI P tt key o st Q
 | _=>lI P tt key o st Q
def Po (P:Program) (tt:Table) (gl:List (Nat×Nat)) (all:Array Oper):List Oper→St→(St→Prop)→Prop
 | [],st,Q=>Q st
 | o :: r,st,Q=>match sL gl all st.fr o with
  | some true=>YH P tt st.mem.length o st fun st'=>Po P tt gl all r st' Q
  | some false=>Po P tt gl all r (st.put o.dst (.sc undef)) Q
  | none=>False
theorem Jd {ts:List TypeId} {s x:V} {dst:Option Tmp} {A B:St→Prop} (h:xV tt st ts s x dst A) (wK:∀ s,A s→B s):xV tt st ts s x dst B:=by
 unfold xV at h ⊢;split at h;·exact fun o nj h1 h2=>wK _ (h o nj h1 h2)
 exact h
attribute [irreducible] Po

end
end Go.Eng
end

section
namespace Go.Eng
variable [bg]
inductive Tk where
 | a
 | b
def tk:Tk:=.b
theorem acH {α:Type} {a b:α} (h:a=b):a=b:=h
theorem lN {a b:Prop} (h:a=b):a=b:=h
def bq {α:Type} (_:Tk) (o:Option α) (K:α→Prop):Prop:=match o with
 | some v=>K v
 | none=>False
theorem YI {α:Type} {k:Tk} {o:Option α} {K:α→Prop}:bq k o K=match o with | some v=>K v | none=>False:=lN rfl
theorem lu {α:Type} {k:Tk} {o:Option α} {K:α→Prop}:bq k o K↔∃ v,o=some v∧K v:=by cases o with | none=>exact⟨fun h=>h.elim,fun ⟨_,h,_⟩=>by cases h⟩ | some v=>exact⟨fun h=>⟨v,rfl,h⟩,fun ⟨_,e,h⟩=>by cases e; exact h⟩
def nq {α:Type} (_:Tk) (o:Option α) (A:α→Prop) (B:Prop):Prop:=match o with
 | some v=>A v
 | none=>B
theorem YJ {α:Type} {k:Tk} {o:Option α} {A:α→Prop} {B:Prop}:nq k o A B=match o with | some v=>A v | none=>B:=lN rfl
theorem vo {α:Type} {k:Tk} {v:α} {A:α→Prop} {B:Prop}:nq k (some v) A B=A v:=rfl
theorem vp {α:Type} {k:Tk} {A:α→Prop} {B:Prop}:nq k none A B=B:=rfl
section
variable {m:Bool} {P:Program} {tt:Table} {st:St} {Q:St→Prop}
def vq (_:Tk) (m:Bool) (P:Program) (f:FuncId) (vs:List V) (o:Option (List V)) (keys:List (Nat×Nat)) (st:St) (dst:Option Tmp) (Q:St→Prop):Prop :=
 (∃ vs' r,o=some vs'∧bR P f vs' r∧Q ({ st with mem:=bT st.mem keys r }.put dst r)) ∨
 (∃ r bV,bz P f vs st.mem r bV∧Q ({ st with mem:=bV }.put dst r)) ∨
 (m=true∧∃ R,eB P f vs st.mem R∧∀ r bV,R r bV→Q ({ st with mem:=bV }.put dst r)) ∨
 (∃ r,rC P f vs r∧Q (st.put dst r))
def acI (_:Tk) (m:Bool) (P:Program) (k:Nat) (vs:List V) (st:St) (dst:Option Tmp) (Q:St→Prop):Prop :=
 (∃ b bV,Ie P k vs st.mem b bV∧Q ({ st with mem:=bV }.put dst (.sc (.bool b)))) ∨
 (m=true∧∃ R,Mc P k vs st.mem R∧∀ b bV,R b bV→Q ({ st with mem:=bV }.put dst (.sc (.bool b))))
def apV (_:Tk) (m:Bool) (r:Option (Nat×Nat×Nat×Nat×List V×List V)) (st:St) (dst:Option Tmp) (Q:St→Prop):Prop:=m=true∧match r with
 | some (size,b,v,l,rs,xs)=>∀ (o:Nat) (nj:List V),nj.drop o=rs++xs→o+(l+xs.length)=nj.length→Q ({ st with mem:=st.mem.set b (.rows (v+1) size nj) }.put dst (.ms b (v+1) o (l+xs.length)))
 | none=>False
def nxV (_:Tk) (m:Bool) (st:St) (dst:Option Tmp) (it:V) (str:Bool) (Q:St→Prop):Prop:=m=true∧u0 st dst it str Q
def niV (_:Tk) (m:Bool) (n:Nat) (op:BinOp) (st:St) (dst:Option Tmp) (Q:St→Prop):Prop :=
 m=true∧∀ b:Bool,(n≠0→b=false)→Q (st.put dst (.sc (.bool (ql op b))))
def Uk (tt:Table) (T:TypeId) (len:Nat) (parts:List (Nat×Operand)) (st:St) (key:Nat):Option (List bm) :=
 match wV tt T len parts st.eval with
 | some (size,rs)=>some (dB st.mem key (.rows 0 size rs))
 | none=>match Tw tt T len parts st with
  | some (size,rs)=>some (dB (ck st.mem (DR st.eval parts)) key (.rows 0 size rs))
  | none=>none
def Ec (tt:Table) (mem:List bm) (T:TypeId) (p x:V):Option (List bm) :=
 match nB tt mem T p x with
 | some m=>some m
 | none=>DS tt mem T p x
def oo (m:Bool) (P:Program) (tt:Table) (key:Nat) (o:Oper) (st:St) (Q:St→Prop):Prop :=
 match o.op with
 | .alloc T=>bq tk (tt T) fun i=>Q ({ st with mem:=dB st.mem key (.box (i.zero.map V.sc)) }.put o.dst (.ptr key 0))
 | .box _ x=>bq tk (lW (st.eval x)) fun cs=>Q ({ st with mem:=dB st.mem key (.box cs) }.put o.dst (.ptr key 0))
 | .build T parts=>bq tk (nC P tt T parts.toList st.eval) fun v=>Q (st.put o.dst v)
 | .buildSlice T len parts=>bq tk (Uk tt T len parts.toList st key) fun mem=>Q ({ st with mem:=mem }.put o.dst (.ms key 0 0 len))
 | .store T p x=>bq tk (Ec tt st.mem T (st.eval p) (st.eval x)) fun mem=>Q ({ st with mem:=mem }.put o.dst (.sc undef))
 | .call { callee:=.builtin .append,args:=xs,argTypes:=ts }=>match xs.toList.map st.eval with
  | [s,x]=>nq tk (ji tt st.mem ts.toList s x) (fun p=>Q ({ st with mem:=(gE st.mem key p.1 p.2.2 p.2.1).1 }.put o.dst (gE st.mem key p.1 p.2.2 p.2.1).2)) (apV tk m (oU tt st.mem ts.toList s x) st o.dst Q)
  | _=>False
 | .call { callee:=.value f,args:=xs,.. }=>match st.eval f with
  | .ke k=>acI tk m P k (xs.toList.map st.eval) st o.dst Q
  | fv=>bq tk (dn fv (xs.toList.map st.eval)) fun p=>vq tk m P p.1 p.2 (gx st.mem p.2) (p.2.flatMap fb) st o.dst Q
 | .makeSlice T l c=>bq tk (xT tt T (st.eval l) (st.eval c)) fun p=>Q ({ st with mem:=dB st.mem key (.rows 0 p.1 p.2.1) }.put o.dst (.ms key 0 0 p.2.1.length))
 | .makeMap _ none=>Q ({ st with mem:=dB st.mem key (.map [] 0) }.put o.dst (.mp key))
 | .mapUpdate T d k x=>bq tk (dR P st.mem T (st.eval d) (st.eval k) (st.eval x)) fun mem=>Q ({ st with mem:=mem }.put o.dst (.sc undef))
 | .insert T d k x=>bq tk (dR P st.mem T (st.eval d) (st.eval k) (st.eval x)) fun mem=>Q ({ st with mem:=mem }.put o.dst (.sc undef))
 | .mapEntry T d k=>bq tk (wW P st.mem T (st.eval d) (st.eval k)) fun p=>Q ({ st with mem:=p.1 }.put o.dst p.2)
 | .entryStore _ d s x=>bq tk (wX st.mem (st.eval d) (st.eval s) (st.eval x)) fun mem=>Q ({ st with mem:=mem }.put o.dst (.sc undef))
 | .call { callee:=.builtin .delete,args:=xs,argTypes:=ts }=>bq tk (sC P st.mem ts (xs.toList.map st.eval)) fun mem=>Q ({ st with mem:=mem }.put o.dst (.sc (.tuple #[])))
 | .range T x=>bq tk (pK P st.mem T (st.eval x)) fun B=>Q ({ st with mem:=dB st.mem key B }.put o.dst (.ptr key 0))
 | .next it str=>nxV tk m st o.dst (st.eval it) str Q
 | .binOp op T x y _=>nq tk (pd tt op T (st.eval x) (st.eval y)) (fun n=>niV tk m n op st o.dst Q) (bq tk (me P tt st o) fun v=>Q (st.put o.dst v))
 | _=>bq tk (me P tt st o) fun v=>Q (st.put o.dst v)
theorem sP {α:Type} {k:Tk} {o:Option α} {A B:α→Prop} (h:bq k o A) (wK:∀ v,A v→B v):bq k o B:=by cases o with | none=>exact h | some v=>exact wK v h
theorem Je {dst:Option Tmp} {it:V} {str:Bool} {A B:St→Prop} (h:u0 st dst it str A) (wK:∀ s,A s→B s):u0 st dst it str B:=by
 unfold u0 at h ⊢;split at h;·split at h;(·split at h;(·exact⟨h.1,h.2.1,fun e=>wK _ (h.2.2.1 e),fun e he=>wK _ (h.2.2.2 e he)⟩);exact h);(·refine⟨h.1,?_⟩;have:=h.2;split at this;(·rename_i hp; rw [if_pos hp]; exact wK _ this);rename_i hp; rw [if_neg hp]; exact wK _ this);(·exact⟨h.1,wK _ h.2⟩);exact h
 exact h
theorem Jf {key:Nat} {o:Oper} {A B:St→Prop} (h:oo m P tt key o st A) (wK:∀ s,A s→B s):oo m P tt key o st B:=by
 have app:∀ {ts:List TypeId} {s x:V},nq tk (ji tt st.mem ts s x) (fun p=>A ({ st with mem:=(gE st.mem key p.1 p.2.2 p.2.1).1 }.put o.dst (gE st.mem key p.1 p.2.2 p.2.1).2)) (apV tk m (oU tt st.mem ts s x) st o.dst A) →
   nq tk (ji tt st.mem ts s x) (fun p=>B ({ st with mem:=(gE st.mem key p.1 p.2.2 p.2.1).1 }.put o.dst (gE st.mem key p.1 p.2.2 p.2.1).2)) (apV tk m (oU tt st.mem ts s x) st o.dst B):=fun {ts s x} h=>by
  cases ha:ji tt st.mem ts s x with
  | some p=>rw [ha,vo] at h; exact wK _ h
  | none=>rw [ha,vp] at h; exact⟨h.1,Jd (show xV tt st ts s x o.dst A from h.2) wK⟩
 have cv:∀ {f:FuncId} {vs:List V} {p:Option (List V)} {keys:List (Nat×Nat)},vq tk m P f vs p keys st o.dst A→vq tk m P f vs p keys st o.dst B:=fun h=>by (rcases h with ⟨vs',r,h1,h2,h3⟩ | ⟨r,m',h1,h2⟩ | ⟨hm,R,h1,h2⟩ | ⟨r,h1,h2⟩);(·exact .inl ⟨vs',r,h1,h2,wK _ h3⟩);(·exact .inr (.inl ⟨r,m',h1,wK _ h2⟩));(·exact .inr (.inr (.inl ⟨hm,R,h1,fun r m' h=>wK _ (h2 r m' h)⟩)));exact .inr (.inr (.inr ⟨r,h1,wK _ h2⟩))
 obtain⟨dst,op,type,pos,after,guard⟩:=o;cases op
 case call c =>
  obtain⟨callee,args,ats⟩:=c
  cases callee
  case value f =>
   simp only [oo] at h ⊢
   split at h
   ·rcases h with ⟨b,m',h1,h2⟩ | ⟨hm,R,h1,h2⟩
    ·exact .inl ⟨b,m',h1,wK _ h2⟩
    exact .inr ⟨hm,R,h1,fun b m' h=>wK _ (h2 b m' h)⟩
   exact sP h fun v hv=>cv hv
  case builtin b =>
   cases b
   case append =>
    simp only [oo] at h ⊢
    split at h
    ·exact app h
    exact h
   all_goals (simp only [oo] at h ⊢; exact sP h fun v hv=>wK _ hv)
  all_goals (simp only [oo] at h ⊢; exact sP h fun v hv=>wK _ hv)
 case makeMap T l =>
  cases l with
  | none=>exact wK _ h
  | some l=>simp only [oo] at h ⊢; exact sP h fun v hv=>wK _ hv
 case next it str=>exact⟨h.1,Je h.2 wK⟩
 case binOp op T x y yt =>
  simp only [oo] at h ⊢
  cases hn:pd tt op T (st.eval x) (st.eval y) with
  | some n =>
   rw [hn,vo] at h
   exact⟨h.1,fun b hb=>wK _ (h.2 b hb)⟩
  | none=>rw [hn,vp] at h; exact sP h fun v hv=>wK _ hv
 all_goals (simp only [oo] at h ⊢; exact sP h fun v hv=>wK _ hv)
def WS (m:Bool) (P:Program) (tt:Table) (key:Nat) (o:Oper) (st:St) (Q:St→Prop):Prop:=match m with
 | true=>de P tt key o st Q
 | false=>∃ s,Q s∧∀ K:St→Prop,K s→de P tt key o st K
theorem kJ {key:Nat} {o:Oper} (s:St) (h:Q s) (hk:∀ K:St→Prop,K s→de P tt key o st K):WS m P tt key o st Q:=by
 cases m;·exact⟨s,h,hk⟩
 exact hk Q h
theorem Pp {f:FuncId} {vs:List V} {dst:Option Tmp} {k:Tk} (h:vq k m P f vs (gx st.mem vs) (vs.flatMap fb) st dst Q):(m=true∧xU P f vs st dst Q)∨∃ s,Q s∧∀ K:St→Prop,K s→xU P f vs st dst K:=by
 rcases h with ⟨vs',r,h1,h2,h3⟩ | ⟨r,m',h1,h2⟩ | ⟨hm,R,h1,h2⟩ | ⟨r,h1,h2⟩
 ·exact .inr ⟨_,h3,fun K hK=>.inl ⟨vs',r,h1,h2,hK⟩⟩
 ·exact .inr ⟨_,h2,fun K hK=>.inr (.inl ⟨r,m',h1,hK⟩)⟩
 ·exact .inl ⟨hm,.inr (.inr (.inl ⟨R,h1,h2⟩))⟩
 exact .inr ⟨_,h2,fun K hK=>.inr (.inr (.inr ⟨r,h1,hK⟩))⟩
theorem Pq {key:Nat} {o:Oper} (h:oo m P tt key o st Q):WS m P tt key o st Q:=by
 unfold oo at h;split at h;all_goals try (rename_i mv; simp only [lu] at h; obtain⟨v,h1,h2⟩:=h; refine kJ _ h2 fun K hK=>?_; unfold de; rw [mv]; dsimp only; rw [h1]; exact hK)
 ·rename_i mv;simp only [lu] at h;obtain⟨mem,h1,h2⟩:=h;refine kJ _ h2 fun K hK=>?_;unfold de; rw [mv]; dsimp only;unfold Uk at h1;split at h1;(·rename_i hl; cases h1; rw [hl]; exact hK);rename_i hl;rw [hl];split at h1;(·rename_i hl; cases h1; dsimp only; rw [hl]; exact hK);cases h1
 ·rename_i mv;simp only [lu] at h;obtain⟨mem,h1,h2⟩:=h;refine kJ _ h2 fun K hK=>?_;unfold de; rw [mv]; dsimp only;unfold Ec at h1;split at h1;(·rename_i hl; cases h1; rw [hl]; exact hK);rename_i hl; rw [hl]; dsimp only; rw [h1]; exact hK
 ·rename_i mv;split at h;(·rename_i s x Tz;cases ha:ji tt st.mem _ s x with | some p =>rw [ha,vo] at h;refine kJ _ h fun K hK=>?_;unfold de; rw [mv]; dsimp only; rw [Tz]; dsimp only; rw [ha]; exact hK | none =>rw [ha,vp] at h;obtain⟨rfl,h⟩:=h;show de P tt key o st Q;unfold de; rw [mv]; dsimp only; rw [Tz]; dsimp only; rw [ha]; exact h);exact h.elim
 ·rename_i mv;split at h;(·rename_i k hk;(rcases h with ⟨b,m',h1,h2⟩ | ⟨rfl,R,h1,h2⟩);(·refine kJ _ h2 fun K hK=>?_;unfold de; rw [mv]; dsimp only; rw [hk]; exact .inl ⟨b,m',h1,hK⟩);show de P tt key o st Q;unfold de; rw [mv]; dsimp only; rw [hk]; exact .inr ⟨R,h1,h2⟩);rename_i hk;simp only [lu] at h;obtain⟨⟨g,vs⟩,h1,h2⟩:=h;(have acJ:∀ K:St→Prop,xU P g vs st o.dst K→de P tt key o st K:=fun K hK=>by unfold de; rw [mv]; dsimp only;split;(·rename_i k hy; exact (hk k hy).elim);rw [h1]; exact hK);(rcases Pp h2 with ⟨rfl,h3⟩ | ⟨s,h3,h4⟩);(·exact acJ Q h3);exact kJ s h3 fun K hK=>acJ K (h4 K hK)
 ·rename_i mv;exact kJ _ h fun K hK=>by unfold de; rw [mv]; exact hK
 ·rename_i mv;obtain⟨rfl,h⟩:=h;show de P tt key o st Q;unfold de; rw [mv]; exact h
 ·rename_i op T x y yt mv;cases hn:pd tt op T (st.eval x) (st.eval y) with | some n =>rw [hn,vo] at h;obtain⟨rfl,h⟩:=h;show de P tt key o st Q;unfold de; rw [mv]; dsimp only; rw [hn]; exact h | none =>rw [hn,vp,lu] at h;obtain⟨v,h1,h2⟩:=h;exact kJ _ h2 fun K hK=>by unfold de; rw [mv]; dsimp only; rw [hn]; dsimp only; rw [h1]; exact hK
 rw [lu] at h;obtain⟨v,h1,h2⟩:=h;refine kJ _ h2 fun K hK=>?_;unfold de;split
 all_goals first
  | (rw [h1]; exact hK)
  | (exfalso; solve_by_elim)
end
end Go.Eng
end

section
namespace Go.Eng
variable [bg]
section
variable {P:Program} {ρ:Option Nat} {n0:Nat} {c:Code} {st:St} {Q:Exit→St→Prop}
theorem K4 {v v':V} (t:Nat) (h0:st.fr[t]?=some v) (hp:gP st.mem v=some v') (h:eg P ρ n0 c { fr:=st.fr.set t v',mem:=ck st.mem (fb v) } Q):eg P ρ n0 c st Q:=fun E0 w0 Pr E w a he hs CC=>by
 obtain⟨E',h1,h2,h3⟩:=hs.freeze (vs:=[v]) (vs':=[v']) (by simp only [gx,hp]);obtain⟨x,hx,hr⟩:=hs.fr.get h0;have Fc:=(h3 [x] (cY.cons hr (.nil _))).2 0 v' x rfl rfl;have e1:[v].flatMap fb=fb v:=by simp
 rw [e1] at h1;have e2:a.tmps.toList.set t x=a.tmps.toList:=by apply dy;intro i;rw [bK];split;(·rename_i hi; subst hi;rw [if_pos (az.1 hx).1,hx]);rfl
 have h4:cY E' (st.fr.set t v') a.tmps.toList:=by have:=(cY.set (n:=t) h1.fr Fc);rwa [e2] at this
 exact h E0 w0 Pr E' w a (he.trans h2) ⟨h1.F,h1.lt,h1.mem,h1.top,h1.dV,h1.apart,h4⟩ (CC.Mf h2)
theorem Ap {v v':V} (t:Nat) (h0:st.fr[t]?=some v) (hp:gP st.mem v=some v') (h:Ex P ρ n0 c { fr:=st.fr.set t v',mem:=ck st.mem (fb v) } Q):Ex P ρ n0 c st Q:=by obtain⟨e,s2,hq,h2⟩:=h;exact⟨e,s2,hq,fun Q' h'=>K4 t h0 hp (h2 Q' h')⟩
theorem Mz {k:Nat} {cs:List V} (t:Nat) (h0:st.fr[t]?=some (.ptr k 0)) (hk:st.mem[k]?=some (.box cs)) (hp:cs.all iH=true) (h:Ex P ρ n0 c { fr:=st.fr.set t (.fa cs),mem:=st.mem.set k .dead } Q):Ex P ρ n0 c st Q:=by obtain⟨e,s2,hq,h2⟩:=h;refine⟨e,s2,hq,fun Q' h' E0 w0 Pr E w a he hs CC=>?_⟩;obtain⟨E',h3,h4⟩:=hs.ue hk hp h0;exact h2 Q' h' E0 w0 Pr E' w a (he.trans h4) h3 (CC.Mf h4)
theorem dr.YK {E:Env} {w:World} {a:Act} (hs:dr E w a st) {k j:Nat} {cs:List V} (hk:st.mem[k]?=some (.box cs)) (hj:cs[j]?=some (.sc (.slice none 0 0))) (b v:Nat):dr E w a { st with mem:=st.mem.set k (.box (cs.set j (.ms b v 0 0))) }:=by
 have ca:=(az.1 hk).1;refine⟨hs.F,hs.lt,fun k' B hB=>?_,fun k' iQ=>hs.top k' (by simpa using iQ),fun k' B hB v hv=>?_,hs.apart,hs.fr⟩;·rw [bK] at hB;split at hB;(·rename_i he; subst he;cases hB;obtain⟨g,T,xs,hb,hh,hr,hf⟩:=hs.mem k _ hk;refine⟨g,T,xs,hb,hh,?_,hf⟩;obtain⟨x,hx,hrx⟩:=hr.get hj;have hxv:=gN hrx;subst hxv;have:=cY.set (n:=j) hr (dh.jl E b v 0);rwa [oj hx] at this);exact hs.mem k' B hB
 rw [bK] at hB;split at hB;·rename_i he; subst he;cases hB;exact hs.dV k _ hk v hv
 exact hs.dV k' B hB v hv
end
end Go.Eng
end

section
namespace Go.Eng
variable [bg]
def lk (t:Nat):List (Nat×V)→V
 | []=>.undef
 | p :: ws=>if p.1=t then p.2 else lk t ws
def W (n:Nat) (ws:List (Nat×V)):List V:=(List.range n).map fun i=>lk i ws
theorem vr (n:Nat) (ws:List (Nat×V)) (t:Nat):(W n ws)[t]?=if t<n then some (lk t ws) else none:=by
 unfold W;rw [ae];by_cases h:t<n;·rw [if_pos h,aqx h]; rfl
 rw [if_neg h,dQ (by simp; omega)]; rfl
theorem YL (n:Nat) (ws:List (Nat×V)) (t:Nat):(W n ws).getD t .undef=if t<n then lk t ws else .undef:=by rw [eZ,vr]; split <;> rfl
theorem rT (n:Nat) (ws:List (Nat×V)):(W n ws).length=n:=by simp [W]
theorem K5 (n:Nat) (ws:List (Nat×V)) (d:Nat) (v:V):(W n ws).set d v=W n ((d,v) :: ws):=by
 apply dy;intro i;rw [bK,vr,vr,rT];simp only [lk];by_cases h:d=i;·subst h; simp
 simp [h]
def vt (pW:List (Nat×V)):List (Nat×V)→Prop
 | []=>True
 | p :: r=>lk p.1 pW=p.2∧vt pW r
theorem K6 {pW:List (Nat×V)}:∀ {ws:List (Nat×V)},vt pW ws→∀ i,lk i ws = .undef∨lk i ws=lk i pW
 | [],_,i=>.inl rfl
 | p :: r,h,i=>by
  simp only [lk]
  by_cases e:p.1=i
  ·subst e; rw [if_pos rfl]; exact .inr h.1.symm
  rw [if_neg e]; exact K6 h.2 i
theorem Ul {E:Env} {n:Nat} {pW ws:List (Nat×V)} (h:vt pW ws) {xs:List Value} (hr:cY E (W n pW) xs):cY E (W n ws) xs:=by
 refine⟨by rw [← hr.1,rT,rT],fun i v x hv hx=>?_⟩;rw [vr] at hv;split at hv;·rename_i hi;cases hv;(rcases K6 h i with e | e);(·rw [e]; exact .undef _ _);rw [e]; exact hr.2 i _ x (by rw [vr,if_pos hi]) hx
 cases hv
def Ps (k:Nat) (ws:List (Nat×V)):Bool:=ws.all fun p=>aA k p.2
theorem acK {k n:Nat} {ws:List (Nat×V)} (h:Ps k ws=true):(W n ws).all (aA k)=true:=by rw [a7];intro v hv;unfold W at hv;obtain⟨i,-,rfl⟩:=dv.1 hv;clear hv;induction ws with | nil=>rfl | cons p r ih =>unfold Ps at h ih;rw [cZ,aL] at h;simp only [lk];split;(·exact h.1);exact ih h.2

def X (_:Tk) (m:Bool) (P:Program) (ρ:Option Nat) (n0:Nat) (c:Code) (st:St) (Q:Exit→St→Prop):Prop:=match m with
 | true=>eg P ρ n0 c st Q
 | false=>Ex P ρ n0 c st Q
section
variable {k_:Tk} {m:Bool} {P:Program} {tt:Table} {sp:List Nat} {ρ:Option Nat} {n0:Nat} {st:St} {Q:Exit→St→Prop} {n:Nat} {ws pW:List (Nat×V)} {mem mm:List bm}
theorem X.mono {c:Code} {Q2:Exit→St→Prop} (h:X k_ m P ρ n0 c st Q) (hq:∀ e s,Q e s→Q2 e s):X k_ m P ρ n0 c st Q2:=by
 cases m;·exact Ex.mono h hq
 exact eg.mono h hq
theorem Aq {x y:Code} (h:X k_ m P ρ n0 x st (il (fun st'=>X k_ m P ρ n0 y st' Q) Q)):X k_ m P ρ n0 (.seq x y) st Q:=by
 cases m;·exact fc h
 exact bC h
theorem Um {id:Nat} {c:Code} (h:X k_ m P ρ n0 c st (kg id Q)):X k_ m P ρ n0 (.block id c) st Q:=by
 cases m;·exact eN h
 exact bX h
theorem Ed {c:Code} {st':St} (hw:∀ E w a,dr E w a st→dr E w a st') (h:X k_ m P ρ n0 c st' Q):X k_ m P ρ n0 c st Q:=by
 cases m;·obtain⟨e,s,hq,h⟩:=h;exact⟨e,s,hq,fun Q' h'=>rH hw (h Q' h')⟩
 exact rH hw h
theorem YM {c:Code} (k:Nat) (hn:n0≤k) (hf:st.fr.all (aA k)=true) (hm:(st.mem.take k).all (aJ k)=true) (h:X k_ m P ρ n0 c { st with mem:=st.mem.take k } Q):X k_ m P ρ n0 c st Q:=by
 cases m;·obtain⟨e,s,hq,h⟩:=h;exact⟨e,s,hq,fun Q' h'=>zZ k [] hn hf hm (h Q' h')⟩
 exact zZ k [] hn hf hm h
def xg (n0 k n:Nat) (ws:List (Nat×V)) (mem:List bm) (st:St):Prop :=
 ∃ pW mm,st=⟨W n pW,mm⟩∧n0≤k∧vt pW ws∧Ps k ws=true∧mem.all (aJ k)=true∧mm.take k=mem
theorem ea {k:Nat} (h0:n0≤k) (h1:vt pW ws∧Ps k ws=true∧mem.all (aJ k)=true∧mm.take k=mem):xg n0 k n ws mem ⟨W n pW,mm⟩:=⟨pW,mm,rfl,h0,h1⟩
theorem Jg {c:Code} {k:Nat} (hl:xg n0 k n ws mem st) (h:X k_ m P ρ n0 c ⟨W n ws,mem⟩ Q):X k_ m P ρ n0 c st Q:=by obtain⟨pW,mm,rfl,h0,h1,h2,h3,h4⟩:=hl;subst h4;exact Ed (st':=⟨W n ws,mm⟩) (fun E w a hs=>⟨hs.F,hs.lt,hs.mem,hs.top,hs.dV,hs.apart,Ul h1 hs.fr⟩) (YM k h0 (acK h2) h3 h)

def gate (_:Tk) (b:Bool) (d:Nat) (st:St) (f:Bool→St→Prop):Prop:=∀ b',b=b'→f b' { st with fr:=st.fr.set d (.sc (.bool b')) }
theorem YN {d:Nat} {f:Bool→St→Prop}:gate k_ true d st f=f true { st with fr:=st.fr.set d (.sc (.bool true)) }:=propext ⟨fun h=>h _ rfl,fun h b' e=>by subst e; exact h⟩
theorem YO {d:Nat} {f:Bool→St→Prop}:gate k_ false d st f=f false { st with fr:=st.fr.set d (.sc (.bool false)) }:=propext ⟨fun h=>h _ rfl,fun h b' e=>by subst e; exact h⟩
theorem bY {b:Bool} {d:Nat} {f:Bool→St→Prop} (h1:b=true→f true { st with fr:=st.fr.set d (.sc (.bool true)) }) (h2:b=false→f false { st with fr:=st.fr.set d (.sc (.bool false)) }):gate k_ b d st f:=by intro b' e;cases b' with | true=>exact h1 e | false=>exact h2 e
theorem K7 {b:Bool} {d:Nat} {f:Bool→St→Prop} (hd:st.fr[d]?=some (.sc (.bool b))∨st.fr.getD d .undef = .sc (.bool b)) (h:gate k_ b d st f):f b st:=by
 have:=h b rfl;have e:st.fr.set d (.sc (.bool b))=st.fr:=by (rcases hd with hd | hd);(·exact oj hd);rw [eZ] at hd;cases hg:st.fr[d]? with | none=>rw [hg] at hd; cases hd | some v=>rw [hg] at hd; cases hd; exact oj hg
 rw [e] at this;exact this
def Ee (_:Tk) (v:Option V) (d:Nat) (want:Bool) (st:St) (yes no:St→Prop):Prop:=match v with
 | some (.sc (.bool b))=>gate tk b d st fun b s=>match b==want with | true=>yes s | false=>no s
 | some (.sc _)=>no st
 | some _=>False
 | none=>no st
def yg:List Oper→Nat→Option Tmp
 | [],_=>none
 | o :: _,0=>o.dst
 | _ :: r,n+1=>yg r n
theorem Un {o:Oper} {r:List Oper}:yg (o :: r) 0=o.dst:=rfl
theorem K8 {o:Oper} {r:List Oper} {n:Nat}:yg (o :: r) (n+1)=yg r n:=rfl
theorem Gq:∀ (l:List Oper) (j:Nat),yg l j=(l[j]?).bind (·.dst)
 | [],j=>by simp [yg]
 | o :: r,0=>rfl
 | o :: r,j+1=>by rw [K8,Gq r j,dx]
def gd (all:List Oper) (o:Oper) (st:St) (yes no:St→Prop):Prop:=match o.guard with
 | none=>yes st
 | some (j,want)=>match yg all j with
  | none=>no st
  | some d=>Ee tk st.fr[d]? d want st yes no
theorem WT {all:Array Oper} {o:Oper} {yes no:St→Prop} (h:gd all.toList o st yes no):(gr all st.fr o=some true∧yes st)∨(gr all st.fr o=some false∧no st):=by
 unfold gd at h;unfold gr;split at h;·rename_i hg; rw [hg]; exact .inl ⟨rfl,h⟩
 rename_i j want hg;rw [hg];dsimp only;rw [Gq,fC] at h;cases hd:(all[j]?).bind (·.dst) with | none=>rw [hd] at h; exact .inr ⟨rfl,h⟩ | some d =>rw [hd] at h;dsimp only at h ⊢;unfold Ee at h;split at h;(·rename_i b hb;have h:=K7 (.inl hb) h;rw [hb];dsimp only;cases hc:b==want with | true=>rw [hc] at h; exact .inl ⟨rfl,h⟩ | false=>rw [hc] at h; exact .inr ⟨rfl,h⟩);(·rename_i x hx hb;rw [hb];cases x with | bool b=>exact absurd rfl (hx b) | _=>exact .inr ⟨rfl,h⟩);(·exact h.elim);rename_i hb; rw [hb]; exact .inr ⟨rfl,h⟩
def uj (m:Bool) (P:Program) (tt:Table) (all:List Oper):List Oper→St→(St→Prop)→Prop
 | [],st,Q=>Q st
 | o :: r,st,Q=>gd all o st (fun s=>oo m P tt s.mem.length o s fun s=>uj m P tt all r s Q) (fun s=>uj m P tt all r (s.put o.dst (.sc undef)) Q)
theorem YP {all:List Oper} {Q:St→Prop}:uj m P tt all [] ⟨W n ws,mem⟩ Q=Q ⟨W n ws,mem⟩:=lN rfl
theorem YQ {all:List Oper} {o:Oper} {r:List Oper} {Q:St→Prop}:uj m P tt all (o :: r) ⟨W n ws,mem⟩ Q=gd all o ⟨W n ws,mem⟩ (fun s=>oo m P tt s.mem.length o s fun s=>uj m P tt all r s Q) (fun s=>uj m P tt all r (s.put o.dst (.sc undef)) Q):=lN rfl
def acL (m:Bool) (P:Program) (tt:Table) (all:Array Oper) (l:List Oper) (st:St) (Q:St→Prop):Prop:=match m with
 | true=>gb P tt all l st Q
 | false=>∃ s,Q s∧∀ K:St→Prop,K s→gb P tt all l st K
theorem Ef {all:Array Oper} {Q:St→Prop}:∀ (l:List Oper) (st:St),uj m P tt all.toList l st Q→acL m P tt all l st Q
 | [],st,h=>by
  cases m with
  | true=>show gb P tt all [] st Q; rw [gb]; exact h
  | false=>exact⟨st,h,fun K hK=>by rw [gb]; exact hK⟩
 | o :: r,st,h=>by
  rw [uj] at h
  rcases WT h with ⟨hw,h⟩ | ⟨hw,h⟩
  ·have h:=Pq (Jf (B:=fun s=>acL m P tt all r s Q) h fun s hs=>Ef r s hs)
   cases m with
   | true =>
    show gb P tt all (o :: r) st Q
    rw [gb,hw]
    exact h
   | false =>
    obtain⟨s1,h1,h2⟩:=h
    obtain⟨s2,h3,h4⟩:=h1
    exact⟨s2,h3,fun K hK=>by rw [gb,hw]; exact h2 _ (h4 K hK)⟩
  have h:=Ef r _ h
  cases m with
  | true =>
   show gb P tt all (o :: r) st Q
   rw [gb,hw]; exact h
  | false =>
   obtain⟨s2,h3,h4⟩:=h
   exact⟨s2,h3,fun K hK=>by rw [gb,hw]; exact h4 K hK⟩
theorem vu (ht:TT P tt) {id:Nat} {ops:Array Oper} (h:uj m P tt ops.toList ops.toList st (Q .normal)):X k_ m P ρ n0 (.region id ops false) st Q:=by have h:=Ef _ _ h;cases m with | true=>exact mH ht h | false =>obtain⟨s,h1,h2⟩:=h;exact⟨.normal,s,h1,fun Q' h'=>mH ht (h2 _ h')⟩
def K9 (c:Operand) (st:St) (f:Bool→St→Prop):Prop:=match st.eval c with
 | .sc (.bool b)=>match c with
  | .tmp t=>gate tk b t st f
  | _=>f b st
 | _=>False
def oH (i:Nat):List Nat→Bool
 | []=>false
 | a :: r=>if a=i then true else oH i r
def ky:Code→Nat
 | .cond (.tmp t) _ _=>10000+t
 | .block i _=>20000+i
 | .seq _ _=>30000
 | .region i _ _=>i
 | _=>40000
def vc (m:Bool) (P:Program) (tt:Table) (sp:List Nat) (ρ:Option Nat) (n0:Nat):Code→St→(Exit→St→Prop)→Prop
 | .seq x y,st,Q=>match x with
  | .region id ops false=>match oH id sp with
   | false=>uj m P tt ops.toList ops.toList st fun s=>vc m P tt sp ρ n0 y s Q
   | true=>X tk m P ρ n0 (.seq (.region id ops false) y) st Q
  | .skip=>vc m P tt sp ρ n0 y st Q
  | _=>match oH (ky x) sp with
   | false=>vc m P tt sp ρ n0 x st (il (fun s=>vc m P tt sp ρ n0 y s Q) Q)
   | true=>X tk m P ρ n0 (.seq x y) st Q
 | .region id ops false,st,Q=>match oH id sp with
  | false=>uj m P tt ops.toList ops.toList st (Q .normal)
  | true=>X tk m P ρ n0 (.region id ops false) st Q
 | .cond c x y,st,Q=>K9 c st fun b s=>match b with | true=>vc m P tt sp ρ n0 x s Q | false=>vc m P tt sp ρ n0 y s Q
 | .block id c,st,Q=>vc m P tt sp ρ n0 c st (kg id Q)
 | .skip,st,Q=>Q .normal st
 | .ret,st,Q=>Q .ret st
 | .exit id,st,Q=>Q (.exit id) st
 | c,st,Q=>X tk m P ρ n0 c st Q
theorem vx (ht:TT P tt):∀ {c:Code} {st:St} {Q:Exit→St→Prop},vc m P tt sp ρ n0 c st Q→X k_ m P ρ n0 c st Q:=by intro c;induction c with | seq x y ihx ihy =>(intro st Q h;unfold vc at h;split at h;(·split at h;(·refine Aq ((vu (Q:=il (fun s=>vc m P tt sp ρ n0 y s Q) Q) ht h).mono fun e s h=>?_);cases e with | normal=>exact ihy h | _=>exact h);exact h);(·have h:=ihy h;cases m;(·exact fc (gU h));exact bC (cn h));split at h;(·refine Aq ((ihx h).mono fun e s h=>?_);cases e with | normal=>exact ihy h | _=>exact h);exact h) | region id ops mixed =>intro st Q h;cases mixed;(·unfold vc at h;split at h;(·exact vu ht h);exact h);unfold vc at h; exact h | cond c x y ihx ihy =>intro st Q h;unfold vc at h;unfold K9 at h;split at h;(·rename_i b hb;(have h:X k_ m P ρ n0 (if b=true then x else y) st Q:=by split at h;(·rename_i t;have h:=K7 (.inr hb) h;cases b;(·exact ihy h);exact ihx h);cases b;(·exact ihy h);exact ihx h);cases m;(·exact sM hb h);exact aV hb h);exact h.elim | block id c ih=>intro st Q h; unfold vc at h; exact Um (ih h) | skip =>intro st Q h; unfold vc at h;cases m;(·exact gU h);exact cn h | ret =>intro st Q h; unfold vc at h;cases m;(·exact lr h);exact bW h | exit id =>intro st Q h; unfold vc at h;cases m;(·exact j8 h);exact eC h | _=>intro st Q h; unfold vc at h; exact h
section
variable {x y:Code} {id:Nat} {ops:Array Oper} {c:Operand}
theorem Jh {v:Option V} {d:Nat} {want:Bool} {yes no:St→Prop} {k:Tk}:Ee k v d want st yes no=match v with
  | some (.sc (.bool b))=>gate tk b d st fun b s=>match b==want with | true=>yes s | false=>no s
  | some (.sc _)=>no st
  | some _=>False
  | none=>no st:=lN rfl
def sV:=@oo
theorem MA {key:Nat} {o:Oper} {Q:St→Prop}:oo m P tt key o ⟨W n ws,mem⟩ Q=sV m P tt key o ⟨W n ws,mem⟩ Q:=lN rfl
theorem YR {key:Nat} {o:Oper} {Q:St→Prop}:sV m P tt key o st Q=match o.op with
   | .alloc T=>bq tk (tt T) fun i=>Q ({ st with mem:=dB st.mem key (.box (i.zero.map V.sc)) }.put o.dst (.ptr key 0))
   | .box _ x=>bq tk (lW (st.eval x)) fun cs=>Q ({ st with mem:=dB st.mem key (.box cs) }.put o.dst (.ptr key 0))
   | .build T parts=>bq tk (nC P tt T parts.toList st.eval) fun v=>Q (st.put o.dst v)
   | .buildSlice T len parts=>bq tk (Uk tt T len parts.toList st key) fun mem=>Q ({ st with mem:=mem }.put o.dst (.ms key 0 0 len))
   | .store T p x=>bq tk (Ec tt st.mem T (st.eval p) (st.eval x)) fun mem=>Q ({ st with mem:=mem }.put o.dst (.sc undef))
   | .call { callee:=.builtin .append,args:=xs,argTypes:=ts }=>match xs.toList.map st.eval with
    | [s,x]=>nq tk (ji tt st.mem ts.toList s x) (fun p=>Q ({ st with mem:=(gE st.mem key p.1 p.2.2 p.2.1).1 }.put o.dst (gE st.mem key p.1 p.2.2 p.2.1).2)) (apV tk m (oU tt st.mem ts.toList s x) st o.dst Q)
    | _=>False
   | .call { callee:=.value f,args:=xs,.. }=>match st.eval f with
    | .ke k=>acI tk m P k (xs.toList.map st.eval) st o.dst Q
    | fv=>bq tk (dn fv (xs.toList.map st.eval)) fun p=>vq tk m P p.1 p.2 (gx st.mem p.2) (p.2.flatMap fb) st o.dst Q
   | .makeSlice T l c=>bq tk (xT tt T (st.eval l) (st.eval c)) fun p=>Q ({ st with mem:=dB st.mem key (.rows 0 p.1 p.2.1) }.put o.dst (.ms key 0 0 p.2.1.length))
   | .makeMap _ none=>Q ({ st with mem:=dB st.mem key (.map [] 0) }.put o.dst (.mp key))
   | .mapUpdate T d k x=>bq tk (dR P st.mem T (st.eval d) (st.eval k) (st.eval x)) fun mem=>Q ({ st with mem:=mem }.put o.dst (.sc undef))
   | .insert T d k x=>bq tk (dR P st.mem T (st.eval d) (st.eval k) (st.eval x)) fun mem=>Q ({ st with mem:=mem }.put o.dst (.sc undef))
   | .mapEntry T d k=>bq tk (wW P st.mem T (st.eval d) (st.eval k)) fun p=>Q ({ st with mem:=p.1 }.put o.dst p.2)
   | .entryStore _ d s x=>bq tk (wX st.mem (st.eval d) (st.eval s) (st.eval x)) fun mem=>Q ({ st with mem:=mem }.put o.dst (.sc undef))
   | .call { callee:=.builtin .delete,args:=xs,argTypes:=ts }=>bq tk (sC P st.mem ts (xs.toList.map st.eval)) fun mem=>Q ({ st with mem:=mem }.put o.dst (.sc (.tuple #[])))
   | .range T x=>bq tk (pK P st.mem T (st.eval x)) fun B=>Q ({ st with mem:=dB st.mem key B }.put o.dst (.ptr key 0))
   | .next it str=>nxV tk m st o.dst (st.eval it) str Q
   | .binOp op T x y _=>nq tk (pd tt op T (st.eval x) (st.eval y)) (fun n=>niV tk m n op st o.dst Q) (bq tk (me P tt st o) fun v=>Q (st.put o.dst v))
   | _=>bq tk (me P tt st o) fun v=>Q (st.put o.dst v):=lN rfl
theorem YS {all:List Oper} {o:Oper} {yes no:St→Prop}:gd all o ⟨W n ws,mem⟩ yes no=match o.guard with
  | none=>yes ⟨W n ws,mem⟩
  | some (j,want)=>match yg all j with
   | none=>no ⟨W n ws,mem⟩
   | some d=>Ee tk (W n ws)[d]? d want ⟨W n ws,mem⟩ yes no:=lN rfl
theorem MB {f:Bool→St→Prop}:K9 c st f=match st.eval c with
  | .sc (.bool b)=>match c with
   | .tmp t=>gate tk b t st f
   | _=>f b st
  | _=>False:=lN rfl
theorem acM:vc m P tt sp ρ n0 (.seq (.region id ops false) y) ⟨W n ws,mem⟩ Q=match oH id sp with
  | false=>uj m P tt ops.toList ops.toList ⟨W n ws,mem⟩ fun s=>vc m P tt sp ρ n0 y s Q
  | true=>X tk m P ρ n0 (.seq (.region id ops false) y) ⟨W n ws,mem⟩ Q:=lN rfl
theorem acN:vc m P tt sp ρ n0 (.seq (.region id ops true) y) ⟨W n ws,mem⟩ Q=match oH id sp with
  | false=>vc m P tt sp ρ n0 (.region id ops true) ⟨W n ws,mem⟩ (il (fun s=>vc m P tt sp ρ n0 y s Q) Q)
  | true=>X tk m P ρ n0 (.seq (.region id ops true) y) ⟨W n ws,mem⟩ Q:=lN rfl
theorem acO {x1:Code}:vc m P tt sp ρ n0 (.seq (.seq x x1) y) ⟨W n ws,mem⟩ Q=match oH 30000 sp with
  | false=>vc m P tt sp ρ n0 (.seq x x1) ⟨W n ws,mem⟩ (il (fun s=>vc m P tt sp ρ n0 y s Q) Q)
  | true=>X tk m P ρ n0 (.seq (.seq x x1) y) ⟨W n ws,mem⟩ Q:=lN rfl
theorem acP {x1:Code} {t:Nat}:vc m P tt sp ρ n0 (.seq (.cond (.tmp t) x x1) y) ⟨W n ws,mem⟩ Q=match oH (10000+t) sp with
  | false=>vc m P tt sp ρ n0 (.cond (.tmp t) x x1) ⟨W n ws,mem⟩ (il (fun s=>vc m P tt sp ρ n0 y s Q) Q)
  | true=>X tk m P ρ n0 (.seq (.cond (.tmp t) x x1) y) ⟨W n ws,mem⟩ Q:=lN rfl
theorem acQ:vc m P tt sp ρ n0 (.seq (.block id x) y) ⟨W n ws,mem⟩ Q=match oH (20000+id) sp with
  | false=>vc m P tt sp ρ n0 (.block id x) ⟨W n ws,mem⟩ (il (fun s=>vc m P tt sp ρ n0 y s Q) Q)
  | true=>X tk m P ρ n0 (.seq (.block id x) y) ⟨W n ws,mem⟩ Q:=lN rfl
theorem aiv:vc m P tt sp ρ n0 (.region id ops false) ⟨W n ws,mem⟩ Q=match oH id sp with
  | false=>uj m P tt ops.toList ops.toList ⟨W n ws,mem⟩ (Q .normal)
  | true=>X tk m P ρ n0 (.region id ops false) ⟨W n ws,mem⟩ Q:=lN rfl
theorem aiw:vc m P tt sp ρ n0 (.region id ops true) ⟨W n ws,mem⟩ Q=X tk m P ρ n0 (.region id ops true) ⟨W n ws,mem⟩ Q:=lN rfl
theorem aix:vc m P tt sp ρ n0 (.cond c x y) ⟨W n ws,mem⟩ Q=K9 c ⟨W n ws,mem⟩ fun b s=>match b with | true=>vc m P tt sp ρ n0 x s Q | false=>vc m P tt sp ρ n0 y s Q:=lN rfl
theorem aiy:vc m P tt sp ρ n0 (.block id x) ⟨W n ws,mem⟩ Q=vc m P tt sp ρ n0 x ⟨W n ws,mem⟩ (kg id Q):=lN rfl
theorem aiz:vc m P tt sp ρ n0 .skip ⟨W n ws,mem⟩ Q=Q .normal ⟨W n ws,mem⟩:=lN rfl
theorem aiA:vc m P tt sp ρ n0 .ret ⟨W n ws,mem⟩ Q=Q .ret ⟨W n ws,mem⟩:=lN rfl
theorem aiB:vc m P tt sp ρ n0 (.exit id) ⟨W n ws,mem⟩ Q=Q (.exit id) ⟨W n ws,mem⟩:=lN rfl
theorem aiC:vc m P tt sp ρ n0 (.loop x) ⟨W n ws,mem⟩ Q=X tk m P ρ n0 (.loop x) ⟨W n ws,mem⟩ Q:=lN rfl
theorem aiD {f:St→Prop}:il f Q .normal st=f st:=lN rfl
theorem aiE {f:St→Prop}:il f Q .ret st=Q .ret st:=lN rfl
theorem aiF {f:St→Prop} {j:Nat}:il f Q (.exit j) st=Q (.exit j) st:=lN rfl
theorem aiG {j:Nat}:kg j Q .normal st=Q .normal st:=lN rfl
theorem aiH {j:Nat}:kg j Q .ret st=Q .ret st:=lN rfl
theorem aiI {i j:Nat}:kg i Q (.exit j) st=if j=i then Q .normal st else Q (.exit j) st:=lN rfl
end
attribute [irreducible] vc
end
end Go.Eng
end

section
namespace Go.Eng
variable [bg]
section
variable {k_:Tk} {m:Bool} {P:Program} {tt:Table} {ρ:Option Nat} {n0:Nat} {st:St} {Q:Exit→St→Prop} {n:Nat} {ws pW:List (Nat×V)} {mem mm:List bm}
theorem Ar (ht:TT P tt) {sp:List Nat} {y:Code} (e:Exit) (s:St) (h:il (fun s=>vc m P tt sp ρ n0 y s Q) Q e s):il (fun s=>X k_ m P ρ n0 y s Q) Q e s:=by cases e with | normal=>exact vx (k_:=k_) ht h | _=>exact h
theorem sq (ht:TT P tt) (sp:List Nat) {x y:Code} (h:vc m P tt sp ρ n0 x st (il (fun s=>vc m P tt sp ρ n0 y s Q) Q)):X k_ m P ρ n0 (.seq x y) st Q:=Aq ((vx ht h).mono (Ar ht))
theorem N3 (ht:TT P tt) (sp:List Nat) {id:Nat} {ops:Array Oper} {y:Code} (h:uj m P tt ops.toList ops.toList st fun s=>vc m P tt sp ρ n0 y s Q):X k_ m P ρ n0 (.seq (.region id ops false) y) st Q :=
 Aq ((vu (Q:=il (fun s=>vc m P tt sp ρ n0 y s Q) Q) ht h).mono (Ar ht))
theorem l5 (ht:TT P tt) {id:Nat} {ops:Array Oper} (h:uj m P tt ops.toList ops.toList st (Q .normal)):X k_ m P ρ n0 (.region id ops false) st Q:=vu ht h
theorem qz {c:Code} {k j:Nat} (hl:xg n0 k n ws mem st) (h:lY P ρ n0 c j ⟨W n ws,mem⟩ Q):lY P ρ n0 c j st Q:=by cases j with | zero=>exact h.elim | succ j=>exact Jg (k_:=.b) (m:=true) hl h
theorem YT {α:Type} (F:α→List (Nat×V)) (M:α→List bm) (μ:α→Nat) (Inv:α→Prop) (a0:α) (k:Nat) {c:Code} (h0:xg n0 k n (F a0) (M a0) st) (hi:Inv a0)
  (step:∀ a,Inv a→X k_ m P ρ n0 c ⟨W n (F a),M a⟩ (il (fun s=>∃ a',Inv a'∧μ a'<μ a∧xg n0 k n (F a') (M a') s) Q)):X k_ m P ρ n0 (.loop c) st Q:=by cases m with | true =>((have key:∀ (j:Nat) (a:α),Inv a→μ a=j→lY P ρ n0 c (j+1) ⟨W n (F a),M a⟩ Q:=by intro j;induction j using Nat.strongRecOn with | _ j ih =>intro a hi hj;refine eg.mono (step a hi) fun e s h=>?_;cases e with | normal =>obtain⟨a',h1,h2,h3⟩:=h;exact qz h3 (ub (by omega) (ih _ (by omega) a' h1 rfl)) | _=>exact h);exact rG _ (qz h0 (key _ a0 hi rfl))) | false =>(have key:∀ (j:Nat) (a:α),Inv a→μ a=j→∃ (e:Exit) (s:St),Q e s∧∀ Q':Exit→St→Prop,Q' e s→∃ i,lY P ρ n0 c i ⟨W n (F a),M a⟩ Q':=by intro j;induction j using Nat.strongRecOn with | _ j ih =>intro a hi hj;obtain⟨e,s,hq,h⟩:=step a hi;cases e with | normal =>obtain⟨a',h1,h2,h3⟩:=hq;obtain⟨e2,s2,XJ,h5⟩:=ih _ (by omega) a' h1 rfl;refine⟨e2,s2,XJ,fun Q' h'=>?_⟩;obtain⟨i,h6⟩:=h5 Q' h';exact⟨i+1,h _ (qz h3 h6)⟩ | _=>exact⟨_,s,hq,fun Q' h'=>⟨1,h (il (fun st'=>lY P ρ n0 c 0 st' Q') Q') h'⟩⟩);obtain⟨e,s,hq,h⟩:=key _ a0 hi rfl;refine⟨e,s,hq,fun Q' h'=>?_⟩;obtain⟨j,hj⟩:=h Q' h';exact rG j (qz h0 hj)
theorem ja (ht:TT P tt) (sp:List Nat) {α:Type} (F:α→List (Nat×V)) (M:α→List bm) (μ:α→Nat) (Inv:α→Prop) (a0:α) (k:Nat) {c:Code} (h0:xg n0 k n (F a0) (M a0) st) (hi:Inv a0)
  (step:∀ a,Inv a→∀ K:St→Prop,(∀ s,(∃ a',Inv a'∧μ a'<μ a∧xg n0 k n (F a') (M a') s)→K s)→vc m P tt sp ρ n0 c ⟨W n (F a),M a⟩ (il K Q)):X k_ m P ρ n0 (.loop c) st Q:=YT F M μ Inv a0 k h0 hi fun a h=>vx ht (step a h _ fun _ h=>h)
def pk (ws:List (Nat×V)):List Nat→List (Nat×V)
 | []=>[]
 | k :: r=>(k,lk k ws) :: pk ws r
def zk:List Nat→List V→List (Nat×V)→List (Nat×V)
 | t :: ts,v :: vs,r=>(t,v) :: zk ts vs r
 | _,_,r=>r
theorem YU {ks:List Nat}:vt ws (pk ws ks):=by induction ks with | nil=>trivial | cons k r ih=>exact⟨rfl,ih⟩
theorem fX {k:Nat} {p:Nat×V}:Ps k (p :: ws)=(aA k p.2&&Ps k ws):=acH rfl
theorem iw {k:Nat}:Ps k []=true:=acH rfl
theorem YV (ht:TT P tt) (sp:List Nat) (ts:List Nat) (Tb:List V) (k:Nat) (ks:List Nat) (μ:List V→Nat) (Inv:List V→Prop) {c:Code} (hn:n0≤k) (h0:vt pW (zk ts Tb (pk pW ks))∧Ps k (zk ts Tb (pk pW ks))=true∧(mm.take k).all (aJ k)=true) (hi:Inv Tb)
  (step:∀ vs,Inv vs→∀ K:St→Prop,(∀ s,(∃ vs',Inv vs'∧μ vs'<μ vs∧xg n0 k n (zk ts vs' (pk pW ks)) (mm.take k) s)→K s)→vc m P tt sp ρ n0 c ⟨W n (zk ts vs (pk pW ks)),mm.take k⟩ (il K Q)):X k_ m P ρ n0 (.loop c) ⟨W n pW,mm⟩ Q :=
 ja ht sp (fun vs=>zk ts vs (pk pW ks)) (fun _=>mm.take k) μ Inv Tb k (ea hn ⟨h0.1,h0.2.1,h0.2.2,rfl⟩) hi step
def eW (ws:List (Nat×V)):List Nat→List V
 | []=>[]
 | t :: r=>lk t ws :: eW ws r
theorem Eg:∀ {ts:List Nat} {r:List (Nat×V)},vt ws r→vt ws (zk ts (eW ws ts) r)
 | [],r,h=>h
 | t :: ts,r,h=>⟨rfl,Eg h⟩
theorem fQ (ht:TT P tt) (sp:List Nat) (ts:List Nat) (k:Nat) (ks:List Nat) (μ:List V→Nat) (Inv:List V→Prop) {c:Code} (hn:n0≤k) (h0:Ps k (zk ts (eW pW ts) (pk pW ks))=true∧(mm.take k).all (aJ k)=true) (hi:Inv (eW pW ts))
  (step:∀ vs,Inv vs→∀ K:St→Prop,(∀ s,(∃ vs',Inv vs'∧μ vs'<μ vs∧xg n0 k n (zk ts vs' (pk pW ks)) (mm.take k) s)→K s)→vc m P tt sp ρ n0 c ⟨W n (zk ts vs (pk pW ks)),mm.take k⟩ (il K Q)):X k_ m P ρ n0 (.loop c) ⟨W n pW,mm⟩ Q :=
 YV ht sp ts (eW pW ts) k ks μ Inv hn ⟨Eg YU,h0⟩ hi step
theorem lO {ts ks:List Nat} {k j:Nat} {Inv:List V→Prop} {μ:List V→Nat} {Tc:List (Nat×V)} {Pt:List bm} (hn:n0≤k) (h:vt Tc (pk pW ks)∧Ps k (zk ts (eW Tc ts) (pk pW ks))=true∧(mm.take k).all (aJ k)=true∧Pt.take k=mm.take k) (hi:Inv (eW Tc ts)) (hm:μ (eW Tc ts)<j) :
  ∃ vs',Inv vs'∧μ vs'<j∧xg n0 k n (zk ts vs' (pk pW ks)) (mm.take k) ⟨W n Tc,Pt⟩:=⟨_,hi,hm,ea hn ⟨Eg h.1,h.2⟩⟩
theorem dG {ts ks:List Nat} {k:Nat} {Inv:List V→Prop} {Tc:List (Nat×V)} {Pt:List bm} (hn:n0≤k) (h:vt Tc (pk pW ks)∧Ps k (zk ts (eW Tc ts) (pk pW ks))=true∧(mm.take k).all (aJ k)=true∧Pt.take k=mm.take k) (hi:Inv (eW Tc ts)) :
  ∃ vs',Inv vs'∧xg n0 k n (zk ts vs' (pk pW ks)) (mm.take k) ⟨W n Tc,Pt⟩:=⟨_,hi,ea hn ⟨Eg h.1,h.2⟩⟩
theorem ia (ht:TT P tt) (sp:List Nat) (ts:List Nat) (k:Nat) (ks:List Nat) (Inv:List V→Prop) {x y:Code}
  (h1:∀ K:St→Prop,(∀ s,(∃ vs,Inv vs∧xg n0 k n (zk ts vs (pk pW ks)) (mm.take k) s)→K s)→vc m P tt sp ρ n0 x ⟨W n pW,mm⟩ (il K Q))
  (h2:∀ vs,Inv vs→vc m P tt sp ρ n0 y ⟨W n (zk ts vs (pk pW ks)),mm.take k⟩ Q):X k_ m P ρ n0 (.seq x y) ⟨W n pW,mm⟩ Q:=by refine Aq ((vx ht (h1 _ fun _ h=>h)).mono fun e s h=>?_);cases e with | normal =>obtain⟨vs,hv,hl⟩:=h;exact Jg (k_:=k_) hl (vx ht (h2 vs hv)) | _=>exact h
theorem ph (ht:TT P tt) (sp:List Nat) {α:Type} (F:α→List (Nat×V)) (M:α→List bm) (k:Nat) (Inv:α→Prop) {x y:Code}
  (h1:∀ K:St→Prop,(∀ s,(∃ a,Inv a∧xg n0 k n (F a) (M a) s)→K s)→vc m P tt sp ρ n0 x st (il K Q))
  (h2:∀ a,Inv a→vc m P tt sp ρ n0 y ⟨W n (F a),M a⟩ Q):X k_ m P ρ n0 (.seq x y) st Q:=by refine Aq ((vx ht (h1 _ fun _ h=>h)).mono fun e s h=>?_);cases e with | normal =>obtain⟨a,hv,hl⟩:=h;exact Jg (k_:=k_) hl (vx ht (h2 a hv)) | _=>exact h
theorem aiJ {c:Code} {v v':V} (t:Nat) (hn:t<n) (h0:lk t ws=v) (hp:gP mem v=some v') (h:X k_ m P ρ n0 c ⟨W n ((t,v') :: ws),ck mem (fb v)⟩ Q):X k_ m P ρ n0 c ⟨W n ws,mem⟩ Q:=by
 have hg:(⟨W n ws,mem⟩:St).fr[t]?=some v:=by rw [← h0]; show (W n ws)[t]?=_; rw [vr,if_pos hn]
 rw [← K5] at h;cases m;·exact Ap t hg hp h
 exact K4 t hg hp h
def WU (_:Tk) (P:Program) (f:FuncId) (o:Option (List V)) (st:St) (dst:Option Tmp) (Q:St→Prop):Prop:=∃ vs' r,o=some vs'∧DZ P f vs' r∧Q (st.put dst r)
def Pu (_:Tk) (P:Program) (f:FuncId) (o:Option (List V)) (st:St) (key:Nat) (dst:Option Tmp) (Q:St→Prop):Prop:=∃ vs' e rs,o=some vs'∧x5 P f vs' e rs∧Q (w6 st key dst e rs)
def Pv (_:Tk) (P:Program) (f:FuncId) (o:Option (List V)) (keys:List (Nat×Nat)) (st:St) (dst:Option Tmp) (Q:St→Prop):Prop:=∃ vs' r,o=some vs'∧bR P f vs' r∧Q ({ st with mem:=bT st.mem keys r }.put dst r)
def Pw (_:Tk) (P:Program) (f:FuncId) (vs:List V) (k:Nat) (st:St) (dst:Option Tmp) (Q:St→Prop):Prop:=OI P f vs k st dst Q
def Px (P:Program) (tt:Table) (o:Oper) (Cc st:St) (Q:St→Prop):Prop :=
 match o.op with
 | .call { callee:=.value f,args:=xs,.. }=>bq tk (dn (Cc.eval f) (xs.toList.map Cc.eval)) fun p=>WU tk P p.1 (gx [] p.2) st o.dst Q
 | _=>bq tk (yH P tt o Cc) fun v=>Q (st.put o.dst v)
def YW (P:Program) (o:Oper) (key:Nat) (st:St) (Q:St→Prop):Prop :=
 match o.op with
 | .call { callee:=.value f,args:=xs,.. }=>bq tk (dn (st.eval f) (xs.toList.map st.eval)) fun p=>Pu tk P p.1 (gx [] p.2) st key o.dst Q
 | _=>False
def zG (P:Program) (o:Oper) (st:St) (Q:St→Prop):Prop :=
 match o.op with
 | .call { callee:=.value f,args:=xs,.. }=>bq tk (dn (st.eval f) (xs.toList.map st.eval)) fun p=>Pv tk P p.1 (gx st.mem p.2) (p.2.flatMap fb) st o.dst Q
 | _=>False
def eG (P:Program) (tt:Table) (o:Oper) (k:Nat) (st:St) (Q:St→Prop):Prop :=
 match o.op with
 | .call { callee:=.value f,args:=xs,.. }=>bq tk (dn (st.eval f) (xs.toList.map st.eval)) fun p=>Pw tk P p.1 p.2 k st o.dst Q
 | _=>bq tk (qY tt k o st) fun mem=>Q ({ st with mem:=mem }.put o.dst (.sc undef))
def Py (P:Program) (tt:Table) (base:Nat) (o:Oper) (p:Pl) (st:St) (Q:St→Prop):Prop:=match p.cls with
 | .n=>Px P tt o { st with mem:=[] } st Q
 | .r=>Px P tt o { st with mem:=iL (p.mask.map (base + ·)++p.abs) st.mem } st Q
 | .a=>isHole st.mem (base+p.key)=true∧nq tk (j2 tt o (base+p.key) st) (fun q=>Q ({ st with mem:=st.mem.set (base+p.key) q.1 }.put o.dst q.2)) (YW P o (base+p.key) st Q)
 | .w=>isHole st.mem (base+p.key)=true∧bq tk (u5 P tt (base+p.key) o st) fun q=>Q ({ st with mem:=q.1 }.put o.dst q.2)
 | .s=>bq tk (qY tt (base+p.key) o st) fun mem=>Q ({ st with mem:=mem }.put o.dst (.sc undef))
 | .b=>bq tk (qQ tt o st) fun v=>Q (st.put o.dst v)
 | .z=>zG P o st Q
 | .e=>eG P tt o p.key st Q
theorem YX {all:Array Oper} {base:Nat} {o:Oper} {p:Pl} {Q:St→Prop} (hw:gr all st.fr o=some true) (h:Py P tt base o p st Q):fH P tt all base o p st Q:=by
 have hv:∀ {Cc:St},Px P tt o Cc st Q→nV P tt o Cc st Q:=fun {Cc} h=>by unfold Px at h;unfold nV;split at h;(·rename_i f xs ts mv;rw [mv];dsimp only;rw [lu] at h;obtain⟨⟨g,vs⟩,h1,h2⟩:=h;rw [h1];exact h2);rename_i mv;split;(·rename_i f xs ts YY; exact (mv f xs ts YY).elim);rw [lu] at h;obtain⟨v,h1,h2⟩:=h;rw [h1]; exact h2
 unfold Py at h;unfold fH;rw [hw];dsimp only;split at h <;> (rename_i hc; rw [hc]; dsimp only);·exact hv h
 ·exact hv h
 ·refine⟨h.1,?_⟩;have h:=h.2;cases hn:j2 tt o (base+p.key) st with | some q=>rw [hn,vo] at h; exact h | none =>rw [hn,vp] at h;dsimp only;unfold YW at h;unfold uc;split at h;(·rename_i mv;rw [mv];dsimp only;rw [lu] at h;obtain⟨⟨g,vs⟩,h1,h2⟩:=h;rw [h1]; exact h2);exact h.elim
 ·refine⟨h.1,?_⟩;have h:=h.2;rw [lu] at h;obtain⟨q,h1,h2⟩:=h;rw [h1]; exact h2
 ·rw [lu] at h;obtain⟨q,h1,h2⟩:=h;rw [h1]; exact h2
 ·rw [lu] at h;obtain⟨q,h1,h2⟩:=h;rw [h1]; exact h2
 ·unfold zG at h;unfold pL;split at h;(·rename_i mv;rw [mv];dsimp only;rw [lu] at h;obtain⟨⟨g,vs⟩,h1,h2⟩:=h;rw [h1]; exact h2);exact h.elim
 unfold eG at h;unfold u6;split at h;·rename_i mv;rw [mv];dsimp only;rw [lu] at h;obtain⟨⟨g,vs⟩,h1,h2⟩:=h;rw [h1]; exact h2
 rename_i mv;rw [lu] at h;obtain⟨m,h1,h2⟩:=h;split;·rename_i f xs ts YY; exact (mv _ _ _ YY).elim
 rw [h1]; exact h2
def Eh (P:Program) (tt:Table) (all:List Oper) (base:Nat):List Oper→List Pl→St→(St→Prop)→Prop
 | [],_,st,K=>K st
 | o :: r,p :: ps,st,K=>gd all o st (fun st=>Py P tt base o p st fun st'=>Eh P tt all base r ps st' K) (fun st=>Eh P tt all base r ps (st.put o.dst (.sc undef)) K)
 | _ :: _,[],_,_=>False
theorem YZ {all:List Oper} {base:Nat} {ps:List Pl} {K:St→Prop}:Eh P tt all base [] ps ⟨W n ws,mem⟩ K=K ⟨W n ws,mem⟩:=lN rfl
theorem Y0 {all:List Oper} {base:Nat} {o:Oper} {r:List Oper} {p:Pl} {ps:List Pl} {K:St→Prop}:Eh P tt all base (o :: r) (p :: ps) ⟨W n ws,mem⟩ K=gd all o ⟨W n ws,mem⟩ (fun st=>Py P tt base o p st fun st'=>Eh P tt all base r ps st' K) (fun st=>Eh P tt all base r ps (st.put o.dst (.sc undef)) K):=lN rfl
theorem y7 {all:Array Oper} {base:Nat} {Q:St→Prop}:∀ (l:List Oper) (ps:List Pl) (st:St),Eh P tt all.toList base l ps st Q→runM P tt all base l ps st Q
 | [],ps,st,h=>h
 | o :: r,[],st,h=>h.elim
 | o :: r,p :: ps,st,h=>by
  rw [runM]
  rcases WT (show gd all.toList o st _ _ from h) with ⟨hw,h⟩ | ⟨hw,h⟩
  ·have h:=YX hw h
   by_cases hz:p.cls = .z
   ·unfold fH at h ⊢
    rw [hw,hz] at h ⊢
    exact z7 h fun s hs=>y7 r ps s hs
   obtain⟨v,m,h1,h2⟩:=(jS hz).1 h
   exact (jS hz).2 ⟨v,m,h1,y7 r ps _ h2⟩
  unfold fH
  rw [hw]
  exact y7 r ps _ h
theorem fO (ht:TT P tt) (hm:P.follows .mixedOrders=true) (plan:List Pl) (j:Nat) {id:Nat} {ops:Array Oper} (fU:rO ops plan=true) (h:Eh P tt ops.toList st.mem.length ops.toList plan { st with mem:=st.mem++List.replicate j .hole } (Q .normal)):X k_ m P ρ n0 (.region id ops true) st Q:=by
 have h:=y7 _ _ _ h;cases m;·obtain⟨s,h1,h2⟩:=vm _ _ _ h;exact⟨.normal,s,h1,fun Q' h'=>pQ ht hm plan j fU (h2 _ h')⟩
 exact pQ ht hm plan j fU h
theorem acR (ht:TT P tt) (sp:List Nat) (hm:P.follows .mixedOrders=true) (plan:List Pl) (j:Nat) {id:Nat} {ops:Array Oper} {y:Code} (fU:rO ops plan=true)
  (h:Eh P tt ops.toList st.mem.length ops.toList plan { st with mem:=st.mem++List.replicate j .hole } fun s=>vc m P tt sp ρ n0 y s Q):X k_ m P ρ n0 (.seq (.region id ops true) y) st Q :=
 Aq ((fO (Q:=il (fun s=>vc m P tt sp ρ n0 y s Q) Q) ht hm plan j fU h).mono (Ar ht))
section
variable {k:Tk} {f:FuncId} {vs vs':List V} {o:Option (List V)} {keys:List (Nat×Nat)} {dst:Option Tmp} {Q:St→Prop}
theorem cF {R:V→Prop} (hr:∃ v,R v∧bR P f vs' v) (h:∀ v,R v→Q ({ st with mem:=bT st.mem keys v }.put dst v)):vq k m P f vs (some vs') keys st dst Q:=by obtain⟨v,h1,h2⟩:=hr;exact .inl ⟨vs',v,rfl,h2,h v h1⟩
theorem cN {R:V→Prop} (hr:∃ v,R v∧rC P f vs v) (h:∀ v,R v→Q (st.put dst v)):vq k m P f vs o keys st dst Q:=by obtain⟨v,h1,h2⟩:=hr;exact .inr (.inr (.inr ⟨v,h2,h v h1⟩))
theorem cW {R:V→List bm→Prop} (hr:∃ v m',R v m'∧bz P f vs st.mem v m') (h:∀ v m',R v m'→Q ({ st with mem:=m' }.put dst v)):vq k m P f vs o keys st dst Q:=by obtain⟨v,m',h1,h2⟩:=hr;exact .inr (.inl ⟨v,m',h2,h v m' h1⟩)
theorem cS {R:V→Prop} (hr:∃ v,R v∧bz P f vs st.mem v st.mem) (h:∀ v,R v→Q (st.put dst v)):vq k m P f vs o keys st dst Q:=by obtain⟨v,h1,h2⟩:=hr;exact .inr (.inl ⟨v,_,h2,h v h1⟩)
theorem cG {R:V→Prop} (hr:∃ v,R v∧bR P f vs' v) (h:∀ v,R v→Q (st.put dst v)):WU k P f (some vs') st dst Q:=by obtain⟨v,h1,h2⟩:=hr;exact⟨vs',v,rfl,.inl h2,h v h1⟩
theorem N4 {e:Nat} {rs:List V} {key:Nat} (hr:x5 P f vs' e rs) (h:Q (w6 st key dst e rs)):Pu k P f (some vs') st key dst Q:=⟨vs',e,rs,rfl,hr,h⟩
theorem cGZ {v:V} (hr:bR P f vs' v) (h:Q ({ st with mem:=bT st.mem keys v }.put dst v)):Pv k P f (some vs') keys st dst Q:=⟨vs',v,rfl,hr,h⟩
theorem wN {R:V→bm→Prop} {j:Nat} {B0:bm} (hv:st.mem[j]?=some B0) (h0:B0.dV=0) (hr:∃ v B,R v B∧B.dV=0∧bz P f vs st.mem v (st.mem.set j B)) (h:∀ v B,R v B→Q ({ st with mem:=st.mem.set j B }.put dst v)):Pw k P f vs j st dst Q:=by obtain⟨v,B,h1,h2,h3⟩:=hr;exact⟨v,B0,B,h0,h2,hv,h3,h v B h1⟩
end
def Ce:Nat→List V→List (Nat×V)
 | i,v :: vs=>(i,v) :: Ce (i+1) vs
 | _,[]=>[]
theorem La:∀ (vs:List V) (i t:Nat),lk t (Ce i vs)=if i≤t then vs.getD (t-i) .undef else .undef
 | [],i,t=>by simp [Ce,lk]
 | v :: vs,i,t=>by
  simp only [Ce,lk]
  rw [La vs (i+1) t]
  by_cases h:i=t
  ·subst h; simp
  rw [if_neg h]
  by_cases h2:i+1≤t
  ·rw [if_pos h2,if_pos (by omega),show t-i=(t-(i+1))+1 by omega]; simp
  rw [if_neg h2,if_neg (by omega)]
theorem Lc {fn:Func} {args:List V} {c:Code} (hn:fn.ntmps=n) (hl:args.length≤n) (h:X k_ m P ρ n0 c ⟨W n (Ce 0 args),mem⟩ Q):X k_ m P ρ n0 c (cH fn args mem) Q:=by
 refine Ed (st':=⟨W n (Ce 0 args),mem⟩) (fun E w a hs=>⟨hs.F,hs.lt,hs.mem,hs.top,hs.dV,hs.apart,?_⟩) h;have hr:=hs.fr;simp only [cH,hn] at hr;refine⟨by rw [← hr.1,rT,aQ,List.length_replicate]; omega,fun i v x hv hx=>?_⟩;rw [vr] at hv;split at hv;·rename_i hi;cases hv;rw [La,if_pos (bn _),SP,eZ];cases ha:args[i]? with | none=>exact .undef _ _ | some v=>exact hr.2 i v x (by rw [bF (az.1 ha).1]; exact ha) hx
 cases hv
def Uo (R:V→Prop) (o:Option V):Prop:=∃ r,R r∧o=some r
theorem MC {R:V→Prop} {v:V}:Uo R (some v)=R v:=propext ⟨fun ⟨_,h,e⟩=>by cases e; exact h,fun h=>⟨v,h,rfl⟩⟩
theorem Pz {K:V→Prop} {L:List V} {k:Nat} (h:L.length=k) (hk:K (.slice L)):Uo K (if k≤L.length then some (.slice (L.take k)) else none):=by subst h;rw [if_pos (aw _),ai];exact⟨_,hk,rfl⟩
def acS (R:V→Prop) (tt:Table) (rs:Array ResultVar) (e:Exit) (s:St):Prop:=(e = .ret∨e = .normal)∧Uo R (nU tt rs s)
theorem PA {R:V→Prop} {rs:Array ResultVar}:acS R tt rs .ret ⟨W n ws,mem⟩=Uo R (nU tt rs ⟨W n ws,mem⟩):=propext ⟨fun h=>h.2,fun h=>⟨.inl rfl,h⟩⟩
def Up (R:V→List bm→Prop) (k:Nat) (o:Option V) (mem:List bm):Prop:=∃ r,R r mem∧o=some r∧aA k r=true∧mem.all (aJ k)=true
theorem MD {R:V→List bm→Prop} {k:Nat} {v:V}:Up R k (some v) mem=(R v mem∧aA k v=true∧mem.all (aJ k)=true):=propext ⟨fun ⟨_,h,e,h2⟩=>by cases e; exact⟨h,h2⟩,fun ⟨h,h2⟩=>⟨v,h,rfl,h2⟩⟩
def Uq (R:V→List bm→Prop) (k:Nat) (tt:Table) (rs:Array ResultVar) (e:Exit) (s:St):Prop:=(e = .ret∨e = .normal)∧Up R k (kQ tt rs s) (s.mem.take k)
theorem PB {R:V→List bm→Prop} {k:Nat} {rs:Array ResultVar}:Uq R k tt rs .ret ⟨W n ws,mem⟩=Up R k (kQ tt rs ⟨W n ws,mem⟩) (mem.take k):=propext ⟨fun h=>h.2,fun h=>⟨.inl rfl,h⟩⟩
theorem ME {R:V→List bm→Prop} {k:Nat} {rs:Array ResultVar}:Uq R k tt rs .normal ⟨W n ws,mem⟩=Up R k (kQ tt rs ⟨W n ws,mem⟩) (mem.take k):=propext ⟨fun h=>h.2,fun h=>⟨.inr rfl,h⟩⟩
end
section
variable {P:Program} {tt:Table} {f:FuncId} {fn:Func} {body:Code} {args:List V}
theorem j3 (ht:TT P tt) (sp:List Nat) (n:Nat) (rs:List ResultVar) {R:V→Prop} (hf:P.funcs[f]?=some fn) (hb:fn.body=some body)
  (gI:∀ (xs:Array Value) (w:World),(callFunc f xs).run P w = .ok (.enter f xs) w) (hn:fn.ntmps=n∧fn.results=rs.toArray∧args.length≤n)
  (h:∀ K:V→Prop,(∀ v,R v→K v)→vc false P tt sp none 0 body ⟨W n (Ce 0 args),[]⟩ (acS K tt rs.toArray)):∃ r,R r∧bR P f args r:=by have h:=h R fun _ h=>h;obtain⟨e,s,⟨h1,r,hr,h2⟩,h3⟩:=Lc (m:=false) hn.1 hn.2.2 (vx (k_:=.b) ht h);exact⟨r,hr,jA ht hf hb gI (h3 _ ⟨h1,by rw [hn.2.1]; exact h2⟩)⟩
theorem Ld (ht:TT P tt) (sp:List Nat) (n:Nat) (rs:List ResultVar) {R:V→List bm→Prop} {mem:List bm} (k:Nat) (hk:mem.length≤k) (hf:P.funcs[f]?=some fn) (hb:fn.body=some body)
  (gI:∀ (xs:Array Value) (w:World),(callFunc f xs).run P w = .ok (.enter f xs) w) (hn:fn.ntmps=n∧fn.results=rs.toArray∧args.length≤n)
  (h:∀ K:V→List bm→Prop,(∀ v m',R v m'→K v m')→vc false P tt sp none mem.length body ⟨W n (Ce 0 args),mem⟩ (Uq K k tt rs.toArray)):∃ r m',R r m'∧bz P f args mem r m':=by have h:=h R fun _ _ h=>h;obtain⟨e,s,⟨h1,r,hr,h2,h4⟩,h5⟩:=Lc (m:=false) hn.1 hn.2.2 (vx (k_:=.b) ht h);exact⟨r,_,hr,kh ht k hk hf hb gI (h5 _ ⟨h1,by rw [hn.2.1]; exact h2,h4.1,h4.2,rfl⟩)⟩
theorem yh (ht:TT P tt) (sp:List Nat) (n:Nat) (rs:List ResultVar) {R:V→Prop} {mem:List bm} (hf:P.funcs[f]?=some fn) (hb:fn.body=some body)
  (gI:∀ (xs:Array Value) (w:World),(callFunc f xs).run P w = .ok (.enter f xs) w) (hn:fn.ntmps=n∧fn.results=rs.toArray∧args.length≤n)
  (h:∀ K:V→List bm→Prop,(∀ v m',R v∧m'=mem→K v m')→vc false P tt sp none mem.length body ⟨W n (Ce 0 args),mem⟩ (Uq K mem.length tt rs.toArray)):∃ r,R r∧bz P f args mem r mem:=by obtain⟨r,m',⟨hr,rfl⟩,h⟩:=Ld ht sp n rs (R:=fun r m'=>R r∧m'=mem) mem.length (aw _) hf hb gI hn h;exact⟨r,hr,h⟩
end
end Go.Eng
end

section
namespace Go.Eng
variable [bg]
open Go.RowKit (Below)

mutual
def fR (σ:Nat→Nat):V→V
 | .undef=>.undef
 | .sc v=>.sc v
 | .agg cs=>.agg (j9 σ cs)
 | .slice rows=>.slice rows
 | .ms b v s l=>.ms (σ b) v s l
 | .ptr b o=>.ptr (σ b) o
 | .iy b v i o=>.iy (σ b) v i o
 | .fa cs=>.fa cs
 | .cX f first cap=>.cX f (j9 σ first) (j9 σ cap)
 | .eV vs=>.eV (j9 σ vs)
 | .ke b=>.ke (σ b)
 | .mp b=>.mp (σ b)
 | .gn=>.gn
 | .full rows=>.full rows
def j9 (σ:Nat→Nat):List V→List V
 | []=>[]
 | c :: r=>fR σ c :: j9 σ r
end
theorem iM (σ:Nat→Nat):∀ l:List V,j9 σ l=l.map (fR σ)
 | []=>rfl
 | c :: r=>by rw [j9,iM σ r]; rfl
def nG (σ:Nat→Nat):bm→bm
 | .box cs=>.box (j9 σ cs)
 | .loop s p fr ps a b=>.loop s p (j9 σ fr) ps a b
 | .map dO c=>.map (dO.map fun e=>(e.1,e.2.1,fR σ e.2.2)) c
 | .jO m since seen last=>.jO (σ m) since seen last
 | B=>B
theorem Gr (σ:Nat→Nat) (B:bm):(nG σ B).dV=B.dV:=by cases B <;> rfl
theorem dh.jf {E:Env} {v:V} {x:Value} (h:dh E v x):∀ {n:Nat} {σ:Nat→Nat} {E2:Env},aA n v=true→(∀ ad y,E.F ad=some y→E2.F ad=some y)→(∀ k v t,k<n→E.cI k v=some t→E2.cI (σ k) v=some t)→dh E2 (fR σ v) x:=by induction h with | undef=>intros; exact .undef _ _ | sc=>intros; exact .sc _ _ | slice E rows a cap tR ad xf ha nR hz hF h1 hR ih =>intro n σ E2 hb kH hk;exact .slice _ _ _ _ tR ad xf ha nR hz (fun i row j c hi hj=>kH _ _ (hF i row j c hi hj)) h1 fun i row j c hi hj=>(hR i row j c hi hj).mono ⟨kH,fun _ _ _ h=>by cases h⟩ | ms E b v s l g e c a cap gi hl h0 Cs =>intro n σ E2 hb kH hk;exact .ms _ _ _ _ _ g e c _ _ (hk _ _ _ (by simpa [aA] using hb) gi) hl h0 Cs | jl=>intros; exact .jl _ _ _ _ | ptr E b o g e c gi =>intro n σ E2 hb kH hk;exact .ptr _ _ _ g e c (hk _ _ _ (by simpa [aA] using hb) gi) | ke E b l e c gi =>intro n σ E2 hb kH hk;exact .ke _ _ l e c (hk _ _ _ (by simpa [aA] using hb) gi) | mp E b l e c gi =>intro n σ E2 hb kH hk;exact .mp _ _ l e c (hk _ _ _ (by simpa [aA] using hb) gi) | iy E b v i o g e c gi =>intro n σ E2 hb kH hk;exact .iy _ _ _ _ _ g e c (hk _ _ _ (by simpa [aA] using hb) gi) | fa E cs ad xf hF hR ih =>intro n σ E2 hb kH hk;exact .fa _ _ _ xf (fun j c hj=>kH _ _ (hF j c hj)) fun j c hj=>(hR j c hj).mono ⟨kH,fun _ _ _ h=>by cases h⟩ | gn=>intros; exact .gn _ | full E rows a h ih =>intro n σ E2 hb kH hk;exact .full _ _ _ (ih (n:=n) (σ:=σ) rfl kH hk) | agg E cs xs hl hh ih =>intro n σ E2 hb kH hk;rw [aA,gF] at hb;rw [fR,iM];refine .agg _ _ _ (by rw [ab]; exact hl) fun i c x hc hx=>?_;rw [ae,bA] at hc;obtain⟨c0,IY,rfl⟩:=hc;exact ih i c0 x IY hx (a7.1 hb c0 (aB IY)) kH hk | eV E cs xs hl hh ih =>intro n σ E2 hb kH hk;rw [aA,gF] at hb;rw [fR,iM];refine .eV _ _ _ (by rw [ab]; exact hl) fun i c x hc hx=>?_;rw [ae,bA] at hc;obtain⟨c0,IY,rfl⟩:=hc;exact ih i c0 x IY hx (a7.1 hb c0 (aB IY)) kH hk | cX E f first cap xs ys hx hy h1 h2 Xy Xz =>intro n σ E2 hb kH hk;rw [aA,gF,gF,aL] at hb;rw [fR,iM,iM];refine .cX _ _ _ _ _ _ (by rw [ab]; exact hx) (by rw [ab]; exact hy) (fun i c x hc hx=>?_) fun i c x hc hx=>?_;(·rw [ae,bA] at hc;obtain⟨c0,IY,rfl⟩:=hc;exact Xy i c0 x IY hx (a7.1 hb.1 c0 (aB IY)) kH hk);rw [ae,bA] at hc;obtain⟨c0,IY,rfl⟩:=hc;exact Xz i c0 x IY hx (a7.1 hb.2 c0 (aB IY)) kH hk
theorem dh.yi {E:Env} {u:V} {x:Value} (h:dh E u x):∀ {v:V} {n:Nat} {σ:Nat→Nat} {E2:Env},u=fR σ v→aA n v=true→(∀ ad y,E.F ad=some y→E2.F ad=some y)→(∀ k v t,k<n→E.cI (σ k) v=some t→E2.cI k v=some t)→dh E2 v x:=by induction h with | undef =>intro v n σ E2 he hb kH hk;cases v <;> simp only [fR,reduceCtorEq] at he;exact .undef _ _ | sc =>intro v n σ E2 he hb kH hk;cases v <;> simp only [fR,reduceCtorEq,V.sc.injEq] at he;subst he; exact .sc _ _ | slice E rows a cap tR ad xf ha nR hz hF h1 hR ih =>intro v n σ E2 he hb kH hk;cases v <;> simp only [fR,reduceCtorEq,V.slice.injEq] at he;subst he;exact .slice _ _ _ _ tR ad xf ha nR hz (fun i row j c hi hj=>kH _ _ (hF i row j c hi hj)) h1 fun i row j c hi hj=>(hR i row j c hi hj).mono ⟨kH,fun _ _ _ h=>by cases h⟩ | ms E b v s l g e c a cap gi hl h0 Cs =>intro v n σ E2 he hb kH hk;cases v <;> simp only [fR,reduceCtorEq,V.ms.injEq] at he;obtain⟨rfl,rfl,rfl,rfl⟩:=he;exact .ms _ _ _ _ _ g e c _ _ (hk _ _ _ (by simpa [aA] using hb) gi) hl h0 Cs | jl =>intro v n σ E2 he hb kH hk;cases v <;> simp only [fR,reduceCtorEq,V.ms.injEq] at he;obtain⟨rfl,rfl,rfl,rfl⟩:=he;exact .jl _ _ _ _ | ptr E b o g e c gi =>intro v n σ E2 he hb kH hk;cases v <;> simp only [fR,reduceCtorEq,V.ptr.injEq] at he;obtain⟨rfl,rfl⟩:=he;exact .ptr _ _ _ g e c (hk _ _ _ (by simpa [aA] using hb) gi) | ke E b l e c gi =>intro v n σ E2 he hb kH hk;cases v <;> simp only [fR,reduceCtorEq,V.ke.injEq] at he;subst he;exact .ke _ _ l e c (hk _ _ _ (by simpa [aA] using hb) gi) | mp E b l e c gi =>intro v n σ E2 he hb kH hk;cases v <;> simp only [fR,reduceCtorEq,V.mp.injEq] at he;subst he;exact .mp _ _ l e c (hk _ _ _ (by simpa [aA] using hb) gi) | iy E b v i o g e c gi =>intro v n σ E2 he hb kH hk;cases v <;> simp only [fR,reduceCtorEq,V.iy.injEq] at he;obtain⟨rfl,rfl,rfl,rfl⟩:=he;exact .iy _ _ _ _ _ g e c (hk _ _ _ (by simpa [aA] using hb) gi) | fa E cs ad xf hF hR ih =>intro v n σ E2 he hb kH hk;cases v <;> simp only [fR,reduceCtorEq,V.fa.injEq] at he;subst he;exact .fa _ _ _ xf (fun j c hj=>kH _ _ (hF j c hj)) fun j c hj=>(hR j c hj).mono ⟨kH,fun _ _ _ h=>by cases h⟩ | full E rows a h ih =>intro v n σ E2 he hb kH hk;cases v <;> simp only [fR,reduceCtorEq,V.full.injEq] at he;subst he;exact .full _ _ _ (ih (v:=.slice rows) (n:=n) (σ:=σ) rfl rfl kH hk) | gn =>intro v n σ E2 he hb kH hk;cases v <;> simp only [fR,reduceCtorEq] at he;exact .gn _ | agg E cs xs hl hh ih =>intro v n σ E2 he hb kH hk;cases v <;> simp only [fR,reduceCtorEq,V.agg.injEq] at he;subst he;rw [aA,gF] at hb;rw [iM,ab] at hl;refine .agg _ _ _ hl fun i c x hc hx=>?_;exact ih i (fR σ c) x (by rw [iM,ae,hc]; rfl) hx rfl (a7.1 hb c (aB hc)) kH hk | eV E cs xs hl hh ih =>intro v n σ E2 he hb kH hk;cases v <;> simp only [fR,reduceCtorEq,V.eV.injEq] at he;subst he;rw [aA,gF] at hb;rw [iM,ab] at hl;refine .eV _ _ _ hl fun i c x hc hx=>?_;exact ih i (fR σ c) x (by rw [iM,ae,hc]; rfl) hx rfl (a7.1 hb c (aB hc)) kH hk | cX E f first cap xs ys hx hy h1 h2 Xy Xz =>intro v n σ E2 he hb kH hk;cases v <;> simp only [fR,reduceCtorEq,V.cX.injEq] at he;obtain⟨rfl,rfl,rfl⟩:=he;rw [aA,gF,gF,aL] at hb;rw [iM,ab] at hx hy;refine .cX _ _ _ _ _ _ hx hy (fun i c x hc hx=>?_) fun i c x hc hx=>?_;(·exact Xy i (fR σ c) x (by rw [iM,ae,hc]; rfl) hx rfl (a7.1 hb.1 c (aB hc)) kH hk);exact Xz i (fR σ c) x (by rw [iM,ae,hc]; rfl) hx rfl (a7.1 hb.2 c (aB hc)) kH hk
theorem cY.jf {E E2:Env} {vs:List V} {xs:List Value} {n:Nat} {σ:Nat→Nat} (h:cY E vs xs) (hb:vs.all (aA n)=true) (hF:∀ ad y,E.F ad=some y→E2.F ad=some y) (hk:∀ k v t,k<n→E.cI k v=some t→E2.cI (σ k) v=some t):cY E2 (j9 σ vs) xs:=by rw [iM];refine⟨by rw [ab]; exact h.1,fun i v x hv hx=>?_⟩;rw [ae,bA] at hv;obtain⟨c,hc,rfl⟩:=hv;exact (h.2 i c x hc hx).jf (a7.1 hb c (aB hc)) hF hk
theorem cY.yi {E E2:Env} {vs:List V} {xs:List Value} {n:Nat} {σ:Nat→Nat} (h:cY E (j9 σ vs) xs) (hb:vs.all (aA n)=true) (hF:∀ ad y,E.F ad=some y→E2.F ad=some y) (hk:∀ k v t,k<n→E.cI (σ k) v=some t→E2.cI k v=some t):cY E2 vs xs:=by rw [iM] at h;refine⟨by have:=h.1; rwa [ab] at this,fun i v x hv hx=>?_⟩;exact (h.2 i (fR σ v) x (by rw [ae,hv]; rfl) hx).yi rfl (a7.1 hb v (aB hv)) hF hk
theorem ob.jf {E E2:Env} {w w2:World} {k:Nat} {B:bm} {n:Nat} {σ:Nat→Nat} (h:ob E w k B) (lZ:k<n) (hb:aJ n B=true) (hF:E2.F=E.F) (hk:∀ k v,k<n→E2.cI (σ k) v=E.cI k v) (hw:w2.heap=w.heap):ob E2 w2 (σ k) (nG σ B):=by
 have IB:∀ ad y,E.F ad=some y→E2.F ad=some y:=fun ad y h=>by rw [hF]; exact h
 have je:∀ k v t,k<n→E.cI k v=some t→E2.cI (σ k) v=some t:=fun k v t hn h=>by rw [hk k v hn]; exact h
 have hp:E2.pure=E.pure:=Env.LW hF rfl;cases B with | hole=>(exact fun v=>by rw [hk k v lZ]; exact h v) | dead=>trivial | box cs =>obtain⟨g,T,xs,h1,h2,h3,h4⟩:=h;exact⟨g,T,xs,je _ _ _ lZ h1,by rw [hw]; exact h2,h3.jf hb IB je,fun o=>by rw [hF]; exact h4 o⟩ | rows v e rs =>((rcases h with ⟨h1,h2⟩ | ⟨g,T,xs,c,h1,h2,h3,h4,h5,h6⟩);(·exact .inl ⟨h1,by rw [hk k v lZ]; exact h2⟩);exact .inr ⟨g,T,xs,c,je _ _ _ lZ h1,by rw [hw]; exact h2,h3,h4,by rw [hp]; exact h5,fun o=>by rw [hF]; exact h6 o⟩) | uR v e rs =>((rcases h with ⟨h1,h2⟩ | ⟨g,c,h1,h2,h3⟩);(·exact .inl ⟨h1,by rw [hk k v lZ]; exact h2⟩);exact .inr ⟨g,c,je _ _ _ lZ h1,h2,by rw [hp,hF]; exact h3⟩) | loop s nS fr params assign body =>obtain⟨l,fn,tmps,db,h1,h2,h3,h4⟩:=h;exact⟨l,fn,tmps,db,je _ _ _ lZ h1,by rw [hw]; exact h2,h3.jf hb IB je,fun o=>by rw [hF]; exact h4 o⟩ | map dO clock =>obtain⟨g,es,h1,h2,h3,h4⟩:=h;refine⟨g,es,je _ _ _ lZ h1,by rw [hw]; exact h2,⟨by rw [ab]; exact h3.1,fun i kb e kT he=>?_⟩,fun o=>by rw [hF]; exact h4 o⟩;rw [ae,bA] at kT;obtain⟨q,hq,rfl⟩:=kT;obtain⟨p1,p2,p3⟩:=h3.2 i q e hq he;exact⟨p1,p2,p3.jf (a7.1 hb q (aB hq)) IB je⟩ | jO m since seen last =>obtain⟨g,gm,e,c,h1,h2,h3,h4⟩:=h;exact⟨g,gm,e,c,je _ _ _ lZ h1,je _ _ _ (by simpa [aJ] using hb) h2,by rw [hw]; exact h3,fun o=>by rw [hF]; exact h4 o⟩ | nP s pos =>obtain⟨g,h1,h2,h3⟩:=h;exact⟨g,je _ _ _ lZ h1,by rw [hw]; exact h2,fun o=>by rw [hF]; exact h3 o⟩ | oa =>obtain⟨g,h1,h2,h3⟩:=h;exact⟨g,je _ _ _ lZ h1,by rw [hw]; exact h2,fun o=>by rw [hF]; exact h3 o⟩
theorem ob.yi {E E2:Env} {w:World} {k:Nat} {B:bm} {n:Nat} {σ:Nat→Nat} (h:ob E w (σ k) (nG σ B)) (lZ:k<n) (hb:aJ n B=true) (hF:E2.F=E.F) (hk:∀ k v,k<n→E2.cI k v=E.cI (σ k) v):ob E2 w k B:=by
 have IB:∀ ad y,E.F ad=some y→E2.F ad=some y:=fun ad y h=>by rw [hF]; exact h
 have je:∀ k v t,k<n→E.cI (σ k) v=some t→E2.cI k v=some t:=fun k v t hn h=>by rw [hk k v hn]; exact h
 have hp:E2.pure=E.pure:=Env.LW hF rfl;cases B with | hole=>(exact fun v=>by rw [hk k v lZ]; exact h v) | dead=>trivial | box cs =>obtain⟨g,T,xs,h1,h2,h3,h4⟩:=h;exact⟨g,T,xs,je _ _ _ lZ h1,h2,h3.yi hb IB je,fun o=>by rw [hF]; exact h4 o⟩ | rows v e rs =>((rcases h with ⟨h1,h2⟩ | ⟨g,T,xs,c,h1,h2,h3,h4,h5,h6⟩);(·exact .inl ⟨h1,by rw [hk k v lZ]; exact h2⟩);exact .inr ⟨g,T,xs,c,je _ _ _ lZ h1,h2,h3,h4,by rw [hp]; exact h5,fun o=>by rw [hF]; exact h6 o⟩) | uR v e rs =>((rcases h with ⟨h1,h2⟩ | ⟨g,c,h1,h2,h3⟩);(·exact .inl ⟨h1,by rw [hk k v lZ]; exact h2⟩);exact .inr ⟨g,c,je _ _ _ lZ h1,h2,by rw [hp,hF]; exact h3⟩) | loop s nS fr params assign body =>obtain⟨l,fn,tmps,db,h1,h2,h3,h4⟩:=h;exact⟨l,fn,tmps,db,je _ _ _ lZ h1,h2,h3.yi hb IB je,fun o=>by rw [hF]; exact h4 o⟩ | map dO clock =>obtain⟨g,es,h1,h2,h3,h4⟩:=h;refine⟨g,es,je _ _ _ lZ h1,h2,⟨by have:=h3.1; rwa [ab] at this,fun i q e hq he=>?_⟩,fun o=>by rw [hF]; exact h4 o⟩;obtain⟨p1,p2,p3⟩:=h3.2 i _ e (by rw [ae,hq]; rfl) he;exact⟨p1,p2,p3.yi rfl (a7.1 hb q (aB hq)) IB je⟩ | jO m since seen last =>obtain⟨g,gm,e,c,h1,h2,h3,h4⟩:=h;exact⟨g,gm,e,c,je _ _ _ lZ h1,je _ _ _ (by simpa [aJ] using hb) h2,h3,fun o=>by rw [hF]; exact h4 o⟩ | nP s pos =>obtain⟨g,h1,h2,h3⟩:=h;exact⟨g,je _ _ _ lZ h1,h2,fun o=>by rw [hF]; exact h3 o⟩ | oa =>obtain⟨g,h1,h2,h3⟩:=h;exact⟨g,je _ _ _ lZ h1,h2,fun o=>by rw [hF]; exact h3 o⟩

def lv (σ:Nat→Nat):Nat→List bm→List bm→List bm
 | _,[],M=>M
 | i,B :: r,M=>lv σ (i+1) r (M.set (σ i) (nG σ B))
def xh (σ:Nat→Nat) (n:Nat) (bV M:List bm):List bm:=lv σ 0 (bV.take n) M++(bV.drop n).map (nG σ)
theorem jU (σ:Nat→Nat):∀ (l:List bm) (i:Nat) (M:List bm),(lv σ i l M).length=M.length
 | [],_,_=>rfl
 | B :: r,i,M=>by rw [lv,jU σ r]; simp
theorem xi (σ:Nat→Nat):∀ (l:List bm) (i:Nat) (M:List bm) (k:Nat),(∀ j,i≤j→j<i+l.length→σ j≠k)→(lv σ i l M)[k]?=M[k]?
 | [],_,_,_,_=>rfl
 | B :: r,i,M,k,h=>by
  rw [lv,xi σ r (i+1) _ k fun j h1 h2=>h j (by omega) (by simp; omega),eY (h i (aw _) (by simp))]
theorem CS (σ:Nat→Nat):∀ (l:List bm) (i:Nat) (M:List bm) (j:Nat) (B:bm),(∀ a b,i≤a→a<i+l.length→i≤b→b<i+l.length→σ a=σ b→a=b)→i≤j→l[j-i]?=some B→σ j<M.length→(lv σ i l M)[σ j]?=some (nG σ B)
 | [],_,_,_,_,_,_,h,_=>by simp at h
 | C :: r,i,M,j,B,xj,Ic,h,ca=>by
  rw [lv]
  by_cases hj:j=i
  ·subst hj
   rw [cU] at h; cases h
   rw [xi σ r (j+1) _ (σ j) fun a h1 h2 e=>by have:=xj a j (by omega) (by simp; omega) (aw _) (by simp) e; omega]
   rw [bK]; simp [ca]
  refine CS σ r (i+1) _ j B (fun a b h1 h2 h3 h4=>xj a b (by omega) (by simp; omega) (by omega) (by simp; omega)) (by omega) ?_ (by simpa using ca)
  rw [show j-i=(j-(i+1))+1 by omega] at h
  simpa using h
theorem bz.jf {P:Program} {f:FuncId} {vs:List V} {r:V} {mem bV:List bm} (h:bz P f vs mem r bV) (M:List bm) (σ:Nat→Nat) (n:Nat) (hn:n=mem.length) (hv:vs.all (aA n)=true) (hm:mem.all (aJ n)=true) (hr:aA bV.length r=true)
  (Yh:bV.all (aJ bV.length)=true) (hlen:n≤bV.length) (hσ:∀ i B,mem[i]?=some B→M[σ i]?=some (nG σ B)) (xj:∀ i j,i<n→j<n→σ i=σ j→i=j) (pb:∀ j,n≤j→σ j=M.length+(j-n)) :
  bz P f (j9 σ vs) M (fR σ r) (xh σ n bV M):=by
 subst hn;have hold:∀ i,i<mem.length→σ i<M.length:=fun i hi=>(az.1 (hσ i _ (ak hi))).1;have hL:(xh σ mem.length bV M).length=M.length+(bV.length-mem.length):=by unfold xh;rw [aQ,jU,ab,gG]
 have OP:∀ i B,bV[i]?=some B→(xh σ mem.length bV M)[σ i]?=some (nG σ B):=fun i B hi=>by unfold xh;(rcases bL i mem.length with ca | ig);(·rw [bF (by rw [jU]; exact hold i ca)];refine CS σ _ 0 M i B (fun a b _ h2 _ h4 he=>?_) (bn _) (by rw [SP,jN ca]; exact hi) (hold i ca);rw [cd] at h2 h4;exact xj a b (by omega) (by omega) he);rw [pb i ig,aW (by rw [jU]; omega),jU,ez,ae,BU,show mem.length+(i-mem.length)=i by omega,hi]; rfl
 have ep:∀ k,k<M.length→(∀ i,i<mem.length→σ i≠k)→(xh σ mem.length bV M)[k]?=M[k]?:=fun k hk h=>by unfold xh;rw [bF (by rw [jU]; exact hk)];exact xi σ _ 0 M k fun j _ h2=>h j (by rw [cd] at h2; omega)
 generalize xh σ mem.length bV M=M' at hL OP ep;refine⟨h.1,fun E w xs hs hx=>?_⟩;have Td:∀ k v,k<mem.length→(⟨E.F,fun k v=>if k<mem.length then E.cI (σ k) v else none,E.gl⟩:Env).cI k v=E.cI (σ k) v:=fun k v hk=>if_pos hk;have Y1:∀ k v,mem.length≤k→(⟨E.F,fun k v=>if k<mem.length then E.cI (σ k) v else none,E.gl⟩:Env).cI k v=none:=fun k v hk=>if_neg (by omega);have Ji:(⟨E.F,fun k v=>if k<mem.length then E.cI (σ k) v else none,E.gl⟩:Env).F=E.F:=rfl;generalize (⟨E.F,fun k v=>if k<mem.length then E.cI (σ k) v else none,E.gl⟩:Env)=E0 at Td Y1 Ji;have o7:∀ k v t,E0.cI k v=some t→k<mem.length∧E.cI (σ k) v=some t:=fun k v t h=>by (rcases bL k mem.length with hk | hk);(·exact⟨hk,by rw [← Td k v hk]; exact h⟩);rw [Y1 k v hk] at h; cases h
 have N1:dr E0 w { tmps := #[],defers:=[] } { fr:=[],mem:=mem } :=
  ⟨fun ad y hy=>hs.F ad y (by rw [← Ji]; exact hy),fun k v g e c hk=>hs.lt _ _ _ _ _ (o7 _ _ _ hk).2,
   fun k B hk=>(hs.mem _ _ (hσ k B hk)).yi (az.1 hk).1 (a7.1 hm B (aB hk)) Ji Td,
   fun k hk v=>Y1 k v hk,fun k B hk v hv=>by
    rw [Td k v (az.1 hk).1]
    exact hs.dV _ _ (hσ k B hk) v (by rw [Gr]; exact hv),
   fun k k' v v' g e c e' c' h1 h2=>by
    obtain⟨p1,p2⟩:=o7 _ _ _ h1
    obtain⟨q1,q2⟩:=o7 _ _ _ h2
    exact xj k k' p1 q1 (hs.apart _ _ _ _ _ _ _ _ _ p2 q2),.nil _⟩
 have KB:cY E0 vs xs.toList:=hx.yi hv (fun ad y hy=>by rw [Ji]; exact hy) fun k v t hk h=>by rw [Td k v hk]; exact h
 refine (h.2 E0 w xs N1 KB).mono ?_;rintro en w1 ⟨E1,x,rfl,iz,pC,Fc⟩;have hA0:∀ i v,i<mem.length→(⟨E1.F,fun K v=>match (List.range mem.length).find? (fun i=>σ i==K) with | some i=>E1.cI i v | none=>if K<M.length then E.cI K v else E1.cI (K-M.length+mem.length) v,E1.gl⟩:Env).cI (σ i) v=E1.cI i v:=fun i v hi=>by show (match (List.range mem.length).find? (fun j=>σ j==σ i) with | some i=>E1.cI i v | none=>_)=_;(have:(List.range mem.length).find? (fun j=>σ j==σ i)=some i:=by cases hf:(List.range mem.length).find? (fun j=>σ j==σ i) with | none =>have:=aqs.1 hf i (alf.2 hi);simp at this | some j =>have h1:=List.find?_some hf;have h2:=alf.1 (List.mem_of_find?_eq_some hf);rw [xj j i h2 hi (by simpa using h1)]);rw [this]
 have jt:∀ K,(∀ i,i<mem.length→σ i≠K)→(List.range mem.length).find? (fun i=>σ i==K)=none:=fun K h=>aqs.2 fun i hi=>by have:=h i (alf.1 hi);simpa using this
 have hB:∀ K v,K<M.length→(∀ i,i<mem.length→σ i≠K)→(⟨E1.F,fun K v=>match (List.range mem.length).find? (fun i=>σ i==K) with | some i=>E1.cI i v | none=>if K<M.length then E.cI K v else E1.cI (K-M.length+mem.length) v,E1.gl⟩:Env).cI K v=E.cI K v:=fun K v hK h=>by show (match (List.range mem.length).find? (fun j=>σ j==K) with | some i=>E1.cI i v | none=>_)=_;rw [jt K h];exact if_pos hK
 have uZ:∀ i v,mem.length≤i→(⟨E1.F,fun K v=>match (List.range mem.length).find? (fun i=>σ i==K) with | some i=>E1.cI i v | none=>if K<M.length then E.cI K v else E1.cI (K-M.length+mem.length) v,E1.gl⟩:Env).cI (σ i) v=E1.cI i v:=fun i v hi=>by show (match (List.range mem.length).find? (fun j=>σ j==σ i) with | some i=>E1.cI i v | none=>_)=_;have tS:=pb i hi;rw [jt (σ i) fun j hj e=>by have:=hold j hj; omega];show (if σ i<M.length then E.cI (σ i) v else E1.cI (σ i-M.length+mem.length) v)=_;rw [if_neg (by omega),tS,show M.length+(i-mem.length)-M.length+mem.length=i by omega]
 have Jj:(⟨E1.F,fun K v=>match (List.range mem.length).find? (fun i=>σ i==K) with | some i=>E1.cI i v | none=>if K<M.length then E.cI K v else E1.cI (K-M.length+mem.length) v,E1.gl⟩:Env).F=E1.F:=rfl;generalize (⟨E1.F,fun K v=>match (List.range mem.length).find? (fun i=>σ i==K) with | some i=>E1.cI i v | none=>if K<M.length then E.cI K v else E1.cI (K-M.length+mem.length) v,E1.gl⟩:Env)=E2 at hA0 hB uZ Jj;have hA:∀ i v,E2.cI (σ i) v=E1.cI i v:=fun i v=>by (rcases bL i mem.length with hi | hi);(·exact hA0 i v hi);exact uZ i v hi
 have cl:∀ K,(∃ i,K=σ i)∨(K<M.length∧∀ i,i<mem.length→σ i≠K):=fun K=>by (rcases bL K M.length with hK | hK);(·by_cases h:∃ i,i<mem.length∧σ i=K;(·obtain⟨i,-,hi⟩:=h;exact .inl ⟨i,hi.symm⟩);exact .inr ⟨hK,fun i hi e=>h ⟨i,hi,e⟩⟩);exact .inl ⟨K-M.length+mem.length,by rw [pb _ (by omega)]; omega⟩
 have zV:∀ K v g e c,(∀ i,i<mem.length→σ i≠K)→E.cI K v=some (g,e,c)→∀ k0 v0 e0 c0,E0.cI k0 v0≠some (g,e0,c0):=fun K v g e c hK hb k0 v0 e0 c0 h=>by obtain⟨h1,h2⟩:=o7 _ _ _ h;exact hK k0 h1 (hs.apart _ _ _ _ _ _ _ _ _ h2 hb)
 have hle:E.le E2:=⟨fun ad y hy=>by rw [Jj]; exact iz.le.F _ _ (by rw [Ji]; exact hy),fun K v t hk=>by (rcases cl K with ⟨i,rfl⟩ | ⟨hK,vw⟩);(·rw [hA i v];(rcases bL i mem.length with hi | hi);(·exact iz.le.cI _ _ _ (by rw [Td i v hi]; exact hk));rw [hs.top (σ i) (by rw [pb i hi]; dsimp only; omega) v] at hk; cases hk);rw [hB K v hK vw]; exact hk⟩;refine⟨E2,x,rfl,⟨hle,fun K v g e c hk=>?_,fun ad y hy=>?_,iz.os,iz.tape,iz.output,iz.size,fun b hb ep=>iz.heap b hb fun k v e c h=>ep _ _ _ _ (o7 _ _ _ h).2⟩, ⟨fun ad y hy=>pC.F _ _ (by rw [← Jj]; exact hy),fun K v g e c hk=>?_,fun K B hk=>?_,fun K hk v=>?_,fun K B hk v hv=>?_,fun K K' v v' g e1 c1 e2 c2 h5 h6=>?_,.nil _⟩,Fc.jf hr (fun ad y hy=>by rw [Jj]; exact hy) fun k v t _ hk=>by rw [hA]; exact hk⟩;·(rcases cl K with ⟨i,rfl⟩ | ⟨hK,vw⟩);(·rw [hA i v] at hk;(rcases iz.cI _ _ _ _ _ hk with ⟨k0,v0,e0,c0,h⟩ | h);(·exact .inl ⟨_,_,_,_,(o7 _ _ _ h).2⟩);exact .inr h);rw [hB K v hK vw] at hk; exact .inl ⟨_,_,_,_,hk⟩
 ·rw [Jj] at hy;(rcases iz.F _ _ hy with h | h | ⟨k0,v0,e0,c0,h⟩);(·exact .inl (by rw [← Ji]; exact h));(·exact .inr (.inl h));exact .inr (.inr ⟨_,_,_,_,(o7 _ _ _ h).2⟩)
 ·(rcases cl K with ⟨i,rfl⟩ | ⟨hK,vw⟩);(·rw [hA i v] at hk; exact pC.lt _ _ _ _ _ hk);rw [hB K v hK vw] at hk; exact qL (hs.lt _ _ _ _ _ hk) iz.size
 ·(rcases cl K with ⟨i,rfl⟩ | ⟨hK,vw⟩);(·(have hi:i<bV.length:=by have h1:=(az.1 hk).1;(rcases bL i mem.length with h2 | h2);(·omega);have h3:=pb i h2;dsimp only at h1; omega);have iQ:=OP i _ (ak hi);rw [hk] at iQ;cases iQ;exact (pC.mem i _ (ak hi)).jf hi (a7.1 Yh _ (List.getElem_mem hi)) Jj (fun k v _=>hA k v) rfl);dsimp only at hk;rw [ep K hK vw] at hk;refine (hs.mem K B hk).mono hle (fun v hv=>by rw [hB K v hK vw]; exact hv) (fun g e c hb=>iz.heap g (hs.lt _ _ _ _ _ hb) fun k0 v0 e0 c0 h=>zV _ _ _ _ _ vw hb _ _ _ _ h) fun g e c o hb hn=>?_;rw [Jj];cases hy:E1.F ⟨g,o,none⟩ with | none=>rfl | some y =>(rcases iz.F _ _ hy with h | h | ⟨k0,v0,e0,c0,h⟩);(·rw [Ji,hn] at h; cases h);(·have:=hs.lt _ _ _ _ _ hb; simp at h; omega);exact absurd h (zV _ _ _ _ _ vw hb _ _ _ _)
 ·(rcases cl K with ⟨i,rfl⟩ | ⟨hK,vw⟩);(·rw [hA i v];refine pC.top i ?_ v;dsimp only at hk ⊢;(rcases bL i mem.length with h2 | h2);(·have:=hold i h2; omega);have h3:=pb i h2; omega);dsimp only at hk; omega
 ·(rcases cl K with ⟨i,rfl⟩ | ⟨hK,vw⟩);(·rw [hA i v];(have hi:i<bV.length:=by have h1:=(az.1 hk).1;(rcases bL i mem.length with h2 | h2);(·omega);have h3:=pb i h2;dsimp only at h1; omega);have iQ:=OP i _ (ak hi);rw [hk] at iQ;cases iQ;rw [Gr] at hv;exact pC.dV i _ (ak hi) v hv);rw [hB K v hK vw];dsimp only at hk;rw [ep K hK vw] at hk;exact hs.dV K B hk v hv
 have mixed:∀ i K' v v' g e1 c1 e2 c2,(∀ i,i<mem.length→σ i≠K')→E1.cI i v=some (g,e1,c1)→E.cI K' v'=some (g,e2,c2)→False:=fun i K' v v' g e1 c1 e2 c2 hK' h h'=>by (rcases iz.cI _ _ _ _ _ h with ⟨k0,v0,e0,c0,h0⟩ | h0);(·exact absurd h0 (zV _ _ _ _ _ hK' h' _ _ _ _));have:=hs.lt _ _ _ _ _ h'; omega
 rcases cl K with ⟨i,rfl⟩ | ⟨hK,Y2⟩ <;> rcases cl K' with ⟨j,rfl⟩ | ⟨hK',Jk⟩
 ·rw [hA] at h5 h6;rw [pC.apart _ _ _ _ _ _ _ _ _ h5 h6]
 ·rw [hA] at h5; rw [hB K' _ hK' Jk] at h6;exact (mixed _ _ _ _ _ _ _ _ _ Jk h5 h6).elim
 ·rw [hB K _ hK Y2] at h5; rw [hA] at h6;exact (mixed _ _ _ _ _ _ _ _ _ Y2 h6 h5).elim
 rw [hB K _ hK Y2] at h5; rw [hB K' _ hK' Jk] at h6;exact hs.apart _ _ _ _ _ _ _ _ _ h5 h6
end Go.Eng
end

section
namespace Go.Eng
variable [bg]
section
variable {P:Program} {ρ:Option Nat} {n0:Nat} {c:Code} {st:St} {Q:Exit→St→Prop}
end
end Go.Eng
end

section
namespace Go.Eng
variable [bg]
theorem As (mem:List bm) (keys:List (Nat×Nat)) (k:Nat) {cs:List V} (h:mem[k]?=some (.box cs)):(ck mem keys)[k]?=some (.box cs):=by
 rw [qk,h];have:∀ (ks:List (Nat×Nat)),oV ks k (some (.box cs))=some (.box cs):=fun ks=>by unfold oV; rfl
 exact this keys
section
variable {P:Program} {ρ:Option Nat} {n0:Nat} {Q:Exit→St→Prop} {c:Code} {st:St}
theorem dr.PC {E:Env} {w:World} {a:Act} (hs:dr E w a st) {k:Nat} {cs vs':List V} (hk:st.mem[k]?=some (.box cs)) (hp:gx st.mem cs=some vs') :
  ∃ E',dr E' w a { st with mem:=(ck st.mem (cs.flatMap fb)).set k (.box vs') }∧iC E w E' w:=by
 obtain⟨E',h1,h2,h3⟩:=hs.freeze hp;have hb:=As st.mem (cs.flatMap fb) k hk;refine⟨E',⟨h1.F,h1.lt,fun k' B hB=>?_,fun k' iQ=>h1.top k' (by simpa using iQ),fun k' B hB v hv=>?_,h1.apart,h1.fr⟩,h2⟩;·dsimp only at hB;rw [bK] at hB;split at hB;(·rename_i he; subst he;split at hB;(·cases hB;obtain⟨g,T,xs,q1,q2,q3,q4⟩:=hs.mem k _ hk;obtain⟨g',T',tY,p1,p2,p3,p4⟩:=h1.mem k _ hb;rw [h2.le.cI _ _ _ q1] at p1;cases p1;rw [q2] at p2;cases p2;exact⟨g,T,xs,h2.le.cI _ _ _ q1,q2,h3 _ q3,p4⟩);cases hB);exact h1.mem k' B hB
 dsimp only at hB;rw [bK] at hB;split at hB;·rename_i he; subst he;split at hB;(·cases hB;exact h1.dV k _ hb v hv);cases hB
 exact h1.dV k' B hB v hv
end
end Go.Eng
end

section
namespace Go.Eng
variable [bg]
section
variable {k_:Tk} {m:Bool} {P:Program} {ρ:Option Nat} {n0:Nat} {st:St} {Q:Exit→St→Prop} {n:Nat} {ws:List (Nat×V)} {mem:List bm} {c:Code}
theorem Y3 {st':St} (hw:∀ E w a,dr E w a st→∃ E',dr E' w a st'∧iC E w E' w) (h:X k_ m P ρ n0 c st' Q):X k_ m P ρ n0 c st Q:=by
 have key:∀ Q':Exit→St→Prop,eg P ρ n0 c st' Q'→eg P ρ n0 c st Q':=fun Q' h E0 w0 Pr E w a he hs hm=>by obtain⟨E',h3,h4⟩:=hw E w a hs;exact h E0 w0 Pr E' w a (he.trans h4) h3 (hm.Mf h4)
 cases m;·obtain⟨e,s2,hq,h2⟩:=h;exact⟨e,s2,hq,fun Q' h'=>key Q' (h2 Q' h')⟩
 exact key Q h
theorem acU {t:Nat} {v:V} (hn:t<n) (h:lk t ws=v):(W n ws)[t]?=some v:=by rw [vr,if_pos hn,h]
theorem Y4 (t v e:Nat) (hn:t<n) (h0:lk t ws = .sc (.slice none 0 0)) (h:X k_ m P ρ n0 c ⟨W n ((t,.ms mem.length v 0 0) :: ws),mem++[.rows v e []]⟩ Q):X k_ m P ρ n0 c ⟨W n ws,mem⟩ Q:=by rw [← K5] at h;exact Ed (st':=⟨(W n ws).set t (.ms mem.length v 0 0),mem++[.rows v e []]⟩) (fun E w a hs=>(hs.F4 (i:=t) mem.length v (acU hn h0)).vg v e) h
theorem Ei {cs:List V} (k j v e:Nat) (hk:mem[k]?=some (.box cs)) (hj:cs[j]?=some (.sc (.slice none 0 0))) (h:X k_ m P ρ n0 c ⟨W n ws,mem.set k (.box (cs.set j (.ms mem.length v 0 0)))++[.rows v e []]⟩ Q):X k_ m P ρ n0 c ⟨W n ws,mem⟩ Q :=
 Ed (st':=⟨W n ws,mem.set k (.box (cs.set j (.ms mem.length v 0 0)))++[.rows v e []]⟩) (fun E w a hs=>(hs.YK hk hj mem.length v).vg v e) h
theorem n4 {k:Nat} {cs vs':List V} (hk:mem[k]?=some (.box cs)) (hp:gx mem cs=some vs') (h:X k_ m P ρ n0 c ⟨W n ws,(ck mem (cs.flatMap fb)).set k (.box vs')⟩ Q):X k_ m P ρ n0 c ⟨W n ws,mem⟩ Q :=
 Y3 (fun _ _ _ hs=>dr.PC hs hk hp) h
theorem Le {k:Nat} {cs:List V} (t:Nat) (hn:t<n) (h0:lk t ws = .ptr k 0) (hk:mem[k]?=some (.box cs)) (hp:cs.all iH=true) (h:X k_ m P ρ n0 c ⟨W n ((t,.fa cs) :: ws),mem.set k .dead⟩ Q):X k_ m P ρ n0 c ⟨W n ws,mem⟩ Q:=by rw [← K5] at h;exact Y3 (fun _ _ _ hs=>dr.ue hs hk hp (acU hn h0)) h
end
end Go.Eng
end

section
namespace Go.Proofs.YtnboooapeopjoaaGreatDoor
open Go.Eng
set_option maxHeartbeats 4000000
set_option maxRecDepth 100000
attribute [go_sem] gb de gr me St.eval St.put kX lW DC cZ dY aN aY oJ Value.oneCell' if_true if_false dB ay aI apy ax au jv bh bu List.getD_cons_zero List.getD_cons_succ wV jy oN rv sB cP cR Nat.zero_mul Dp Tq fieldAt qN jR xJ yS gq e8 dk dx aqe bE kC bn aw true_and and_true and_self ji ry rowsOf gE cf Dv X0 X1 X2 X3 X4 X5 X6 X7 X8 X9 Ya Oa TE TF TG kD oc indexAt zv KC Dx wT Cp V.cells Fj Dt XA dn cA apx eL List.size_toArray List.getElem?_toArray beq_self_eq_true decide_true decide_false aZ aT pd rE ql nB kG iH Iv lL rowOf mD ne_eq not_true_eq_false not_false_eq_true nC nm u1 V.sc.injEq Value.bool.injEq qo kV apS fb jj aca acb TR TS TU KA tt3 tt4 tt5 tt9 ah3 ah4 ah5 ah6 ah7 ah8 ah9 aia aib aic aid aie aif aih aii aij aik ail aim ain aio acn aco acp acq acr acs acu acv acw acx acy acz Am List.toList_toArray List.append_eq Oi Oj Ix V0 qQ iv pL u6 xV oU qy lI K3 gu sL gT Pg YA Uf uh xe BV gx gP iI dC runM fH nV yH j2 u5 qY isHole iL FQ bm.dV uc YL vr K5 rT lk vt fX iw pk zk eW ck eU aM ba Ce aA aK aJ YN YO YP YQ Uk Ec niV Px YW zG eG Py YZ Y0 w6 oH acM acN acO acP acQ aiv aiw aix aiy aiz aiA aiB aiC aiD aiE aiF aiG aiH aiI PA MC PB ME MD nU kQ lM mI zS List.replicate ai
attribute [go_sem ↓] Jh MB YS MA YR YI YJ Un K8
attribute [go_sem] reduceIte Nat.reduceAdd Nat.reduceLT Nat.reduceLeDiff Nat.reduceMul Nat.reduceEqDiff Nat.reduceSub reduceCtorEq
end Go.Proofs.YtnboooapeopjoaaGreatDoor
end

section
namespace Go.Eng
variable [bg]
open Go.RowKit (Below)
theorem dr.below {E:Env} {w w':World} {a:Act} {st:St} (hs:dr E w a st) (hb:Below w.heap.size w w'):dr E w' a st∧iC E w E w':=by
 refine⟨⟨fun ad y hy=>?_,fun k v g e c h=>qL (hs.lt _ _ _ _ _ h) hb.size,fun k B hk=>?_,hs.top,hs.dV,hs.apart,hs.fr⟩, ⟨E.le_refl,fun k v g e c h=>.inl ⟨k,v,e,c,h⟩,fun _ _ h=>.inl h,hb.os,hb.tape,hb.output,hb.size,fun b ca _=>hb.block b ca⟩⟩;·rw [hb.cell (World.block_lt_of_cell? w ad (hs.F ad y hy))]; exact hs.F ad y hy
 exact (hs.mem k B hk).mono E.le_refl (fun _ h=>h) (fun g e c h=>hb.block _ (hs.lt _ _ _ _ _ h)) fun _ _ _ _ _ h=>h
end Go.Eng
end

section
namespace Go.Eng
variable [bg]
def n5 (ks:List Nat) (L j:Nat):Nat:=match ks[j]? with
 | some k=>k
 | none=>L+(j-ks.length)
theorem yj (σ:Nat→Nat):∀ (l:List bm) (i:Nat) (M:List bm),(∀ j B,l[j]?=some B→M[σ (i+j)]?=some (nG σ B))→lv σ i l M=M
 | [],_,_,_=>rfl
 | B :: r,i,M,h=>by
  have e:M.set (σ i) (nG σ B)=M:=by
   have h0:=h 0 B rfl
   rw [kC] at h0
   apply dy
   intro q
   rw [bK]
   split
   ·rename_i hq; subst hq
    rw [if_pos (az.1 h0).1,h0]
   rfl
  rw [lv,e]
  exact yj σ r (i+1) M fun j B hj=>by
   have:=h (j+1) B (by simpa using hj)
   rw [show i+1+j=i+(j+1) by omega]; exact this
theorem qA {M:List bm} {k:Nat} {B:bm} (h:M[k]?=some B):M.set k B=M:=by
 apply dy;intro q;rw [bK];split;·rename_i hq; subst hq;rw [if_pos (az.1 h).1,h]
 rfl
theorem At (σ:Nat→Nat) (B:bm):∀ (l:List bm) (i j0:Nat) (M:List bm),j0<l.length→(∀ a b,i≤a→a<i+l.length→i≤b→b<i+l.length→σ a=σ b→a=b) →
  (∀ j B,l[j]?=some B→M[σ (i+j)]?=some (nG σ B))→lv σ i (l.set j0 B) M=M.set (σ (i+j0)) (nG σ B)
 | [],_,_,_,h,_,_=>by simp at h
 | C :: r,i,0,M,_,xj,h=>by
  rw [bh,lv,kC]
  refine yj σ r (i+1) _ fun j D hj=>?_
  have ca:=(az.1 hj).1
  have h1:=h (j+1) D (by simpa using hj)
  rw [show i+1+j=i+(j+1) by omega,eY fun e=>by have:=xj i (i+(j+1)) (aw _) (by simp) (by omega) (by simp; omega) e; omega]
  exact h1
 | C :: r,i,j0+1,M,hl,xj,h=>by
  have h0:=h 0 C rfl
  rw [kC] at h0
  rw [bu,lv,qA h0,At σ B r (i+1) j0 M (by simpa using hl) (fun a b h1 h2 h3 h4 e=>xj a b (by omega) (by simp; omega) (by omega) (by simp; omega) e) (fun j D hj=>by
   have:=h (j+1) D (by simpa using hj)
   rw [show i+1+j=i+(j+1) by omega]; exact this),show i+1+j0=i+(j0+1) by omega]
theorem bz.keys {P:Program} {f:FuncId} {vs:List V} {r:V} {mem:List bm} {B:bm} {j0:Nat} (h:bz P f vs mem r (mem.set j0 B)) (M:List bm) (ks:List Nat) (hk:ks.length=mem.length) (mf:ks.Nodup) (hj:j0<mem.length)
  (hv:vs.all (aA mem.length)=true) (hm:mem.all (aJ mem.length)=true) (hB:aJ mem.length B=true) (hr:aA mem.length r=true)
  (hσ:∀ i B,mem[i]?=some B→M[n5 ks M.length i]?=some (nG (n5 ks M.length) B)) :
  bz P f (j9 (n5 ks M.length) vs) M (fR (n5 ks M.length) r) (M.set (n5 ks M.length j0) (nG (n5 ks M.length) B)):=by
 have xj:∀ i j,i<mem.length→j<mem.length→n5 ks M.length i=n5 ks M.length j→i=j:=fun i j hi hj e=>by unfold n5 at e;rw [ak (by omega),ak (by omega)] at e;exact (List.getElem_inj mf).1 e
 have Yh:(mem.set j0 B).all (aJ mem.length)=true:=by rw [a7] at hm ⊢;intro C hC;(rcases ap4 hC with h | rfl);(·exact hm C h);exact hB
 have h2:=h.jf M (n5 ks M.length) mem.length rfl hv hm (by rw [pB]; exact hr) (by rw [pB]; exact Yh) (by rw [pB]; exact aw _) hσ xj (fun j hj=>by unfold n5;rw [dQ (by omega)];dsimp only;rw [hk])
 have e:xh (n5 ks M.length) mem.length (mem.set j0 B) M=M.set (n5 ks M.length j0) (nG (n5 ks M.length) B):=by
  unfold xh
  rw [aX (by rw [pB]; exact aw _),eI (by rw [pB]; exact aw _),cP,jv,
   At (n5 ks M.length) B mem 0 j0 M hj (fun a b _ h2 _ h4 e=>xj a b (by omega) (by omega) e) (fun j D hD=>by rw [bE]; exact hσ j D hD),bE]
 rw [e] at h2;exact h2
theorem PD {E:Env} {v:V} {x:Value} (h:dh E v x):dh E (Iv v) x:=by cases v with | agg cs =>(cases h with | agg _ _ xs hl h' =>refine dh.agg _ _ _ (by rw [ab]; exact hl) fun i c y hc hy=>?_;rw [ae] at hc;cases hi:cs[i]? with | none=>rw [hi] at hc; cases hc | some c0 =>rw [hi] at hc;cases hc;exact pJ (h' i c0 y hi hy)) | _=>exact pJ h
theorem bz.row {P:Program} {f:FuncId} {vs:List V} {r:V} {mem bV:List bm} (h:bz P f vs mem r bV):bz P f vs mem (Iv r) bV :=
 ⟨h.1,fun E w xs hs hx=>(h.2 E w xs hs hx).mono fun e w' ⟨E',x,h1,h2,h3,h4⟩=>⟨E',x,h1,h2,h3,PD h4⟩⟩
end Go.Eng
end

section
namespace Go.Eng
variable [bg]
theorem dr.kI {E:Env} {w:World} {a:Act} {st:St} (hs:dr E w a st) {k j:Nat} {cs:List V} {v0 v':V} (hk:st.mem[k]?=some (.box cs)) (hj:cs[j]?=some v0) (hp:gP st.mem v0=some v') :
  ∃ E',dr E' w a { st with mem:=(ck st.mem (fb v0)).set k (.box (cs.set j v')) }∧iC E w E' w:=by
 obtain⟨E',h1,h2,h3⟩:=hs.freeze (vs:=[v0]) (vs':=[v']) (by simp [gx,hp]);have hr:[v0].flatMap fb=fb v0:=by simp
 rw [hr] at h1;have hb:=As st.mem (fb v0) k hk;refine⟨E',⟨h1.F,h1.lt,fun k' B hB=>?_,fun k' iQ=>h1.top k' (by simpa using iQ),fun k' B hB v hv=>?_,h1.apart,h1.fr⟩,h2⟩;·dsimp only at hB;rw [bK] at hB;split at hB;(·rename_i he; subst he;split at hB;(·cases hB;obtain⟨g,T,xs,q1,q2,q3,q4⟩:=hs.mem k _ hk;obtain⟨g',T',tY,p1,p2,p3,p4⟩:=h1.mem k _ hb;rw [h2.le.cI _ _ _ q1] at p1;cases p1;rw [q2] at p2;cases p2;obtain⟨x,hx,hrx⟩:=q3.get hj;obtain⟨y,ys,hy,OV,-⟩:=(h3 (xs:=[x]) (.cons hrx (.nil _))).of_cons;cases hy;have z1:=cY.set (n:=j) p3 OV;have e:xs.toList.set j x=xs.toList:=oj hx;rw [e] at z1;exact⟨g,T,xs,h2.le.cI _ _ _ q1,q2,z1,p4⟩);cases hB);exact h1.mem k' B hB
 dsimp only at hB;rw [bK] at hB;split at hB;·rename_i he; subst he;split at hB;(·cases hB;exact h1.dV k _ hb v hv);cases hB
 exact h1.dV k' B hB v hv
section
variable {k_:Tk} {m:Bool} {P:Program} {ρ:Option Nat} {n0:Nat} {Q:Exit→St→Prop} {n:Nat} {ws:List (Nat×V)} {mem:List bm} {c:Code}
theorem Au {k:Nat} {cs:List V} {v0 v':V} (j:Nat) (hk:mem[k]?=some (.box cs)) (hj:cs[j]?=some v0) (hp:gP mem v0=some v') (h:X k_ m P ρ n0 c ⟨W n ws,(ck mem (fb v0)).set k (.box (cs.set j v'))⟩ Q):X k_ m P ρ n0 c ⟨W n ws,mem⟩ Q :=
 Y3 (fun _ _ _ hs=>dr.kI hs hk hj hp) h
end
end Go.Eng
end

section
namespace Go.Eng
variable [bg]
def yp:List (FuncId×List V×V)→FuncId→List V→Option V
 | [],_,_=>none
 | e :: t,f,vs=>if e.1=f then (if kj e.2.1 vs=true then some e.2.2 else yp t f vs) else yp t f vs
theorem bH {P:Program}:pU P (yp []):=fun f vs r h=>by cases h
theorem bM {P:Program} {f:FuncId} {vs:List V} {r:V} {t:List (FuncId×List V×V)} (h:bR P f vs r) (ht:pU P (yp t)):pU P (yp ((f,vs,r) :: t)):=fun g ws s hs=>by
 unfold yp at hs;dsimp only at hs;split at hs;·rename_i hf;split at hs;(·rename_i hv;cases hs;rw [← hf,← ic hv]; exact h);exact ht g ws s hs
 exact ht g ws s hs
def Av:List (FuncId×List V×List bm×List (V×List bm))→lG
 | [],_,_,_=>none
 | e :: t,f,vs,mem=>if e.1=f then (if kj e.2.1 vs=true then (if rP e.2.2.1 mem=true then some e.2.2.2 else Av t f vs mem) else Av t f vs mem) else Av t f vs mem
theorem dP {P:Program}:ki P (Av []):=fun f vs mem outs h=>by cases h
theorem c7 {P:Program} {f:FuncId} {vs:List V} {mem:List bm} {outs:List (V×List bm)} {t:List (FuncId×List V×List bm×List (V×List bm))} (h:eB P f vs mem fun r m=>(r,m)∈outs) (ht:ki P (Av t)):ki P (Av ((f,vs,mem,outs) :: t)):=fun g ws m o hs=>by
 unfold Av at hs;dsimp only at hs;split at hs;·rename_i hf;split at hs;(·rename_i hv;split at hs;(·rename_i hm;cases hs;rw [← hf,← ic hv,← sJ hm]; exact h);exact ht g ws m o hs);exact ht g ws m o hs
 exact ht g ws m o hs
end Go.Eng
end

section
namespace Go.Eng
variable [bg]
def acV (n k:Nat) (cs:List V) (j:Nat):Option (Nat×Nat):=match cs[j]? with
 | some (V.ms b _ _ _)=>if n≤b then some (k,j) else none
 | _=>none
def acW (n:Nat) (m:List bm) (k:Nat):List (Nat×Nat):=match m[k]? with
 | some (bm.box cs)=>(List.range cs.length).filterMap (acV n k cs)
 | _=>[]
def PE (n:Nat) (m:List bm):List (Nat×Nat):=(List.range n).flatMap (acW n m)
def PF (m:List bm) (p:Nat×Nat):Option (List bm):=match m[p.1]? with
 | some (.box cs)=>match cs[p.2]? with
  | some v0=>match gP m v0 with
   | some v'=>some ((ck m (fb v0)).set p.1 (.box (cs.set p.2 v')))
   | none=>none
  | none=>none
 | _=>none
def Ej:List (Nat×Nat)→List bm→Option (List bm)
 | [],m=>some m
 | p :: r,m=>match PF m p with
  | some m'=>Ej r m'
  | none=>none
theorem PG {E:Env} {w:World} {a:Act} {fr:List V} {m m':List bm} {p:Nat×Nat} (h:PF m p=some m') (hs:dr E w a { fr:=fr,mem:=m }):∃ E',dr E' w a { fr:=fr,mem:=m' }∧iC E w E' w:=by
 unfold PF at h;split at h;·rename_i cs hk;split at h;(·rename_i v0 hj;split at h;(·rename_i v' hp;cases h;exact hs.kI hk hj hp);cases h);cases h
 cases h
theorem CT {w:World} {a:Act} {fr:List V}:∀ {l:List (Nat×Nat)} {m m':List bm} {E:Env},Ej l m=some m'→dr E w a { fr:=fr,mem:=m }→∃ E',dr E' w a { fr:=fr,mem:=m' }∧iC E w E' w
 | [],m,m',E,h,hs=>by cases h; exact⟨E,hs,iC.refl _ _⟩
 | p :: r,m,m',E,h,hs=>by
  unfold Ej at h
  split at h
  ·rename_i m1 h1
   obtain⟨E1,s1,v1⟩:=PG h1 hs
   obtain⟨E2,s2,v2⟩:=CT h s1
   exact⟨E2,s2,v1.trans v2⟩
  cases h
def PH:V→List V
 | .eV vs=>vs
 | v=>[v]
def acX:V→List V→Option V
 | .eV _,l=>some (.eV l)
 | _,[v]=>some v
 | _,_=>none
theorem acY {E E':Env} {v v':V} {x:Value} {l:List V} (h:dh E v x) (hl:∀ xs,cY E (PH v) xs→cY E' l xs) (hm:acX v l=some v'):dh E' v' x:=by cases v with | eV vs =>(cases hm;cases h with | eV _ _ xs hlen hh =>have:=hl xs.toList ⟨by simpa [PH] using hlen,fun i c x hc hx=>hh i c x hc (by simpa using hx)⟩;exact .eV _ _ _ (by simpa using this.1) fun i c x hc hx=>this.2 i c x hc (by simpa using hx)) | _ =>cases l with | nil=>cases hm | cons u r =>cases r with | nil =>cases hm;obtain⟨y,ys,hy,OV,-⟩:=(hl [x] (.cons h (.nil _))).of_cons;cases hy; exact OV | cons _ _=>cases hm
def Y5 (n:Nat) (p:V×List bm):Option (V×List bm):=match Ej (PE n p.2) p.2 with
 | some m1=>match gx m1 (PH p.1) with
  | some l=>match acX p.1 l with
   | some v=>if aA n v=true∧((ck m1 ((PH p.1).flatMap fb)).take n).all (aJ n)=true then some (v,(ck m1 ((PH p.1).flatMap fb)).take n) else none
   | none=>none
  | none=>none
 | none=>none
def Aw (n:Nat):List (V×List bm)→Option (List (V×List bm))
 | []=>some []
 | p :: r=>match Y5 n p with
  | some q=>match Aw n r with
   | some s=>some (q :: s)
   | none=>none
  | none=>none
theorem Ax {n:Nat}:∀ {l l':List (V×List bm)},Aw n l=some l'→∀ p∈l,∃ q∈l',Y5 n p=some q
 | [],_,_,p,h=>by cases h
 | a :: r,l',h,p,hp=>by
  unfold Aw at h
  split at h
  ·rename_i q hq
   split at h
   ·rename_i s hs
    cases h
    rcases cb.1 hp with rfl | hp
    ·exact⟨q,b9 ..,hq⟩
    obtain⟨q',h1,h2⟩:=Ax hs p hp
    exact⟨q',bP _ h1,h2⟩
   cases h
  cases h
theorem eB.Ak {P:Program} {f:FuncId} {vs:List V} {mem:List bm} {R R':V→List bm→Prop} (h:eB P f vs mem R)
  (step:∀ r m,R r m→∃ v' m2,R' v' (m2.take mem.length)∧aA mem.length v'=true∧(m2.take mem.length).all (aJ mem.length)=true ∧
   ∀ (E:Env) (w:World) (x:Value),dr E w { tmps := #[],defers:=[] } { fr:=[],mem:=m }→dh E r x→∃ E2,dr E2 w { tmps := #[],defers:=[] } { fr:=[],mem:=m2 }∧iC E w E2 w∧dh E2 v' x):eB P f vs mem R':=by
 refine⟨h.1,fun E w xs hs hx=>(h.2 E w xs hs hx).mono ?_⟩;rintro e w' ⟨E',x,r,m,rfl,hR,iz,pC,ni⟩;obtain⟨v',m2,hR',hv,hm,st⟩:=step r m hR;obtain⟨E2,s2,Yp,OV⟩:=st E' w' x pC ni;have he:=iz.trans Yp;have hc:=s2.cut (n:=mem.length) rfl hm;refine⟨E2.cut mem.length,x,v',m2.take mem.length,rfl,hR',⟨⟨he.le.F,fun k v t hk=>?_⟩,fun k v g e c hk=>?_,he.F,he.os,he.tape,he.output,he.size,he.heap⟩,hc,jH OV hv⟩;·(have:k<mem.length:=by (rcases bL k mem.length with ca | ig);(·exact ca);rw [hs.top k ig v] at hk; cases hk);exact (if_pos this).trans (he.le.cI _ _ _ hk)
 have:E2.cI k v=some (g,e,c):=by by_cases lZ:k<mem.length;(·exact ((if_pos lZ).symm.trans hk:E2.cI k v=_));have h2:(E2.cut mem.length).cI k v=none:=if_neg lZ;rw [h2] at hk; cases hk
 exact he.cI _ _ _ _ _ this
theorem eB.zS {P:Program} {f:FuncId} {vs:List V} {mem:List bm} {l l':List (V×List bm)} (h:eB P f vs mem fun r m=>(r,m)∈l) (hp:Aw mem.length l=some l'):eB P f vs mem fun r m=>(r,m)∈dedup l':=by
 refine h.Ak fun r m hR=>?_;obtain⟨q,hq,ht⟩:=Ax hp _ hR;unfold Y5 at ht;dsimp only at ht;split at ht;·rename_i m1 h1;split at ht;(·rename_i l hl;split at ht;(·rename_i v hv;split at ht;(·rename_i hc;cases ht;refine⟨v,_,sK hq,hc.1,hc.2,fun E w x hs ni=>?_⟩;obtain⟨E1,s1,ev1⟩:=CT h1 hs;obtain⟨E2,s2,Yp,r2⟩:=s1.freeze hl;exact⟨E2,s2,ev1.trans Yp,acY (ni.mono ev1.le) r2 hv⟩);cases ht);cases ht);cases ht
 cases ht
def PI (n:Nat) (x:Option (List (V×List bm))):Option (List (V×List bm)):=match x with
 | some l=>match Aw n l with
  | some l'=>some (dedup l')
  | none=>none
 | none=>none
theorem eB.PI {P:Program} {f:FuncId} {vs:List V} {mem:List bm} {x:Option (List (V×List bm))} (h:∀ l,x=some l→eB P f vs mem fun r m=>(r,m)∈l) {o:List (V×List bm)} (hp:Go.Eng.PI mem.length x=some o):eB P f vs mem fun r m=>(r,m)∈o:=by
 unfold Go.Eng.PI at hp;split at hp;·rename_i l;split at hp;(·rename_i l' hl';cases hp;exact (h l rfl).zS hl');cases hp
 cases hp
end Go.Eng
end
