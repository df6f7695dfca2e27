import Derived.Test.YtfbbfmcggbapoaaGreatDoorE6
import Derived.Lib.AppendStr
import Derived.Lib.UnsafeStr
open Array renaming getElem?_modify->avE,getElem?_toList->dV,length_toList->gD,toArray_toList->cJ
open Bool renaming and_eq_true->aG,and_self->o8,and_true->aJ,false_eq_true->bw,not_false->aK,not_true->aR,true_and->aL
open Int renaming natCast_nonneg->gV,toNat_natCast->gx
open List renaming all_cons->cI,all_eq_true->ba,all_nil->ew,append_assoc->ay,append_nil->ai,cons_append->al,drop_succ_cons->aa0,drop_zero->ze,ext_getElem?->eh,find?_eq_none->awB,flatMap_cons->ag,flatMap_nil->aj,foldl_cons->kZ,foldl_nil->avH,getD_eq_getElem?_getD->eY,getElem?_append->po,getElem?_append_left->bz,getElem?_append_right->bm,getElem?_cons_succ->cu,getElem?_cons_zero->aI,getElem?_drop->av9,getElem?_eq_getElem->bf,getElem?_eq_none->ep,getElem?_eq_some_iff->az,getElem?_map->ae,getElem?_range->awe,getElem?_set->cf,getElem?_set_ne->cT,getElem?_set_self->fi,getElem?_take->gU,getElem?_take_of_lt->hH,getElem?_toArray->awL,length_append->ab,length_cons->af,length_drop->eL,length_map->aC,length_nil->ah,length_take->eK,map_append->fa,map_cons->bo,map_nil->dR,mem_cons->dp,mem_map->dS,mem_of_getElem?->aw,mem_range->api,nil_append->aq,not_mem_nil->ja,range'_succ->avI,range_eq_range'->avJ,set_cons_succ->ni,set_cons_zero->kP,set_set->aug,take_append_drop->ji,take_length->aE,take_succ_cons->AH,take_zero->dF
open Nat renaming add_sub_cancel_left->eC,add_zero->fI,le_refl->aA,lt_irrefl->aq6,lt_of_lt_of_le->rV,lt_or_ge->bn,mul_one->sE,sub_self->dW,sub_zero->auf,zero_add->dc,zero_le->aY
open Option renaming bind_some->av7,map_eq_some_iff->bp,map_none->av3,map_some->bU
open Option.some renaming injEq->aD
set_option linter.all false
section
namespace Go.Eng
variable [bJ]
section
variable {P:g7} {tt:Table} {ρ:Option Nat} {n0:Nat} {st:St} {Q:Exit->St->Prop}
def Xd (P:g7) (f:FuncId) (vs:List V) (st:St) (dst:Option Tmp) (Q:St->Prop):Prop :=
 ∃ R,jY P f vs st.mem R/\∀ v m',R v m'->Q ({ st with mem:=m' }.put dst v)
def ace (P:g7) (f:FuncId) (vs:List V) (st:St) (dst:Option Tmp) (Q:St->Prop):Prop:=Nw P f vs st dst Q\/Xd P f vs st dst Q
def acf (P:g7) (tt:Table) (key:Nat) (o:Oper) (st:St) (Q:St->Prop):Prop :=
 match o.op with
 | .call c=>match c.callee with
  | .value f=>match du (st.eval f) (c.args.toList.map st.eval) with
   | some (g,vs)=>ace P g vs st o.dst Q
   | none=>False
  | .builtin .append=>match c.args.toList.map st.eval with
   | [s,x]=>match fC tt st.mem c.argTypes.toList s x with
    | some (size,sO,rows)=>Q ({ st with mem:=(eU st.mem key size rows sO).1 }.put o.dst (eU st.mem key size rows sO).2)
    | none=>zy tt st c.argTypes.toList s x o.dst Q
   | _=>False
  | _=>lX P tt key o st Q
 | _=>lX P tt key o st Q
def SD (P:g7) (tt:Table) (gl:List (Nat×Nat)) (all:Array Oper):List Oper->St->(St->Prop)->Prop
 | [],st,Q=>Q st
 | o :: r,st,Q=>match uv gl all st.fr o with
  | some true=>acf P tt st.mem.length o st fun st'=>SD P tt gl all r st' Q
  | some false=>SD P tt gl all r (st.put o.dst (.sc undef)) Q
  | none=>False
theorem LJ {ts:List g9} {s x:V} {dst:Option Tmp} {A B:St->Prop} (h:zy tt st ts s x dst A) (yl:∀ s,A s->B s):zy tt st ts s x dst B:=by
 unfold zy at h ⊢;split at h;·exact fun o nC h1 h2=>yl _ (h o nC h1 h2)
 exact h
attribute [irreducible] SD
end
end Go.Eng
end
section
namespace Go.Eng
variable [bJ]
inductive Tk where
 | a
 | b
def tk:Tk:=.b
theorem agJ {α:Type} {a b:α} (h:a=b):a=b:=h
theorem l8 {a b:Prop} (h:a=b):a=b:=h
def bq {α:Type} (_:Tk) (o:Option α) (K:α->Prop):Prop:=match o with
 | some v=>K v
 | none=>False
theorem acg {α:Type} {k:Tk} {o:Option α} {K:α->Prop}:bq k o K=match o with|some v=>K v|none=>False:=l8 rfl
theorem lO {α:Type} {k:Tk} {o:Option α} {K:α->Prop}:bq k o K↔∃ v,o=some v/\K v:=by cases o with|none=>exact⟨fun h=>h.elim,fun ⟨_,h,_⟩=>by cases h⟩|some v=>exact⟨fun h=>⟨v,rfl,h⟩,fun ⟨_,e,h⟩=>by cases e;exact h⟩
def nq {α:Type} (_:Tk) (o:Option α) (A:α->Prop) (B:Prop):Prop:=match o with
 | some v=>A v
 | none=>B
theorem ach {α:Type} {k:Tk} {o:Option α} {A:α->Prop} {B:Prop}:nq k o A B=match o with|some v=>A v|none=>B:=l8 rfl
theorem xn {α:Type} {k:Tk} {v:α} {A:α->Prop} {B:Prop}:nq k (some v) A B=A v:=rfl
theorem xp {α:Type} {k:Tk} {A:α->Prop} {B:Prop}:nq k none A B=B:=rfl
section
variable {m:Bool} {P:g7} {tt:Table} {st:St} {Q:St->Prop}
def tq (_:Tk) (m:Bool) (P:g7) (f:FuncId) (vs:List V) (o:Option (List V)) (keys:List (Nat×Nat)) (st:St) (dst:Option Tmp) (Q:St->Prop):Prop :=
 (∃ vs' r,o=some vs'/\dz P f vs' r/\Q ({ st with mem:=iP st.mem keys r }.put dst r)) \/
 (∃ r b7,bK P f vs st.mem r b7/\Q ({ st with mem:=b7 }.put dst r)) \/
 (m=true/\∃ R,jY P f vs st.mem R/\∀ r b7,R r b7->Q ({ st with mem:=b7 }.put dst r)) \/
 (∃ r,sS P f vs r/\Q (st.put dst r))
def agK (_:Tk) (m:Bool) (P:g7) (k:Nat) (vs:List V) (st:St) (dst:Option Tmp) (Q:St->Prop):Prop :=
 (∃ b b7,KJ P k vs st.mem b b7/\Q ({ st with mem:=b7 }.put dst (.sc (.bool b)))) \/
 (m=true/\∃ R,Pe P k vs st.mem R/\∀ b b7,R b b7->Q ({ st with mem:=b7 }.put dst (.sc (.bool b))))
def apV (_:Tk) (m:Bool) (r:Option (Nat×Nat×Nat×Nat×List V×List V)) (st:St) (dst:Option Tmp) (Q:St->Prop):Prop:=m=true/\match r with
 | some (size,b,v,l,rs,xs)=>∀ (o:Nat) (nC:List V),nC.drop o=rs++xs->o+(l+xs.length)=nC.length->Q ({ st with mem:=st.mem.set b (.rows (v+1) size nC) }.put dst (.ms b (v+1) o (l+xs.length)))
 | none=>False
def nxV (_:Tk) (m:Bool) (st:St) (dst:Option Tmp) (it:V) (str:Bool) (Q:St->Prop):Prop:=m=true/\wM st dst it str Q
def niV (_:Tk) (m:Bool) (n:Nat) (op:BinOp) (st:St) (dst:Option Tmp) (Q:St->Prop):Prop :=
 m=true/\∀ b:Bool,(n≠0->b=false)->Q (st.put dst (.sc (.bool (rl op b))))
def Xe (tt:Table) (T:g9) (len:Nat) (parts:List (Nat×Operand)) (st:St) (key:Nat):Option (List bx) :=
 match yv tt T len parts st.eval with
 | some (size,rs)=>some (dw st.mem key (.rows 0 size rs))
 | none=>match Wq tt T len parts st with
  | some (size,rs)=>some (dw (iA st.mem (F1 st.eval parts)) key (.rows 0 size rs))
  | none=>none
def Gs (tt:Table) (mem:List bx) (T:g9) (p x:V):Option (List bx) :=
 match nU tt mem T p x with
 | some m=>some m
 | none=>F2 tt mem T p x
def oR (m:Bool) (P:g7) (tt:Table) (key:Nat) (o:Oper) (st:St) (Q:St->Prop):Prop :=
 match o.op with
 | .alloc T=>bq tk (tt T) fun i=>Q ({ st with mem:=dw st.mem key (.box (i.zero.map V.sc)) }.put o.dst (.ptr key 0))
 | .box _ x=>bq tk (mr (st.eval x)) fun cs=>Q ({ st with mem:=dw st.mem key (.box cs) }.put o.dst (.ptr key 0))
 | .build T parts=>bq tk (nW P tt T parts.toList st.eval) fun v=>Q (st.put o.dst v)
 | .buildSlice T len parts=>bq tk (Xe tt T len parts.toList st key) fun mem=>Q ({ st with mem:=mem }.put o.dst (.ms key 0 0 len))
 | .store T p x=>bq tk (Gs tt st.mem T (st.eval p) (st.eval x)) fun mem=>Q ({ st with mem:=mem }.put o.dst (.sc undef))
 | .call { callee:=.builtin .append,args:=xs,argTypes:=ts }=>match xs.toList.map st.eval with
  | [s,x]=>nq tk (fC tt st.mem ts.toList s x) (fun p=>Q ({ st with mem:=(eU st.mem key p.1 p.2.2 p.2.1).1 }.put o.dst (eU st.mem key p.1 p.2.2 p.2.1).2)) (apV tk m (pI tt st.mem ts.toList s x) st o.dst Q)
  | _=>False
 | .call { callee:=.value f,args:=xs,.. }=>match st.eval f with
  | .kx k=>agK tk m P k (xs.toList.map st.eval) st o.dst Q
  | fv=>bq tk (du fv (xs.toList.map st.eval)) fun p=>tq tk m P p.1 p.2 (jj st.mem p.2) (p.2.flatMap iz) st o.dst Q
 | .makeSlice T l c=>bq tk (zv tt T (st.eval l) (st.eval c)) fun p=>Q ({ st with mem:=dw st.mem key (.rows 0 p.1 p.2.1) }.put o.dst (.ms key 0 0 p.2.1.length))
 | .makeMap _ none=>Q ({ st with mem:=dw st.mem key (.map [] 0) }.put o.dst (.mp key))
 | .mapUpdate T d k x=>bq tk (ee P st.mem T (st.eval d) (st.eval k) (st.eval x)) fun mem=>Q ({ st with mem:=mem }.put o.dst (.sc undef))
 | .insert T d k x=>bq tk (ee P st.mem T (st.eval d) (st.eval k) (st.eval x)) fun mem=>Q ({ st with mem:=mem }.put o.dst (.sc undef))
 | .mapEntry T d k=>bq tk (yw P st.mem T (st.eval d) (st.eval k)) fun p=>Q ({ st with mem:=p.1 }.put o.dst p.2)
 | .entryStore _ d s x=>bq tk (yx st.mem (st.eval d) (st.eval s) (st.eval x)) fun mem=>Q ({ st with mem:=mem }.put o.dst (.sc undef))
 | .call { callee:=.builtin .delete,args:=xs,argTypes:=ts }=>bq tk (ui P st.mem ts (xs.toList.map st.eval)) fun mem=>Q ({ st with mem:=mem }.put o.dst (.sc (.tuple #[])))
 | .range T x=>bq tk (qA P st.mem T (st.eval x)) fun B=>Q ({ st with mem:=dw st.mem key B }.put o.dst (.ptr key 0))
 | .next it str=>nxV tk m st o.dst (st.eval it) str Q
 | .binOp op T x y _=>nq tk (qf tt op T (st.eval x) (st.eval y)) (fun n=>niV tk m n op st o.dst Q) (bq tk (lM P tt st o) fun v=>Q (st.put o.dst v))
 | _=>bq tk (lM P tt st o) fun v=>Q (st.put o.dst v)
theorem uw {α:Type} {k:Tk} {o:Option α} {A B:α->Prop} (h:bq k o A) (yl:∀ v,A v->B v):bq k o B:=by cases o with|none=>exact h|some v=>exact yl v h
theorem LK {dst:Option Tmp} {it:V} {str:Bool} {A B:St->Prop} (h:wM st dst it str A) (yl:∀ s,A s->B s):wM st dst it str B:=by
 unfold wM at h ⊢;split at h;·split at h;(·split at h;(·exact⟨h.1,h.2.1,fun e=>yl _ (h.2.2.1 e),fun e he=>yl _ (h.2.2.2 e he)⟩);exact h);(·refine⟨h.1,?_⟩;have:=h.2;split at this;(·rename_i hp;rw [gH hp];exact yl _ this);rename_i hp;rw [g5 hp];exact yl _ this);(·exact⟨h.1,yl _ h.2⟩);exact h
 exact h
theorem LL {key:Nat} {o:Oper} {A B:St->Prop} (h:oR m P tt key o st A) (yl:∀ s,A s->B s):oR m P tt key o st B:=by
 have app:∀ {ts:List g9} {s x:V},nq tk (fC tt st.mem ts s x) (fun p=>A ({ st with mem:=(eU st.mem key p.1 p.2.2 p.2.1).1 }.put o.dst (eU st.mem key p.1 p.2.2 p.2.1).2)) (apV tk m (pI tt st.mem ts s x) st o.dst A) ->
   nq tk (fC tt st.mem ts s x) (fun p=>B ({ st with mem:=(eU st.mem key p.1 p.2.2 p.2.1).1 }.put o.dst (eU st.mem key p.1 p.2.2 p.2.1).2)) (apV tk m (pI tt st.mem ts s x) st o.dst B):=fun {ts s x} h=>by
  cases ha:fC tt st.mem ts s x with
  | some p=>rw [ha,xn] at h;exact yl _ h
  | none=>rw [ha,xp] at h;exact⟨h.1,LJ (show zy tt st ts s x o.dst A from h.2) yl⟩
 have cv:∀ {f:FuncId} {vs:List V} {p:Option (List V)} {keys:List (Nat×Nat)},tq tk m P f vs p keys st o.dst A->tq tk m P f vs p keys st o.dst B:=fun h=>by (rcases h with ⟨vs',r,h1,h2,h3⟩|⟨r,m',h1,h2⟩|⟨hm,R,h1,h2⟩|⟨r,h1,h2⟩);(·exact .inl ⟨vs',r,h1,h2,yl _ h3⟩);(·exact .inr (.inl ⟨r,m',h1,yl _ h2⟩));(·exact .inr (.inr (.inl ⟨hm,R,h1,fun r m' h=>yl _ (h2 r m' h)⟩)));exact .inr (.inr (.inr ⟨r,h1,yl _ h2⟩))
 obtain⟨dst,op,type,pos,after,guard⟩:=o;cases op
 case call c =>
  obtain⟨callee,args,ats⟩:=c
  cases callee
  case value f =>
   simp only [oR] at h ⊢
   split at h
   ·rcases h with ⟨b,m',h1,h2⟩|⟨hm,R,h1,h2⟩
    ·exact .inl ⟨b,m',h1,yl _ h2⟩
    exact .inr ⟨hm,R,h1,fun b m' h=>yl _ (h2 b m' h)⟩
   exact uw h fun v hv=>cv hv
  case builtin b =>
   cases b
   case append =>
    simp only [oR] at h ⊢
    split at h
    ·exact app h
    exact h
   all_goals (simp only [oR] at h ⊢;exact uw h fun v hv=>yl _ hv)
  all_goals (simp only [oR] at h ⊢;exact uw h fun v hv=>yl _ hv)
 case makeMap T l =>
  cases l with
  | none=>exact yl _ h
  | some l=>simp only [oR] at h ⊢;exact uw h fun v hv=>yl _ hv
 case next it str=>exact⟨h.1,LK h.2 yl⟩
 case binOp op T x y yt =>
  simp only [oR] at h ⊢
  cases hn:qf tt op T (st.eval x) (st.eval y) with
  | some n =>
   rw [hn,xn] at h
   exact⟨h.1,fun b hb=>yl _ (h.2 b hb)⟩
  | none=>rw [hn,xp] at h;exact uw h fun v hv=>yl _ hv
 all_goals (simp only [oR] at h ⊢;exact uw h fun v hv=>yl _ hv)
def ZA (m:Bool) (P:g7) (tt:Table) (key:Nat) (o:Oper) (st:St) (Q:St->Prop):Prop:=match m with
 | true=>dv P tt key o st Q
 | false=>∃ s,Q s/\∀ K:St->Prop,K s->dv P tt key o st K
theorem kX {key:Nat} {o:Oper} (s:St) (h:Q s) (hk:∀ K:St->Prop,K s->dv P tt key o st K):ZA m P tt key o st Q:=by
 cases m;·exact⟨s,h,hk⟩
 exact hk Q h
theorem SE {f:FuncId} {vs:List V} {dst:Option Tmp} {k:Tk} (h:tq k m P f vs (jj st.mem vs) (vs.flatMap iz) st dst Q):(m=true/\zw P f vs st dst Q)\/∃ s,Q s/\∀ K:St->Prop,K s->zw P f vs st dst K:=by
 rcases h with ⟨vs',r,h1,h2,h3⟩|⟨r,m',h1,h2⟩|⟨hm,R,h1,h2⟩|⟨r,h1,h2⟩
 ·exact .inr ⟨_,h3,fun K hK=>.inl ⟨vs',r,h1,h2,hK⟩⟩
 ·exact .inr ⟨_,h2,fun K hK=>.inr (.inl ⟨r,m',h1,hK⟩)⟩
 ·exact .inl ⟨hm,.inr (.inr (.inl ⟨R,h1,h2⟩))⟩
 exact .inr ⟨_,h2,fun K hK=>.inr (.inr (.inr ⟨r,h1,hK⟩))⟩
theorem SG {key:Nat} {o:Oper} (h:oR m P tt key o st Q):ZA m P tt key o st Q:=by
 unfold oR at h;split at h;all_goals try (rename_i ko;simp only [lO] at h;obtain⟨v,h1,h2⟩:=h;refine kX _ h2 fun K hK=>?_;unfold dv;rw [ko];dsimp only;rw [h1];exact hK)
 ·rename_i ko;simp only [lO] at h;obtain⟨mem,h1,h2⟩:=h;refine kX _ h2 fun K hK=>?_;unfold dv;rw [ko];dsimp only;unfold Xe at h1;split at h1;(·rename_i hl;cases h1;rw [hl];exact hK);rename_i hl;rw [hl];split at h1;(·rename_i hl;cases h1;dsimp only;rw [hl];exact hK);cases h1
 ·rename_i ko;simp only [lO] at h;obtain⟨mem,h1,h2⟩:=h;refine kX _ h2 fun K hK=>?_;unfold dv;rw [ko];dsimp only;unfold Gs at h1;split at h1;(·rename_i hl;cases h1;rw [hl];exact hK);rename_i hl;rw [hl];dsimp only;rw [h1];exact hK
 ·rename_i ko;split at h;(·rename_i s x Ws;cases ha:fC tt st.mem _ s x with|some p =>rw [ha,xn] at h;refine kX _ h fun K hK=>?_;unfold dv;rw [ko];dsimp only;rw [Ws];dsimp only;rw [ha];exact hK|none =>rw [ha,xp] at h;obtain⟨rfl,h⟩:=h;show dv P tt key o st Q;unfold dv;rw [ko];dsimp only;rw [Ws];dsimp only;rw [ha];exact h);exact h.elim
 ·rename_i ko;split at h;(·rename_i k hk;(rcases h with ⟨b,m',h1,h2⟩|⟨rfl,R,h1,h2⟩);(·refine kX _ h2 fun K hK=>?_;unfold dv;rw [ko];dsimp only;rw [hk];exact .inl ⟨b,m',h1,hK⟩);show dv P tt key o st Q;unfold dv;rw [ko];dsimp only;rw [hk];exact .inr ⟨R,h1,h2⟩);rename_i hk;simp only [lO] at h;obtain⟨⟨g,vs⟩,h1,h2⟩:=h;(have agL:∀ K:St->Prop,zw P g vs st o.dst K->dv P tt key o st K:=fun K hK=>by unfold dv;rw [ko];dsimp only;split;(·rename_i k hy;exact (hk k hy).elim);rw [h1];exact hK);(rcases SE h2 with ⟨rfl,h3⟩|⟨s,h3,h4⟩);(·exact agL Q h3);exact kX s h3 fun K hK=>agL K (h4 K hK)
 ·rename_i ko;exact kX _ h fun K hK=>by unfold dv;rw [ko];exact hK
 ·rename_i ko;obtain⟨rfl,h⟩:=h;show dv P tt key o st Q;unfold dv;rw [ko];exact h
 ·rename_i op T x y yt ko;cases hn:qf tt op T (st.eval x) (st.eval y) with|some n =>rw [hn,xn] at h;obtain⟨rfl,h⟩:=h;show dv P tt key o st Q;unfold dv;rw [ko];dsimp only;rw [hn];exact h|none =>rw [hn,xp,lO] at h;obtain⟨v,h1,h2⟩:=h;exact kX _ h2 fun K hK=>by unfold dv;rw [ko];dsimp only;rw [hn];dsimp only;rw [h1];exact hK
 rw [lO] at h;obtain⟨v,h1,h2⟩:=h;refine kX _ h2 fun K hK=>?_;unfold dv;split
 all_goals first
  | (rw [h1];exact hK)
  | (exfalso;solve_by_elim)
end
end Go.Eng
end
section
namespace Go.Eng
variable [bJ]
section
variable {P:g7} {ρ:Option Nat} {n0:Nat} {c:Code} {st:St} {Q:Exit->St->Prop}
end
end Go.Eng
end
section
namespace Go.Eng
variable [bJ]
def lk (t:Nat):List (Nat×V)->V
 | []=>.undef
 | p :: ws=>if p.1=t then p.2 else lk t ws
def W (n:Nat) (ws:List (Nat×V)):List V:=(List.range n).map fun i=>lk i ws
theorem Cb (n:Nat) (ws:List (Nat×V)) (t:Nat):(W n ws)[t]?=if t<n then some (lk t ws) else none:=by
 unfold W;rw [ae];by_cases h:t<n;·rw [gH h,awe h];rfl
 rw [g5 h,ep (by simp;omega)];rfl
theorem aci (n:Nat) (ws:List (Nat×V)) (t:Nat):(W n ws).getD t .undef=if t<n then lk t ws else .undef:=by rw [eY,Cb];split <;> rfl
theorem tu (n:Nat) (ws:List (Nat×V)):(W n ws).length=n:=by simp [W]
theorem ZB (n:Nat) (ws:List (Nat×V)) (d:Nat) (v:V):(W n ws).set d v=W n ((d,v) :: ws):=by
 apply eh;intro i;rw [cf,Cb,Cb,tu];simp only [lk];by_cases h:d=i;·subst h;simp
 simp [h]
def Gt (oo:List (Nat×V)):List (Nat×V)->Prop
 | []=>True
 | p :: r=>lk p.1 oo=p.2/\Gt oo r
theorem Ny {oo:List (Nat×V)}:∀ {ws:List (Nat×V)},Gt oo ws->∀ i,lk i ws = .undef\/lk i ws=lk i oo
 | [],_,i=>.inl rfl
 | p :: r,h,i=>by
  simp only [lk]
  by_cases e:p.1=i
  ·subst e;rw [gH rfl];exact .inr h.1.symm
  rw [g5 e];exact Ny h.2 i
theorem Nz {E:Env} {n:Nat} {oo ws:List (Nat×V)} (h:Gt oo ws) {xs:List Value} (hr:dh E (W n oo) xs):dh E (W n ws) xs:=by
 refine⟨by rw [<- hr.1,tu,tu],fun i v x hv hx=>?_⟩;rw [Cb] at hv;split at hv;·rename_i hi;cases hv;(rcases Ny h i with e|e);(·rw [e];exact .undef _ _);rw [e];exact hr.2 i _ x (by rw [Cb,gH hi]) hx
 cases hv
def SH (k:Nat) (ws:List (Nat×V)):Bool:=ws.all fun p=>aQ k p.2
theorem agM {k n:Nat} {ws:List (Nat×V)} (h:SH k ws=true):(W n ws).all (aQ k)=true:=by rw [ba];intro v hv;unfold W at hv;obtain⟨i,-,rfl⟩:=dS.1 hv;clear hv;induction ws with|nil=>rfl|cons p r ih =>unfold SH at h ih;rw [cI,aG] at h;simp only [lk];split;(·exact h.1);exact ih h.2
def X (_:Tk) (m:Bool) (P:g7) (ρ:Option Nat) (n0:Nat) (c:Code) (st:St) (Q:Exit->St->Prop):Prop:=match m with
 | true=>fc P ρ n0 c st Q
 | false=>Ex P ρ n0 c st Q
section
variable {k_:Tk} {m:Bool} {P:g7} {tt:Table} {sp:List Nat} {ρ:Option Nat} {n0:Nat} {st:St} {Q:Exit->St->Prop} {n:Nat} {ws oo:List (Nat×V)} {mem kp:List bx}
theorem X.mono {c:Code} {Q2:Exit->St->Prop} (h:X k_ m P ρ n0 c st Q) (hq:∀ e s,Q e s->Q2 e s):X k_ m P ρ n0 c st Q2:=by
 cases m;·exact Ex.mono h hq
 exact fc.mono h hq
theorem EE {x y:Code} (h:X k_ m P ρ n0 x st (iQ (fun st'=>X k_ m P ρ n0 y st' Q) Q)):X k_ m P ρ n0 (.seq x y) st Q:=by
 cases m;·exact B8 h
 exact bS h
theorem Xf {id:Nat} {c:Code} (h:X k_ m P ρ n0 c st (kB id Q)):X k_ m P ρ n0 (.block id c) st Q:=by
 cases m;·exact B9 h
 exact cz h
theorem SI {c:Code} {st':St} (hw:∀ E w a,dt E w a st->dt E w a st') (h:X k_ m P ρ n0 c st' Q):X k_ m P ρ n0 c st Q:=by
 cases m;·obtain⟨e,s,hq,h⟩:=h;exact⟨e,s,hq,fun Q' h'=>sY hw (h Q' h')⟩
 exact sY hw h
theorem acj {c:Code} (k:Nat) (hn:n0<=k) (hf:st.fr.all (aQ k)=true) (hm:(st.mem.take k).all (a6 k)=true) (h:X k_ m P ρ n0 c { st with mem:=st.mem.take k } Q):X k_ m P ρ n0 c st Q:=by
 cases m;·obtain⟨e,s,hq,h⟩:=h;exact⟨e,s,hq,fun Q' h'=>BE k [] hn hf hm (h Q' h')⟩
 exact BE k [] hn hf hm h
def yK (n0 k n:Nat) (ws:List (Nat×V)) (mem:List bx) (st:St):Prop :=
 ∃ oo kp,st=⟨W n oo,kp⟩/\n0<=k/\Gt oo ws/\SH k ws=true/\mem.all (a6 k)=true/\kp.take k=mem
theorem da {k:Nat} (h0:n0<=k) (h1:Gt oo ws/\SH k ws=true/\mem.all (a6 k)=true/\kp.take k=mem):yK n0 k n ws mem ⟨W n oo,kp⟩:=⟨oo,kp,rfl,h0,h1⟩
theorem LM {c:Code} {k:Nat} (hl:yK n0 k n ws mem st) (h:X k_ m P ρ n0 c ⟨W n ws,mem⟩ Q):X k_ m P ρ n0 c st Q:=by obtain⟨oo,kp,rfl,h0,h1,h2,h3,h4⟩:=hl;subst h4;exact SI (st':=⟨W n ws,kp⟩) (fun E w a hs=>⟨hs.F,hs.lt,hs.mem,hs.top,hs.ej,hs.apart,Nz h1 hs.fr⟩) (acj k h0 (agM h2) h3 h)
def gate (_:Tk) (b:Bool) (d:Nat) (st:St) (f:Bool->St->Prop):Prop:=∀ b',b=b'->f b' { st with fr:=st.fr.set d (.sc (.bool b')) }
theorem ack {d:Nat} {f:Bool->St->Prop}:gate k_ true d st f=f true { st with fr:=st.fr.set d (.sc (.bool true)) }:=propext ⟨fun h=>h _ rfl,fun h b' e=>by subst e;exact h⟩
theorem acm {d:Nat} {f:Bool->St->Prop}:gate k_ false d st f=f false { st with fr:=st.fr.set d (.sc (.bool false)) }:=propext ⟨fun h=>h _ rfl,fun h b' e=>by subst e;exact h⟩
theorem bE {b:Bool} {d:Nat} {f:Bool->St->Prop} (h1:b=true->f true { st with fr:=st.fr.set d (.sc (.bool true)) }) (h2:b=false->f false { st with fr:=st.fr.set d (.sc (.bool false)) }):gate k_ b d st f:=by intro b' e;cases b' with|true=>exact h1 e|false=>exact h2 e
theorem NA {b:Bool} {d:Nat} {f:Bool->St->Prop} (hd:st.fr[d]?=some (.sc (.bool b))\/st.fr.getD d .undef = .sc (.bool b)) (h:gate k_ b d st f):f b st:=by
 have:=h b rfl;have e:st.fr.set d (.sc (.bool b))=st.fr:=by (rcases hd with hd|hd);(·exact tg hd);rw [eY] at hd;cases hg:st.fr[d]? with|none=>rw [hg] at hd;cases hd|some v=>rw [hg] at hd;cases hd;exact tg hg
 rw [e] at this;exact this
def Gu (_:Tk) (v:Option V) (d:Nat) (want:Bool) (st:St) (yes no:St->Prop):Prop:=match v with
 | some (.sc (.bool b))=>gate tk b d st fun b s=>match b==want with|true=>yes s|false=>no s
 | some (.sc _)=>no st
 | some _=>False
 | none=>no st
def zV:List Oper->Nat->Option Tmp
 | [],_=>none
 | o :: _,0=>o.dst
 | _ :: r,n+1=>zV r n
theorem Xg {o:Oper} {r:List Oper}:zV (o :: r) 0=o.dst:=rfl
theorem NB {o:Oper} {r:List Oper} {n:Nat}:zV (o :: r) (n+1)=zV r n:=rfl
theorem IZ:∀ (l:List Oper) (j:Nat),zV l j=(l[j]?).bind (·.dst)
 | [],j=>by simp [zV]
 | o :: r,0=>rfl
 | o :: r,j+1=>by rw [NB,IZ r j,cu]
def gd (all:List Oper) (o:Oper) (st:St) (yes no:St->Prop):Prop:=match o.guard with
 | none=>yes st
 | some (j,want)=>match zV all j with
  | none=>no st
  | some d=>Gu tk st.fr[d]? d want st yes no
theorem ZC {all:Array Oper} {o:Oper} {yes no:St->Prop} (h:gd all.toList o st yes no):(gE all st.fr o=some true/\yes st)\/(gE all st.fr o=some false/\no st):=by
 unfold gd at h;unfold gE;split at h;·rename_i hg;rw [hg];exact .inl ⟨rfl,h⟩
 rename_i j want hg;rw [hg];dsimp only;rw [IZ,dV] at h;cases hd:(all[j]?).bind (·.dst) with|none=>rw [hd] at h;exact .inr ⟨rfl,h⟩|some d =>rw [hd] at h;dsimp only at h ⊢;unfold Gu at h;split at h;(·rename_i b hb;have h:=NA (.inl hb) h;rw [hb];dsimp only;cases hc:b==want with|true=>rw [hc] at h;exact .inl ⟨rfl,h⟩|false=>rw [hc] at h;exact .inr ⟨rfl,h⟩);(·rename_i x hx hb;rw [hb];cases x with|bool b=>exact absurd rfl (hx b)|_=>exact .inr ⟨rfl,h⟩);(·exact h.elim);rename_i hb;rw [hb];exact .inr ⟨rfl,h⟩
def tv (m:Bool) (P:g7) (tt:Table) (all:List Oper):List Oper->St->(St->Prop)->Prop
 | [],st,Q=>Q st
 | o :: r,st,Q=>gd all o st (fun s=>oR m P tt s.mem.length o s fun s=>tv m P tt all r s Q) (fun s=>tv m P tt all r (s.put o.dst (.sc undef)) Q)
theorem acn {all:List Oper} {Q:St->Prop}:tv m P tt all [] ⟨W n ws,mem⟩ Q=Q ⟨W n ws,mem⟩:=l8 rfl
theorem aco {all:List Oper} {o:Oper} {r:List Oper} {Q:St->Prop}:tv m P tt all (o :: r) ⟨W n ws,mem⟩ Q=gd all o ⟨W n ws,mem⟩ (fun s=>oR m P tt s.mem.length o s fun s=>tv m P tt all r s Q) (fun s=>tv m P tt all r (s.put o.dst (.sc undef)) Q):=l8 rfl
def agN (m:Bool) (P:g7) (tt:Table) (all:Array Oper) (l:List Oper) (st:St) (Q:St->Prop):Prop:=match m with
 | true=>eV P tt all l st Q
 | false=>∃ s,Q s/\∀ K:St->Prop,K s->eV P tt all l st K
theorem rG {all:Array Oper} {Q:St->Prop}:∀ (l:List Oper) (st:St),tv m P tt all.toList l st Q->agN m P tt all l st Q
 | [],st,h=>by
  cases m with
  | true=>show eV P tt all [] st Q;rw [eV];exact h
  | false=>exact⟨st,h,fun K hK=>by rw [eV];exact hK⟩
 | o :: r,st,h=>by
  rw [tv] at h
  rcases ZC h with ⟨hw,h⟩|⟨hw,h⟩
  ·have h:=SG (LL (B:=fun s=>agN m P tt all r s Q) h fun s hs=>rG r s hs)
   cases m with
   | true =>
    show eV P tt all (o :: r) st Q
    rw [eV,hw]
    exact h
   | false =>
    obtain⟨s1,h1,h2⟩:=h
    obtain⟨s2,h3,h4⟩:=h1
    exact⟨s2,h3,fun K hK=>by rw [eV,hw];exact h2 _ (h4 K hK)⟩
  have h:=rG r _ h
  cases m with
  | true =>
   show eV P tt all (o :: r) st Q
   rw [eV,hw];exact h
  | false =>
   obtain⟨s2,h3,h4⟩:=h
   exact⟨s2,h3,fun K hK=>by rw [eV,hw];exact h4 K hK⟩
theorem Cc (ht:TT P tt) {id:Nat} {ops:Array Oper} (h:tv m P tt ops.toList ops.toList st (Q .normal)):X k_ m P ρ n0 (.region id ops false) st Q:=by have h:=rG _ _ h;cases m with|true=>exact mV ht h|false =>obtain⟨s,h1,h2⟩:=h;exact⟨.normal,s,h1,fun Q' h'=>mV ht (h2 _ h')⟩
def NC (c:Operand) (st:St) (f:Bool->St->Prop):Prop:=match st.eval c with
 | .sc (.bool b)=>match c with
  | .tmp t=>gate tk b t st f
  | _=>f b st
 | _=>False
def SJ (i:Nat):List Nat->Bool
 | []=>false
 | a :: r=>if a=i then true else SJ i r
def ky:Code->Nat
 | .cond (.tmp t) _ _=>10000+t
 | .block i _=>20000+i
 | .seq _ _=>30000
 | .region i _ _=>i
 | _=>40000
def vc (m:Bool) (P:g7) (tt:Table) (sp:List Nat) (ρ:Option Nat) (n0:Nat):Code->St->(Exit->St->Prop)->Prop
 | .seq x y,st,Q=>match x with
  | .region id ops false=>match SJ id sp with
   | false=>tv m P tt ops.toList ops.toList st fun s=>vc m P tt sp ρ n0 y s Q
   | true=>X tk m P ρ n0 (.seq (.region id ops false) y) st Q
  | .skip=>vc m P tt sp ρ n0 y st Q
  | _=>match SJ (ky x) sp with
   | false=>vc m P tt sp ρ n0 x st (iQ (fun s=>vc m P tt sp ρ n0 y s Q) Q)
   | true=>X tk m P ρ n0 (.seq x y) st Q
 | .region id ops false,st,Q=>match SJ id sp with
  | false=>tv m P tt ops.toList ops.toList st (Q .normal)
  | true=>X tk m P ρ n0 (.region id ops false) st Q
 | .cond c x y,st,Q=>NC c st fun b s=>match b with|true=>vc m P tt sp ρ n0 x s Q|false=>vc m P tt sp ρ n0 y s Q
 | .block id c,st,Q=>vc m P tt sp ρ n0 c st (kB id Q)
 | .skip,st,Q=>Q .normal st
 | .ret,st,Q=>Q .ret st
 | .exit id,st,Q=>Q (.exit id) st
 | c,st,Q=>X tk m P ρ n0 c st Q
theorem vx (ht:TT P tt):∀ {c:Code} {st:St} {Q:Exit->St->Prop},vc m P tt sp ρ n0 c st Q->X k_ m P ρ n0 c st Q:=by intro c;induction c with|seq x y ihx ihy =>(intro st Q h;unfold vc at h;split at h;(·split at h;(·refine EE ((Cc (Q:=iQ (fun s=>vc m P tt sp ρ n0 y s Q) Q) ht h).mono fun e s h=>?_);cases e with|normal=>exact ihy h|_=>exact h);exact h);(·have h:=ihy h;cases m;(·exact B8 (Gr h));exact bS (cR h));split at h;(·refine EE ((ihx h).mono fun e s h=>?_);cases e with|normal=>exact ihy h|_=>exact h);exact h)|region id ops mixed =>intro st Q h;cases mixed;(·unfold vc at h;split at h;(·exact Cc ht h);exact h);unfold vc at h;exact h|cond c x y ihx ihy =>intro st Q h;unfold vc at h;unfold NC at h;split at h;(·rename_i b hb;(have h:X k_ m P ρ n0 (if b=true then x else y) st Q:=by split at h;(·rename_i t;have h:=NA (.inr hb) h;cases b;(·exact ihy h);exact ihx h);cases b;(·exact ihy h);exact ihx h);cases m;(·exact Nv hb h);exact bD hb h);exact h.elim|block id c ih=>intro st Q h;unfold vc at h;exact Xf (ih h)|skip =>intro st Q h;unfold vc at h;cases m;(·exact Gr h);exact cR h|ret =>intro st Q h;unfold vc at h;cases m;(·exact Sv h);exact cy h|exit id =>intro st Q h;unfold vc at h;cases m;(·exact Nu h);exact fA h|_=>intro st Q h;unfold vc at h;exact h
section
variable {x y:Code} {id:Nat} {ops:Array Oper} {c:Operand}
theorem LN {v:Option V} {d:Nat} {want:Bool} {yes no:St->Prop} {k:Tk}:Gu k v d want st yes no=match v with
  | some (.sc (.bool b))=>gate tk b d st fun b s=>match b==want with|true=>yes s|false=>no s
  | some (.sc _)=>no st
  | some _=>False
  | none=>no st:=l8 rfl
def sV:=@oR
theorem PF {key:Nat} {o:Oper} {Q:St->Prop}:oR m P tt key o ⟨W n ws,mem⟩ Q=sV m P tt key o ⟨W n ws,mem⟩ Q:=l8 rfl
theorem acp {key:Nat} {o:Oper} {Q:St->Prop}:sV m P tt key o st Q=match o.op with
   | .alloc T=>bq tk (tt T) fun i=>Q ({ st with mem:=dw st.mem key (.box (i.zero.map V.sc)) }.put o.dst (.ptr key 0))
   | .box _ x=>bq tk (mr (st.eval x)) fun cs=>Q ({ st with mem:=dw st.mem key (.box cs) }.put o.dst (.ptr key 0))
   | .build T parts=>bq tk (nW P tt T parts.toList st.eval) fun v=>Q (st.put o.dst v)
   | .buildSlice T len parts=>bq tk (Xe tt T len parts.toList st key) fun mem=>Q ({ st with mem:=mem }.put o.dst (.ms key 0 0 len))
   | .store T p x=>bq tk (Gs tt st.mem T (st.eval p) (st.eval x)) fun mem=>Q ({ st with mem:=mem }.put o.dst (.sc undef))
   | .call { callee:=.builtin .append,args:=xs,argTypes:=ts }=>match xs.toList.map st.eval with
    | [s,x]=>nq tk (fC tt st.mem ts.toList s x) (fun p=>Q ({ st with mem:=(eU st.mem key p.1 p.2.2 p.2.1).1 }.put o.dst (eU st.mem key p.1 p.2.2 p.2.1).2)) (apV tk m (pI tt st.mem ts.toList s x) st o.dst Q)
    | _=>False
   | .call { callee:=.value f,args:=xs,.. }=>match st.eval f with
    | .kx k=>agK tk m P k (xs.toList.map st.eval) st o.dst Q
    | fv=>bq tk (du fv (xs.toList.map st.eval)) fun p=>tq tk m P p.1 p.2 (jj st.mem p.2) (p.2.flatMap iz) st o.dst Q
   | .makeSlice T l c=>bq tk (zv tt T (st.eval l) (st.eval c)) fun p=>Q ({ st with mem:=dw st.mem key (.rows 0 p.1 p.2.1) }.put o.dst (.ms key 0 0 p.2.1.length))
   | .makeMap _ none=>Q ({ st with mem:=dw st.mem key (.map [] 0) }.put o.dst (.mp key))
   | .mapUpdate T d k x=>bq tk (ee P st.mem T (st.eval d) (st.eval k) (st.eval x)) fun mem=>Q ({ st with mem:=mem }.put o.dst (.sc undef))
   | .insert T d k x=>bq tk (ee P st.mem T (st.eval d) (st.eval k) (st.eval x)) fun mem=>Q ({ st with mem:=mem }.put o.dst (.sc undef))
   | .mapEntry T d k=>bq tk (yw P st.mem T (st.eval d) (st.eval k)) fun p=>Q ({ st with mem:=p.1 }.put o.dst p.2)
   | .entryStore _ d s x=>bq tk (yx st.mem (st.eval d) (st.eval s) (st.eval x)) fun mem=>Q ({ st with mem:=mem }.put o.dst (.sc undef))
   | .call { callee:=.builtin .delete,args:=xs,argTypes:=ts }=>bq tk (ui P st.mem ts (xs.toList.map st.eval)) fun mem=>Q ({ st with mem:=mem }.put o.dst (.sc (.tuple #[])))
   | .range T x=>bq tk (qA P st.mem T (st.eval x)) fun B=>Q ({ st with mem:=dw st.mem key B }.put o.dst (.ptr key 0))
   | .next it str=>nxV tk m st o.dst (st.eval it) str Q
   | .binOp op T x y _=>nq tk (qf tt op T (st.eval x) (st.eval y)) (fun n=>niV tk m n op st o.dst Q) (bq tk (lM P tt st o) fun v=>Q (st.put o.dst v))
   | _=>bq tk (lM P tt st o) fun v=>Q (st.put o.dst v):=l8 rfl
theorem acq {all:List Oper} {o:Oper} {yes no:St->Prop}:gd all o ⟨W n ws,mem⟩ yes no=match o.guard with
  | none=>yes ⟨W n ws,mem⟩
  | some (j,want)=>match zV all j with
   | none=>no ⟨W n ws,mem⟩
   | some d=>Gu tk (W n ws)[d]? d want ⟨W n ws,mem⟩ yes no:=l8 rfl
theorem PG {f:Bool->St->Prop}:NC c st f=match st.eval c with
  | .sc (.bool b)=>match c with
   | .tmp t=>gate tk b t st f
   | _=>f b st
  | _=>False:=l8 rfl
theorem agO:vc m P tt sp ρ n0 (.seq (.region id ops false) y) ⟨W n ws,mem⟩ Q=match SJ id sp with
  | false=>tv m P tt ops.toList ops.toList ⟨W n ws,mem⟩ fun s=>vc m P tt sp ρ n0 y s Q
  | true=>X tk m P ρ n0 (.seq (.region id ops false) y) ⟨W n ws,mem⟩ Q:=l8 rfl
theorem agP:vc m P tt sp ρ n0 (.seq (.region id ops true) y) ⟨W n ws,mem⟩ Q=match SJ id sp with
  | false=>vc m P tt sp ρ n0 (.region id ops true) ⟨W n ws,mem⟩ (iQ (fun s=>vc m P tt sp ρ n0 y s Q) Q)
  | true=>X tk m P ρ n0 (.seq (.region id ops true) y) ⟨W n ws,mem⟩ Q:=l8 rfl
theorem agQ {x1:Code}:vc m P tt sp ρ n0 (.seq (.seq x x1) y) ⟨W n ws,mem⟩ Q=match SJ 30000 sp with
  | false=>vc m P tt sp ρ n0 (.seq x x1) ⟨W n ws,mem⟩ (iQ (fun s=>vc m P tt sp ρ n0 y s Q) Q)
  | true=>X tk m P ρ n0 (.seq (.seq x x1) y) ⟨W n ws,mem⟩ Q:=l8 rfl
theorem agR {x1:Code} {t:Nat}:vc m P tt sp ρ n0 (.seq (.cond (.tmp t) x x1) y) ⟨W n ws,mem⟩ Q=match SJ (10000+t) sp with
  | false=>vc m P tt sp ρ n0 (.cond (.tmp t) x x1) ⟨W n ws,mem⟩ (iQ (fun s=>vc m P tt sp ρ n0 y s Q) Q)
  | true=>X tk m P ρ n0 (.seq (.cond (.tmp t) x x1) y) ⟨W n ws,mem⟩ Q:=l8 rfl
theorem agS:vc m P tt sp ρ n0 (.seq (.block id x) y) ⟨W n ws,mem⟩ Q=match SJ (20000+id) sp with
  | false=>vc m P tt sp ρ n0 (.block id x) ⟨W n ws,mem⟩ (iQ (fun s=>vc m P tt sp ρ n0 y s Q) Q)
  | true=>X tk m P ρ n0 (.seq (.block id x) y) ⟨W n ws,mem⟩ Q:=l8 rfl
theorem ame:vc m P tt sp ρ n0 (.region id ops false) ⟨W n ws,mem⟩ Q=match SJ id sp with
  | false=>tv m P tt ops.toList ops.toList ⟨W n ws,mem⟩ (Q .normal)
  | true=>X tk m P ρ n0 (.region id ops false) ⟨W n ws,mem⟩ Q:=l8 rfl
theorem amf:vc m P tt sp ρ n0 (.region id ops true) ⟨W n ws,mem⟩ Q=X tk m P ρ n0 (.region id ops true) ⟨W n ws,mem⟩ Q:=l8 rfl
theorem amg:vc m P tt sp ρ n0 (.cond c x y) ⟨W n ws,mem⟩ Q=NC c ⟨W n ws,mem⟩ fun b s=>match b with|true=>vc m P tt sp ρ n0 x s Q|false=>vc m P tt sp ρ n0 y s Q:=l8 rfl
theorem amh:vc m P tt sp ρ n0 (.block id x) ⟨W n ws,mem⟩ Q=vc m P tt sp ρ n0 x ⟨W n ws,mem⟩ (kB id Q):=l8 rfl
theorem ami:vc m P tt sp ρ n0 .skip ⟨W n ws,mem⟩ Q=Q .normal ⟨W n ws,mem⟩:=l8 rfl
theorem amj:vc m P tt sp ρ n0 .ret ⟨W n ws,mem⟩ Q=Q .ret ⟨W n ws,mem⟩:=l8 rfl
theorem amk:vc m P tt sp ρ n0 (.exit id) ⟨W n ws,mem⟩ Q=Q (.exit id) ⟨W n ws,mem⟩:=l8 rfl
theorem aml:vc m P tt sp ρ n0 (.loop x) ⟨W n ws,mem⟩ Q=X tk m P ρ n0 (.loop x) ⟨W n ws,mem⟩ Q:=l8 rfl
theorem amm {f:St->Prop}:iQ f Q .normal st=f st:=l8 rfl
theorem amn {f:St->Prop}:iQ f Q .ret st=Q .ret st:=l8 rfl
theorem amo {f:St->Prop} {j:Nat}:iQ f Q (.exit j) st=Q (.exit j) st:=l8 rfl
theorem amp {j:Nat}:kB j Q .normal st=Q .normal st:=l8 rfl
theorem amq {j:Nat}:kB j Q .ret st=Q .ret st:=l8 rfl
theorem amr {i j:Nat}:kB i Q (.exit j) st=if j=i then Q .normal st else Q (.exit j) st:=l8 rfl
end
attribute [irreducible] vc
end
end Go.Eng
end
section
namespace Go.Eng
variable [bJ]
section
variable {k_:Tk} {m:Bool} {P:g7} {tt:Table} {ρ:Option Nat} {n0:Nat} {st:St} {Q:Exit->St->Prop} {n:Nat} {ws oo:List (Nat×V)} {mem kp:List bx}
theorem I0 (ht:TT P tt) {sp:List Nat} {y:Code} (e:Exit) (s:St) (h:iQ (fun s=>vc m P tt sp ρ n0 y s Q) Q e s):iQ (fun s=>X k_ m P ρ n0 y s Q) Q e s:=by cases e with|normal=>exact vx (k_:=k_) ht h|_=>exact h
theorem sq (ht:TT P tt) (sp:List Nat) {x y:Code} (h:vc m P tt sp ρ n0 x st (iQ (fun s=>vc m P tt sp ρ n0 y s Q) Q)):X k_ m P ρ n0 (.seq x y) st Q:=EE ((vx ht h).mono (I0 ht))
theorem lg (ht:TT P tt) {id:Nat} {ops:Array Oper} (h:tv m P tt ops.toList ops.toList st (Q .normal)):X k_ m P ρ n0 (.region id ops false) st Q:=Cc ht h
theorem rH {c:Code} {k j:Nat} (hl:yK n0 k n ws mem st) (h:mv P ρ n0 c j ⟨W n ws,mem⟩ Q):mv P ρ n0 c j st Q:=by cases j with|zero=>exact h.elim|succ j=>exact LM (k_:=.b) (m:=true) hl h
theorem acr {α:Type} (F:α->List (Nat×V)) (M:α->List bx) (μ:α->Nat) (Inv:α->Prop) (a0:α) (k:Nat) {c:Code} (h0:yK n0 k n (F a0) (M a0) st) (hi:Inv a0)
  (step:∀ a,Inv a->X k_ m P ρ n0 c ⟨W n (F a),M a⟩ (iQ (fun s=>∃ a',Inv a'/\μ a'<μ a/\yK n0 k n (F a') (M a') s) Q)):X k_ m P ρ n0 (.loop c) st Q:=by cases m with|true =>((have key:∀ (j:Nat) (a:α),Inv a->μ a=j->mv P ρ n0 c (j+1) ⟨W n (F a),M a⟩ Q:=by intro j;induction j using Nat.strongRecOn with|_ j ih =>intro a hi hj;refine fc.mono (step a hi) fun e s h=>?_;cases e with|normal =>obtain⟨a',h1,h2,h3⟩:=h;exact rH h3 (vO (by omega) (ih _ (by omega) a' h1 rfl))|_=>exact h);exact sX _ (rH h0 (key _ a0 hi rfl)))|false =>(have key:∀ (j:Nat) (a:α),Inv a->μ a=j->∃ (e:Exit) (s:St),Q e s/\∀ Q':Exit->St->Prop,Q' e s->∃ i,mv P ρ n0 c i ⟨W n (F a),M a⟩ Q':=by intro j;induction j using Nat.strongRecOn with|_ j ih =>intro a hi hj;obtain⟨e,s,hq,h⟩:=step a hi;cases e with|normal =>obtain⟨a',h1,h2,h3⟩:=hq;obtain⟨e2,s2,mi,h5⟩:=ih _ (by omega) a' h1 rfl;refine⟨e2,s2,mi,fun Q' h'=>?_⟩;obtain⟨i,h6⟩:=h5 Q' h';exact⟨i+1,h _ (rH h3 h6)⟩|_=>exact⟨_,s,hq,fun Q' h'=>⟨1,h (iQ (fun st'=>mv P ρ n0 c 0 st' Q') Q') h'⟩⟩);obtain⟨e,s,hq,h⟩:=key _ a0 hi rfl;refine⟨e,s,hq,fun Q' h'=>?_⟩;obtain⟨j,hj⟩:=h Q' h';exact sX j (rH h0 hj)
theorem ij (ht:TT P tt) (sp:List Nat) {α:Type} (F:α->List (Nat×V)) (M:α->List bx) (μ:α->Nat) (Inv:α->Prop) (a0:α) (k:Nat) {c:Code} (h0:yK n0 k n (F a0) (M a0) st) (hi:Inv a0)
  (step:∀ a,Inv a->∀ K:St->Prop,(∀ s,(∃ a',Inv a'/\μ a'<μ a/\yK n0 k n (F a') (M a') s)->K s)->vc m P tt sp ρ n0 c ⟨W n (F a),M a⟩ (iQ K Q)):X k_ m P ρ n0 (.loop c) st Q:=acr F M μ Inv a0 k h0 hi fun a h=>vx ht (step a h _ fun _ h=>h)
def pk (ws:List (Nat×V)):List Nat->List (Nat×V)
 | []=>[]
 | k :: r=>(k,lk k ws) :: pk ws r
def zk:List Nat->List V->List (Nat×V)->List (Nat×V)
 | t :: ts,v :: vs,r=>(t,v) :: zk ts vs r
 | _,_,r=>r
theorem acs {ks:List Nat}:Gt ws (pk ws ks):=by induction ks with|nil=>trivial|cons k r ih=>exact⟨rfl,ih⟩
theorem tz {k:Nat} {p:Nat×V}:SH k (p :: ws)=(aQ k p.2&&SH k ws):=agJ rfl
theorem xq {k:Nat}:SH k []=true:=agJ rfl
theorem acu (ht:TT P tt) (sp:List Nat) (ts:List Nat) (V7:List V) (k:Nat) (ks:List Nat) (μ:List V->Nat) (Inv:List V->Prop) {c:Code} (hn:n0<=k) (h0:Gt oo (zk ts V7 (pk oo ks))/\SH k (zk ts V7 (pk oo ks))=true/\(kp.take k).all (a6 k)=true) (hi:Inv V7)
  (step:∀ vs,Inv vs->∀ K:St->Prop,(∀ s,(∃ vs',Inv vs'/\μ vs'<μ vs/\yK n0 k n (zk ts vs' (pk oo ks)) (kp.take k) s)->K s)->vc m P tt sp ρ n0 c ⟨W n (zk ts vs (pk oo ks)),kp.take k⟩ (iQ K Q)):X k_ m P ρ n0 (.loop c) ⟨W n oo,kp⟩ Q :=
 ij ht sp (fun vs=>zk ts vs (pk oo ks)) (fun _=>kp.take k) μ Inv V7 k (da hn ⟨h0.1,h0.2.1,h0.2.2,rfl⟩) hi step
def eO (ws:List (Nat×V)):List Nat->List V
 | []=>[]
 | t :: r=>lk t ws :: eO ws r
theorem Cd:∀ {ts:List Nat} {r:List (Nat×V)},Gt ws r->Gt ws (zk ts (eO ws ts) r)
 | [],r,h=>h
 | t :: ts,r,h=>⟨rfl,Cd h⟩
theorem di (ht:TT P tt) (sp:List Nat) (ts:List Nat) (k:Nat) (ks:List Nat) (μ:List V->Nat) (Inv:List V->Prop) {c:Code} (hn:n0<=k) (h0:SH k (zk ts (eO oo ts) (pk oo ks))=true/\(kp.take k).all (a6 k)=true) (hi:Inv (eO oo ts))
  (step:∀ vs,Inv vs->∀ K:St->Prop,(∀ s,(∃ vs',Inv vs'/\μ vs'<μ vs/\yK n0 k n (zk ts vs' (pk oo ks)) (kp.take k) s)->K s)->vc m P tt sp ρ n0 c ⟨W n (zk ts vs (pk oo ks)),kp.take k⟩ (iQ K Q)):X k_ m P ρ n0 (.loop c) ⟨W n oo,kp⟩ Q :=
 acu ht sp ts (eO oo ts) k ks μ Inv hn ⟨Cd acs,h0⟩ hi step
theorem fN {ts ks:List Nat} {k j:Nat} {Inv:List V->Prop} {μ:List V->Nat} {Gv:List (Nat×V)} {I1:List bx} (hn:n0<=k) (h:Gt Gv (pk oo ks)/\SH k (zk ts (eO Gv ts) (pk oo ks))=true/\(kp.take k).all (a6 k)=true/\I1.take k=kp.take k) (hi:Inv (eO Gv ts)) (hm:μ (eO Gv ts)<j) :
  ∃ vs',Inv vs'/\μ vs'<j/\yK n0 k n (zk ts vs' (pk oo ks)) (kp.take k) ⟨W n Gv,I1⟩:=⟨_,hi,hm,da hn ⟨Cd h.1,h.2⟩⟩
theorem fp {ts ks:List Nat} {k:Nat} {Inv:List V->Prop} {Gv:List (Nat×V)} {I1:List bx} (hn:n0<=k) (h:Gt Gv (pk oo ks)/\SH k (zk ts (eO Gv ts) (pk oo ks))=true/\(kp.take k).all (a6 k)=true/\I1.take k=kp.take k) (hi:Inv (eO Gv ts)) :
  ∃ vs',Inv vs'/\yK n0 k n (zk ts vs' (pk oo ks)) (kp.take k) ⟨W n Gv,I1⟩:=⟨_,hi,da hn ⟨Cd h.1,h.2⟩⟩
theorem eJ (ht:TT P tt) (sp:List Nat) (ts:List Nat) (k:Nat) (ks:List Nat) (Inv:List V->Prop) {x y:Code}
  (h1:∀ K:St->Prop,(∀ s,(∃ vs,Inv vs/\yK n0 k n (zk ts vs (pk oo ks)) (kp.take k) s)->K s)->vc m P tt sp ρ n0 x ⟨W n oo,kp⟩ (iQ K Q))
  (h2:∀ vs,Inv vs->vc m P tt sp ρ n0 y ⟨W n (zk ts vs (pk oo ks)),kp.take k⟩ Q):X k_ m P ρ n0 (.seq x y) ⟨W n oo,kp⟩ Q:=by refine EE ((vx ht (h1 _ fun _ h=>h)).mono fun e s h=>?_);cases e with|normal =>obtain⟨vs,hv,hl⟩:=h;exact LM (k_:=k_) hl (vx ht (h2 vs hv))|_=>exact h
theorem rI (ht:TT P tt) (sp:List Nat) {α:Type} (F:α->List (Nat×V)) (M:α->List bx) (k:Nat) (Inv:α->Prop) {x y:Code}
  (h1:∀ K:St->Prop,(∀ s,(∃ a,Inv a/\yK n0 k n (F a) (M a) s)->K s)->vc m P tt sp ρ n0 x st (iQ K Q))
  (h2:∀ a,Inv a->vc m P tt sp ρ n0 y ⟨W n (F a),M a⟩ Q):X k_ m P ρ n0 (.seq x y) st Q:=by refine EE ((vx ht (h1 _ fun _ h=>h)).mono fun e s h=>?_);cases e with|normal =>obtain⟨a,hv,hl⟩:=h;exact LM (k_:=k_) hl (vx ht (h2 a hv))|_=>exact h
def SK (_:Tk) (P:g7) (f:FuncId) (o:Option (List V)) (st:St) (dst:Option Tmp) (Q:St->Prop):Prop:=∃ vs' r,o=some vs'/\F9 P f vs' r/\Q (st.put dst r)
def acv (_:Tk) (P:g7) (f:FuncId) (o:Option (List V)) (st:St) (key:Nat) (dst:Option Tmp) (Q:St->Prop):Prop:=∃ vs' e rs,o=some vs'/\BG P f vs' e rs/\Q (BH st key dst e rs)
def SL (_:Tk) (P:g7) (f:FuncId) (vs:List V) (o:Option (List V)) (keys:List (Nat×Nat)) (st:St) (dst:Option Tmp) (Q:St->Prop):Prop:=(∃ vs' r,o=some vs'/\dz P f vs' r/\Q ({ st with mem:=iP st.mem keys r }.put dst r))\/∃ r m',bK P f vs st.mem r m'/\Q ({ st with mem:=m' }.put dst r)
def acw (_:Tk) (fl:Bool) (P:g7) (f:FuncId) (vs:List V) (k:Nat) (st:St) (dst:Option Tmp) (Q:St->Prop):Prop:=RS fl P f vs k st dst Q
def SM (P:g7) (tt:Table) (o:Oper) (DU st:St) (Q:St->Prop):Prop :=
 match o.op with
 | .call { callee:=.value f,args:=xs,.. }=>bq tk (du (DU.eval f) (xs.toList.map DU.eval)) fun p=>SK tk P p.1 (jj [] p.2) st o.dst Q
 | _=>bq tk (Aq P tt o DU) fun v=>Q (st.put o.dst v)
def acx (P:g7) (o:Oper) (key:Nat) (st:St) (Q:St->Prop):Prop :=
 match o.op with
 | .call { callee:=.value f,args:=xs,.. }=>bq tk (du (st.eval f) (xs.toList.map st.eval)) fun p=>acv tk P p.1 (jj [] p.2) st key o.dst Q
 | _=>False
def zG (P:g7) (o:Oper) (st:St) (Q:St->Prop):Prop :=
 match o.op with
 | .call { callee:=.value f,args:=xs,.. }=>bq tk (du (st.eval f) (xs.toList.map st.eval)) fun p=>SL tk P p.1 p.2 (jj st.mem p.2) (p.2.flatMap iz) st o.dst Q
 | _=>False
def eG (fl:Bool) (P:g7) (tt:Table) (o:Oper) (k:Nat) (st:St) (Q:St->Prop):Prop :=
 match o.op with
 | .call { callee:=.value f,args:=xs,.. }=>bq tk (du (st.eval f) (xs.toList.map st.eval)) fun p=>acw tk fl P p.1 p.2 k st o.dst Q
 | _=>bq tk (ss tt k o st) fun mem=>Q ({ st with mem:=mem }.put o.dst (.sc undef))
def SN (P:g7) (tt:Table) (base:Nat) (o:Oper) (p:Pl) (st:St) (Q:St->Prop):Prop:=match p.cls with
 | .n=>SM P tt o { st with mem:=[] } st Q
 | .r=>SM P tt o { st with mem:=eN (p.mask.map (base + ·)++p.abs) st.mem } st Q
 | .a=>isHole st.mem (base+p.key)=true/\nq tk (iB tt o (base+p.key) st) (fun q=>Q ({ st with mem:=st.mem.set (base+p.key) q.1 }.put o.dst q.2)) (acx P o (base+p.key) st Q)
 | .w=>isHole st.mem (base+p.key)=true/\bq tk (o9 P tt (base+p.key) o st) fun q=>Q ({ st with mem:=q.1 }.put o.dst q.2)
 | .s=>bq tk (ss tt (base+p.key) o st) fun mem=>Q ({ st with mem:=mem }.put o.dst (.sc undef))
 | .b=>bq tk (oP tt o { st with mem:=eN (p.mask.map (base + ·)) st.mem }) fun v=>Q (st.put o.dst v)
 | .z=>zG P o st Q
 | .e=>eG (!p.mask.isEmpty) P tt o p.key st Q
theorem acy {all:Array Oper} {base:Nat} {o:Oper} {p:Pl} {Q:St->Prop} (hw:gE all st.fr o=some true) (h:SN P tt base o p st Q):gQ P tt all base o p st Q:=by
 have hv:∀ {DU:St},SM P tt o DU st Q->rv P tt o DU st Q:=fun {DU} h=>by unfold SM at h;unfold rv;split at h;(·rename_i f xs ts ko;rw [ko];dsimp only;rw [lO] at h;obtain⟨⟨g,vs⟩,h1,h2⟩:=h;rw [h1];exact h2);rename_i ko;split;(·rename_i f xs ts acz;exact (ko f xs ts acz).elim);rw [lO] at h;obtain⟨v,h1,h2⟩:=h;rw [h1];exact h2
 unfold SN at h;unfold gQ;rw [hw];dsimp only;split at h <;> (rename_i hc;rw [hc];dsimp only);·exact hv h
 ·exact hv h
 ·refine⟨h.1,?_⟩;have h:=h.2;cases hn:iB tt o (base+p.key) st with|some q=>rw [hn,xn] at h;exact h|none =>rw [hn,xp] at h;dsimp only;unfold acx at h;unfold vP;split at h;(·rename_i ko;rw [ko];dsimp only;rw [lO] at h;obtain⟨⟨g,vs⟩,h1,h2⟩:=h;rw [h1];exact h2);exact h.elim
 ·refine⟨h.1,?_⟩;have h:=h.2;rw [lO] at h;obtain⟨q,h1,h2⟩:=h;rw [h1];exact h2
 ·rw [lO] at h;obtain⟨q,h1,h2⟩:=h;rw [h1];exact h2
 ·rw [lO] at h;obtain⟨q,h1,h2⟩:=h;rw [h1];exact h2
 ·unfold zG at h;unfold pO;split at h;(·rename_i ko;rw [ko];dsimp only;rw [lO] at h;obtain⟨⟨g,vs⟩,h1,h2⟩:=h;rw [h1];exact h2);exact h.elim
 unfold eG at h;unfold wX;split at h;·rename_i ko;rw [ko];dsimp only;rw [lO] at h;obtain⟨⟨g,vs⟩,h1,h2⟩:=h;rw [h1];exact h2
 rename_i ko;rw [lO] at h;obtain⟨m,h1,h2⟩:=h;split;·rename_i f xs ts acz;exact (ko _ _ _ acz).elim
 rw [h1];exact h2
def Gw (P:g7) (tt:Table) (all:List Oper) (base:Nat):List Oper->List Pl->St->(St->Prop)->Prop
 | [],_,st,K=>K st
 | o :: r,p :: ps,st,K=>gd all o st (fun st=>SN P tt base o p st fun st'=>Gw P tt all base r ps st' K) (fun st=>Gw P tt all base r ps (st.put o.dst (.sc undef)) K)
 | _ :: _,[],_,_=>False
theorem acA {all:List Oper} {base:Nat} {ps:List Pl} {K:St->Prop}:Gw P tt all base [] ps ⟨W n ws,mem⟩ K=K ⟨W n ws,mem⟩:=l8 rfl
theorem acB {all:List Oper} {base:Nat} {o:Oper} {r:List Oper} {p:Pl} {ps:List Pl} {K:St->Prop}:Gw P tt all base (o :: r) (p :: ps) ⟨W n ws,mem⟩ K=gd all o ⟨W n ws,mem⟩ (fun st=>SN P tt base o p st fun st'=>Gw P tt all base r ps st' K) (fun st=>Gw P tt all base r ps (st.put o.dst (.sc undef)) K):=l8 rfl
theorem AV {all:Array Oper} {base:Nat} {Q:St->Prop}:∀ (l:List Oper) (ps:List Pl) (st:St),Gw P tt all.toList base l ps st Q->runM P tt all base l ps st Q
 | [],ps,st,h=>h
 | o :: r,[],st,h=>h.elim
 | o :: r,p :: ps,st,h=>by
  rw [runM]
  rcases ZC (show gd all.toList o st _ _ from h) with ⟨hw,h⟩|⟨hw,h⟩
  ·have h:=acy hw h
   by_cases hz:p.cls = .z
   ·unfold gQ at h ⊢
    rw [hw,hz] at h ⊢
    exact BI h fun s hs=>AV r ps s hs
   obtain⟨v,m,h1,h2⟩:=(j3 hz).1 h
   exact (j3 hz).2 ⟨v,m,h1,AV r ps _ h2⟩
  unfold gQ
  rw [hw]
  exact AV r ps _ h
theorem agT (ht:TT P tt) (hm:P.follows .mixedOrders=true) (plan:List Pl) (j:Nat) {id:Nat} {ops:Array Oper} (iq:xe ops plan=true) (h:Gw P tt ops.toList st.mem.length ops.toList plan { st with mem:=st.mem++List.replicate j .hole } (Q .normal)):X k_ m P ρ n0 (.region id ops true) st Q:=by
 have h:=AV _ _ _ h;cases m;·obtain⟨s,h1,h2⟩:=AU _ _ _ h;exact⟨.normal,s,h1,fun Q' h'=>qG ht hm plan j iq (h2 _ h')⟩
 exact qG ht hm plan j iq h
section
variable {k:Tk} {f:FuncId} {vs vs':List V} {o:Option (List V)} {keys:List (Nat×Nat)} {dst:Option Tmp} {Q:St->Prop}
theorem cF {R:V->Prop} (hr:∃ v,R v/\dz P f vs' v) (h:∀ v,R v->Q ({ st with mem:=iP st.mem keys v }.put dst v)):tq k m P f vs (some vs') keys st dst Q:=by obtain⟨v,h1,h2⟩:=hr;exact .inl ⟨vs',v,rfl,h2,h v h1⟩
theorem cN {R:V->Prop} (hr:∃ v,R v/\sS P f vs v) (h:∀ v,R v->Q (st.put dst v)):tq k m P f vs o keys st dst Q:=by obtain⟨v,h1,h2⟩:=hr;exact .inr (.inr (.inr ⟨v,h2,h v h1⟩))
theorem cW {R:V->List bx->Prop} (hr:∃ v m',R v m'/\bK P f vs st.mem v m') (h:∀ v m',R v m'->Q ({ st with mem:=m' }.put dst v)):tq k m P f vs o keys st dst Q:=by obtain⟨v,m',h1,h2⟩:=hr;exact .inr (.inl ⟨v,m',h2,h v m' h1⟩)
theorem cS {R:V->Prop} (hr:∃ v,R v/\bK P f vs st.mem v st.mem) (h:∀ v,R v->Q (st.put dst v)):tq k m P f vs o keys st dst Q:=by obtain⟨v,h1,h2⟩:=hr;exact .inr (.inl ⟨v,_,h2,h v h1⟩)
theorem cG {R:V->Prop} (hr:∃ v,R v/\dz P f vs' v) (h:∀ v,R v->Q (st.put dst v)):SK k P f (some vs') st dst Q:=by obtain⟨v,h1,h2⟩:=hr;exact⟨vs',v,rfl,.inl h2,h v h1⟩
theorem yL {R:V->List bx->Prop} {o:Option (List V)} (hr:∃ v m',R v m'/\bK P f vs st.mem v m') (h:∀ v m',R v m'->Q ({ st with mem:=m' }.put dst v)):SL k P f vs o keys st dst Q:=by obtain⟨v,m',h1,h2⟩:=hr;exact .inr ⟨v,m',h2,h v m' h1⟩
end
def Ar:Nat->List V->List (Nat×V)
 | i,v :: vs=>(i,v) :: Ar (i+1) vs
 | _,[]=>[]
theorem ND:∀ (vs:List V) (i t:Nat),lk t (Ar i vs)=if i<=t then vs.getD (t-i) .undef else .undef
 | [],i,t=>by simp [Ar,lk]
 | v :: vs,i,t=>by
  simp only [Ar,lk]
  rw [ND vs (i+1) t]
  by_cases h:i=t
  ·subst h;simp
  rw [g5 h]
  by_cases h2:i+1<=t
  ·rw [gH h2,gH (by omega),show t-i=(t-(i+1))+1 by omega];simp
  rw [g5 h2,g5 (by omega)]
theorem NF {fn:Func} {args:List V} {c:Code} (hn:fn.ntmps=n) (hl:args.length<=n) (h:X k_ m P ρ n0 c ⟨W n (Ar 0 args),mem⟩ Q):X k_ m P ρ n0 c (dj fn args mem) Q:=by
 refine SI (st':=⟨W n (Ar 0 args),mem⟩) (fun E w a hs=>⟨hs.F,hs.lt,hs.mem,hs.top,hs.ej,hs.apart,?_⟩) h;have hr:=hs.fr;simp only [dj,hn] at hr;refine⟨by rw [<- hr.1,tu,ab,List.length_replicate];omega,fun i v x hv hx=>?_⟩;rw [Cb] at hv;split at hv;·rename_i hi;cases hv;rw [ND,gH (aY _),auf,eY];cases ha:args[i]? with|none=>exact .undef _ _|some v=>exact hr.2 i v x (by rw [bz (az.1 ha).1];exact ha) hx
 cases hv
def Xh (R:V->Prop) (o:Option V):Prop:=∃ r,R r/\o=some r
theorem PH {R:V->Prop} {v:V}:Xh R (some v)=R v:=propext ⟨fun ⟨_,h,e⟩=>by cases e;exact h,fun h=>⟨v,h,rfl⟩⟩
theorem SO {K:V->Prop} {L:List V} {k:Nat} (h:L.length=k) (hk:K (.slice L)):Xh K (if k<=L.length then some (.slice (L.take k)) else none):=by subst h;rw [gH (aA _),aE];exact⟨_,hk,rfl⟩
def acC (R:V->Prop) (tt:Table) (rs:Array ResultVar) (e:Exit) (s:St):Prop:=(e = .ret\/e = .normal)/\Xh R (rm tt rs s)
theorem SP {R:V->Prop} {rs:Array ResultVar}:acC R tt rs .ret ⟨W n ws,mem⟩=Xh R (rm tt rs ⟨W n ws,mem⟩):=propext ⟨fun h=>h.2,fun h=>⟨.inl rfl,h⟩⟩
def Xi (R:V->List bx->Prop) (k:Nat) (o:Option V) (mem:List bx):Prop:=∃ r,R r mem/\o=some r/\aQ k r=true/\mem.all (a6 k)=true
theorem PI {R:V->List bx->Prop} {k:Nat} {v:V}:Xi R k (some v) mem=(R v mem/\aQ k v=true/\mem.all (a6 k)=true):=propext ⟨fun ⟨_,h,e,h2⟩=>by cases e;exact⟨h,h2⟩,fun ⟨h,h2⟩=>⟨v,h,rfl,h2⟩⟩
def SQ (R:V->List bx->Prop) (k:Nat) (tt:Table) (rs:Array ResultVar) (e:Exit) (s:St):Prop:=(e = .ret\/e = .normal)/\Xi R k (qh tt rs s) (s.mem.take k)
theorem SR {R:V->List bx->Prop} {k:Nat} {rs:Array ResultVar}:SQ R k tt rs .ret ⟨W n ws,mem⟩=Xi R k (qh tt rs ⟨W n ws,mem⟩) (mem.take k):=propext ⟨fun h=>h.2,fun h=>⟨.inl rfl,h⟩⟩
theorem PJ {R:V->List bx->Prop} {k:Nat} {rs:Array ResultVar}:SQ R k tt rs .normal ⟨W n ws,mem⟩=Xi R k (qh tt rs ⟨W n ws,mem⟩) (mem.take k):=propext ⟨fun h=>h.2,fun h=>⟨.inr rfl,h⟩⟩
end
section
variable {P:g7} {tt:Table} {f:FuncId} {fn:Func} {body:Code} {args:List V}
theorem vfn (ht:TT P tt) (sp:List Nat) (n:Nat) (rs:List ResultVar) {R:V->Prop} (hf:P.funcs[f]?=some fn) (hb:fn.body=some body)
  (fM:∀ (xs:Array Value) (w:World),(callFunc f xs).run P w = .ok (.enter f xs) w) (hn:fn.ntmps=n/\fn.results=rs.toArray/\args.length<=n)
  (h:∀ K:V->Prop,(∀ v,R v->K v)->vc false P tt sp none 0 body ⟨W n (Ar 0 args),[]⟩ (acC K tt rs.toArray)):∃ r,R r/\dz P f args r:=by have h:=h R fun _ h=>h;obtain⟨e,s,⟨h1,r,hr,h2⟩,h3⟩:=NF (m:=false) hn.1 hn.2.2 (vx (k_:=.b) ht h);exact⟨r,hr,Na ht hf hb fM (h3 _ ⟨h1,by rw [hn.2.1];exact h2⟩)⟩
theorem vfw (ht:TT P tt) (sp:List Nat) (n:Nat) (rs:List ResultVar) {R:V->List bx->Prop} {mem:List bx} (k:Nat) (hk:mem.length<=k) (hf:P.funcs[f]?=some fn) (hb:fn.body=some body)
  (fM:∀ (xs:Array Value) (w:World),(callFunc f xs).run P w = .ok (.enter f xs) w) (hn:fn.ntmps=n/\fn.results=rs.toArray/\args.length<=n)
  (h:∀ K:V->List bx->Prop,(∀ v m',R v m'->K v m')->vc false P tt sp none mem.length body ⟨W n (Ar 0 args),mem⟩ (SQ K k tt rs.toArray)):∃ r m',R r m'/\bK P f args mem r m':=by have h:=h R fun _ _ h=>h;obtain⟨e,s,⟨h1,r,hr,h2,h4⟩,h5⟩:=NF (m:=false) hn.1 hn.2.2 (vx (k_:=.b) ht h);exact⟨r,_,hr,oO ht k hk hf hb fM (h5 _ ⟨h1,by rw [hn.2.1];exact h2,h4.1,h4.2,rfl⟩)⟩
theorem PK (ht:TT P tt) (sp:List Nat) (n:Nat) (rs:List ResultVar) {R:V->Prop} {mem:List bx} (hf:P.funcs[f]?=some fn) (hb:fn.body=some body)
  (fM:∀ (xs:Array Value) (w:World),(callFunc f xs).run P w = .ok (.enter f xs) w) (hn:fn.ntmps=n/\fn.results=rs.toArray/\args.length<=n)
  (h:∀ K:V->List bx->Prop,(∀ v m',R v/\m'=mem->K v m')->vc false P tt sp none mem.length body ⟨W n (Ar 0 args),mem⟩ (SQ K mem.length tt rs.toArray)):∃ r,R r/\bK P f args mem r mem:=by obtain⟨r,m',⟨hr,rfl⟩,h⟩:=vfw ht sp n rs (R:=fun r m'=>R r/\m'=mem) mem.length (aA _) hf hb fM hn h;exact⟨r,hr,h⟩
end
end Go.Eng
end
section
namespace Go.Eng
variable [bJ]
open Go.RowKit (Below)
mutual
def l9 (σ:Nat->Nat):V->V
 | .undef=>.undef
 | .sc v=>.sc v
 | .agg cs=>.agg (uU σ cs)
 | .slice rows=>.slice rows
 | .ms b v s l=>.ms (σ b) v s l
 | .ptr b o=>.ptr (σ b) o
 | .iI b v i o=>.iI (σ b) v i o
 | .fQ cs=>.fQ cs
 | .jh f first cap=>.jh f (uU σ first) (uU σ cap)
 | .fZ vs=>.fZ (uU σ vs)
 | .kx b=>.kx (σ b)
 | .mp b=>.mp (σ b)
 | .gn=>.gn
 | .full rows=>.full rows
def uU (σ:Nat->Nat):List V->List V
 | []=>[]
 | c :: r=>l9 σ c :: uU σ r
end
theorem iS (σ:Nat->Nat):∀ l:List V,uU σ l=l.map (l9 σ)
 | []=>rfl
 | c :: r=>by rw [uU,iS σ r];rfl
def DW (σ:Nat->Nat):bx->bx
 | .box cs=>.box (uU σ cs)
 | .loop s p fr ps a b=>.loop s p (uU σ fr) ps a b
 | .map dU c=>.map (dU.map fun e=>(e.1,e.2.1,l9 σ e.2.2)) c
 | .jX m since seen last=>.jX (σ m) since seen last
 | .ox T kb v l=>.ox T (σ kb) v l
 | B=>B
theorem I2 (σ:Nat->Nat) (B:bx):(DW σ B).ej=B.ej:=by cases B <;> rfl
theorem df.LO {E:Env} {v:V} {x:Value} (h:df E v x):∀ {n:Nat} {σ:Nat->Nat} {E2:Env},aQ n v=true->(∀ ad y,E.F ad=some y->E2.F ad=some y)->(∀ k v t,k<n->E.cE k v=some t->E2.cE (σ k) v=some t)->df E2 (l9 σ v) x:=by induction h with|undef=>intros;exact .undef _ _|sc=>intros;exact .sc _ _|slice E rows a cap vz ad xf ha mF hz hF h1 hR ih =>intro n σ E2 hb j7 hk;exact .slice _ _ _ _ vz ad xf ha mF hz (fun i row j c hi hj=>j7 _ _ (hF i row j c hi hj)) h1 fun i row j c hi hj=>(hR i row j c hi hj).mono ⟨j7,fun _ _ _ h=>by cases h⟩|ms E b v s l g e c a cap fw hl h0 wD =>intro n σ E2 hb j7 hk;exact .ms _ _ _ _ _ g e c _ _ (hk _ _ _ (by simpa [aQ] using hb) fw) hl h0 wD|jr=>intros;exact .jr _ _ _ _|ptr E b o g e c fw =>intro n σ E2 hb j7 hk;exact .ptr _ _ _ g e c (hk _ _ _ (by simpa [aQ] using hb) fw)|kx E b l e c fw =>intro n σ E2 hb j7 hk;exact .kx _ _ l e c (hk _ _ _ (by simpa [aQ] using hb) fw)|mp E b l e c fw =>intro n σ E2 hb j7 hk;exact .mp _ _ l e c (hk _ _ _ (by simpa [aQ] using hb) fw)|iI E b v i o g e c fw =>intro n σ E2 hb j7 hk;exact .iI _ _ _ _ _ g e c (hk _ _ _ (by simpa [aQ] using hb) fw)|fQ E cs ad xf hF hR ih =>intro n σ E2 hb j7 hk;exact .fQ _ _ _ xf (fun j c hj=>j7 _ _ (hF j c hj)) fun j c hj=>(hR j c hj).mono ⟨j7,fun _ _ _ h=>by cases h⟩|gn=>intros;exact .gn _|full E rows a h ih =>intro n σ E2 hb j7 hk;exact .full _ _ _ (ih (n:=n) (σ:=σ) rfl j7 hk)|agg E cs xs hl hh ih =>intro n σ E2 hb j7 hk;rw [aQ,gR] at hb;rw [l9,iS];refine .agg _ _ _ (by rw [aC];exact hl) fun i c x hc hx=>?_;rw [ae,bp] at hc;obtain⟨c0,IP,rfl⟩:=hc;exact ih i c0 x IP hx (ba.1 hb c0 (aw IP)) j7 hk|fZ E cs xs hl hh ih =>intro n σ E2 hb j7 hk;rw [aQ,gR] at hb;rw [l9,iS];refine .fZ _ _ _ (by rw [aC];exact hl) fun i c x hc hx=>?_;rw [ae,bp] at hc;obtain⟨c0,IP,rfl⟩:=hc;exact ih i c0 x IP hx (ba.1 hb c0 (aw IP)) j7 hk|jh E f first cap xs ys hx hy h1 h2 ih1 ih2 =>intro n σ E2 hb j7 hk;rw [aQ,gR,gR,aG] at hb;rw [l9,iS,iS];refine .jh _ _ _ _ _ _ (by rw [aC];exact hx) (by rw [aC];exact hy) (fun i c x hc hx=>?_) fun i c x hc hx=>?_;(·rw [ae,bp] at hc;obtain⟨c0,IP,rfl⟩:=hc;exact ih1 i c0 x IP hx (ba.1 hb.1 c0 (aw IP)) j7 hk);rw [ae,bp] at hc;obtain⟨c0,IP,rfl⟩:=hc;exact ih2 i c0 x IP hx (ba.1 hb.2 c0 (aw IP)) j7 hk
theorem df.xr {E:Env} {u:V} {x:Value} (h:df E u x):∀ {v:V} {n:Nat} {σ:Nat->Nat} {E2:Env},u=l9 σ v->aQ n v=true->(∀ ad y,E.F ad=some y->E2.F ad=some y)->(∀ k v t,k<n->E.cE (σ k) v=some t->E2.cE k v=some t)->df E2 v x:=by induction h with|undef =>intro v n σ E2 he hb j7 hk;cases v <;> simp only [l9,reduceCtorEq] at he;exact .undef _ _|sc =>intro v n σ E2 he hb j7 hk;cases v <;> simp only [l9,reduceCtorEq,V.sc.injEq] at he;subst he;exact .sc _ _|slice E rows a cap vz ad xf ha mF hz hF h1 hR ih =>intro v n σ E2 he hb j7 hk;cases v <;> simp only [l9,reduceCtorEq,V.slice.injEq] at he;subst he;exact .slice _ _ _ _ vz ad xf ha mF hz (fun i row j c hi hj=>j7 _ _ (hF i row j c hi hj)) h1 fun i row j c hi hj=>(hR i row j c hi hj).mono ⟨j7,fun _ _ _ h=>by cases h⟩|ms E b v s l g e c a cap fw hl h0 wD =>intro v n σ E2 he hb j7 hk;cases v <;> simp only [l9,reduceCtorEq,V.ms.injEq] at he;obtain⟨rfl,rfl,rfl,rfl⟩:=he;exact .ms _ _ _ _ _ g e c _ _ (hk _ _ _ (by simpa [aQ] using hb) fw) hl h0 wD|jr =>intro v n σ E2 he hb j7 hk;cases v <;> simp only [l9,reduceCtorEq,V.ms.injEq] at he;obtain⟨rfl,rfl,rfl,rfl⟩:=he;exact .jr _ _ _ _|ptr E b o g e c fw =>intro v n σ E2 he hb j7 hk;cases v <;> simp only [l9,reduceCtorEq,V.ptr.injEq] at he;obtain⟨rfl,rfl⟩:=he;exact .ptr _ _ _ g e c (hk _ _ _ (by simpa [aQ] using hb) fw)|kx E b l e c fw =>intro v n σ E2 he hb j7 hk;cases v <;> simp only [l9,reduceCtorEq,V.kx.injEq] at he;subst he;exact .kx _ _ l e c (hk _ _ _ (by simpa [aQ] using hb) fw)|mp E b l e c fw =>intro v n σ E2 he hb j7 hk;cases v <;> simp only [l9,reduceCtorEq,V.mp.injEq] at he;subst he;exact .mp _ _ l e c (hk _ _ _ (by simpa [aQ] using hb) fw)|iI E b v i o g e c fw =>intro v n σ E2 he hb j7 hk;cases v <;> simp only [l9,reduceCtorEq,V.iI.injEq] at he;obtain⟨rfl,rfl,rfl,rfl⟩:=he;exact .iI _ _ _ _ _ g e c (hk _ _ _ (by simpa [aQ] using hb) fw)|fQ E cs ad xf hF hR ih =>intro v n σ E2 he hb j7 hk;cases v <;> simp only [l9,reduceCtorEq,V.fQ.injEq] at he;subst he;exact .fQ _ _ _ xf (fun j c hj=>j7 _ _ (hF j c hj)) fun j c hj=>(hR j c hj).mono ⟨j7,fun _ _ _ h=>by cases h⟩|full E rows a h ih =>intro v n σ E2 he hb j7 hk;cases v <;> simp only [l9,reduceCtorEq,V.full.injEq] at he;subst he;exact .full _ _ _ (ih (v:=.slice rows) (n:=n) (σ:=σ) rfl rfl j7 hk)|gn =>intro v n σ E2 he hb j7 hk;cases v <;> simp only [l9,reduceCtorEq] at he;exact .gn _|agg E cs xs hl hh ih =>intro v n σ E2 he hb j7 hk;cases v <;> simp only [l9,reduceCtorEq,V.agg.injEq] at he;subst he;rw [aQ,gR] at hb;rw [iS,aC] at hl;refine .agg _ _ _ hl fun i c x hc hx=>?_;exact ih i (l9 σ c) x (by rw [iS,ae,hc];rfl) hx rfl (ba.1 hb c (aw hc)) j7 hk|fZ E cs xs hl hh ih =>intro v n σ E2 he hb j7 hk;cases v <;> simp only [l9,reduceCtorEq,V.fZ.injEq] at he;subst he;rw [aQ,gR] at hb;rw [iS,aC] at hl;refine .fZ _ _ _ hl fun i c x hc hx=>?_;exact ih i (l9 σ c) x (by rw [iS,ae,hc];rfl) hx rfl (ba.1 hb c (aw hc)) j7 hk|jh E f first cap xs ys hx hy h1 h2 ih1 ih2 =>intro v n σ E2 he hb j7 hk;cases v <;> simp only [l9,reduceCtorEq,V.jh.injEq] at he;obtain⟨rfl,rfl,rfl⟩:=he;rw [aQ,gR,gR,aG] at hb;rw [iS,aC] at hx hy;refine .jh _ _ _ _ _ _ hx hy (fun i c x hc hx=>?_) fun i c x hc hx=>?_;(·exact ih1 i (l9 σ c) x (by rw [iS,ae,hc];rfl) hx rfl (ba.1 hb.1 c (aw hc)) j7 hk);exact ih2 i (l9 σ c) x (by rw [iS,ae,hc];rfl) hx rfl (ba.1 hb.2 c (aw hc)) j7 hk
theorem dh.LO {E E2:Env} {vs:List V} {xs:List Value} {n:Nat} {σ:Nat->Nat} (h:dh E vs xs) (hb:vs.all (aQ n)=true) (hF:∀ ad y,E.F ad=some y->E2.F ad=some y) (hk:∀ k v t,k<n->E.cE k v=some t->E2.cE (σ k) v=some t):dh E2 (uU σ vs) xs:=by rw [iS];refine⟨by rw [aC];exact h.1,fun i v x hv hx=>?_⟩;rw [ae,bp] at hv;obtain⟨c,hc,rfl⟩:=hv;exact (h.2 i c x hc hx).LO (ba.1 hb c (aw hc)) hF hk
theorem dh.xr {E E2:Env} {vs:List V} {xs:List Value} {n:Nat} {σ:Nat->Nat} (h:dh E (uU σ vs) xs) (hb:vs.all (aQ n)=true) (hF:∀ ad y,E.F ad=some y->E2.F ad=some y) (hk:∀ k v t,k<n->E.cE (σ k) v=some t->E2.cE k v=some t):dh E2 vs xs:=by rw [iS] at h;refine⟨by have:=h.1;rwa [aC] at this,fun i v x hv hx=>?_⟩;exact (h.2 i (l9 σ v) x (by rw [ae,hv];rfl) hx).xr rfl (ba.1 hb v (aw hv)) hF hk
theorem k6.LO {E E2:Env} {w w2:World} {k:Nat} {B:bx} {n:Nat} {σ:Nat->Nat} (h:k6 E w k B) (fe:k<n) (hb:a6 n B=true) (hF:E2.F=E.F) (hk:∀ k v,k<n->E2.cE (σ k) v=E.cE k v) (hw:w2.heap=w.heap):k6 E2 w2 (σ k) (DW σ B):=by
 have Ig:∀ ad y,E.F ad=some y->E2.F ad=some y:=fun ad y h=>by rw [hF];exact h
 have gW:∀ k v t,k<n->E.cE k v=some t->E2.cE (σ k) v=some t:=fun k v t hn h=>by rw [hk k v hn];exact h
 have hp:E2.pure=E.pure:=Env.OO hF rfl;cases B with|hole=>(exact fun v=>by rw [hk k v fe];exact h v)|dead=>trivial|box cs =>obtain⟨g,T,xs,h1,h2,h3,h4⟩:=h;exact⟨g,T,xs,gW _ _ _ fe h1,by rw [hw];exact h2,h3.LO hb Ig gW,fun o=>by rw [hF];exact h4 o⟩|rows v e rs =>((rcases h with ⟨h1,h2⟩|⟨g,T,xs,c,h1,h2,h3,h4,h5,h6⟩);(·exact .inl ⟨h1,by rw [hk k v fe];exact h2⟩);exact .inr ⟨g,T,xs,c,gW _ _ _ fe h1,by rw [hw];exact h2,h3,h4,by rw [hp];exact h5,fun o=>by rw [hF];exact h6 o⟩)|sF v e rs =>((rcases h with ⟨h1,h2⟩|⟨g,c,h1,h2,h3⟩);(·exact .inl ⟨h1,by rw [hk k v fe];exact h2⟩);exact .inr ⟨g,c,gW _ _ _ fe h1,h2,by rw [hp,hF];exact h3⟩)|loop s oe fr params assign body =>obtain⟨l,fn,tmps,db,h1,h2,h3,h4⟩:=h;exact⟨l,fn,tmps,db,gW _ _ _ fe h1,by rw [hw];exact h2,h3.LO hb Ig gW,fun o=>by rw [hF];exact h4 o⟩|map dU clock =>obtain⟨g,es,h1,h2,h3,h4⟩:=h;refine⟨g,es,gW _ _ _ fe h1,by rw [hw];exact h2,⟨by rw [aC];exact h3.1,fun i kb e kT he=>?_⟩,fun o=>by rw [hF];exact h4 o⟩;rw [ae,bp] at kT;obtain⟨q,hq,rfl⟩:=kT;obtain⟨p1,p2,p3⟩:=h3.2 i q e hq he;exact⟨p1,p2,p3.LO (ba.1 hb q (aw hq)) Ig gW⟩|jX m since seen last =>obtain⟨g,gm,e,c,h1,h2,h3,h4⟩:=h;exact⟨g,gm,e,c,gW _ _ _ fe h1,gW _ _ _ (by simpa [a6] using hb) h2,by rw [hw];exact h3,fun o=>by rw [hF];exact h4 o⟩|ox T kb v l =>obtain⟨g,T',p,s,h1,h2,h3,h4,h5⟩:=h;exact⟨g,T',p,s,gW _ _ _ fe h1,by rw [hw];exact h2,h3,h4.LO (n:=n) (by simpa [a6,aQ] using hb) Ig gW,fun o=>by rw [hF];exact h5 o⟩|pq T v O =>((rcases h with ⟨h1,h2⟩|⟨g,cur,c,h1,h2,h3,h4,h5,h6⟩);(·exact .inl ⟨h1,by rw [hk k v fe];exact h2⟩);exact .inr ⟨g,cur,c,gW _ _ _ fe h1,by rw [hw];exact h2,h3,h4,h5,fun o=>by rw [hF];exact h6 o⟩)|n9 s pos =>obtain⟨g,h1,h2,h3⟩:=h;exact⟨g,gW _ _ _ fe h1,by rw [hw];exact h2,fun o=>by rw [hF];exact h3 o⟩|oG =>obtain⟨g,h1,h2,h3⟩:=h;exact⟨g,gW _ _ _ fe h1,by rw [hw];exact h2,fun o=>by rw [hF];exact h3 o⟩
theorem k6.xr {E E2:Env} {w:World} {k:Nat} {B:bx} {n:Nat} {σ:Nat->Nat} (h:k6 E w (σ k) (DW σ B)) (fe:k<n) (hb:a6 n B=true) (hF:E2.F=E.F) (hk:∀ k v,k<n->E2.cE k v=E.cE (σ k) v):k6 E2 w k B:=by
 have Ig:∀ ad y,E.F ad=some y->E2.F ad=some y:=fun ad y h=>by rw [hF];exact h
 have gW:∀ k v t,k<n->E.cE (σ k) v=some t->E2.cE k v=some t:=fun k v t hn h=>by rw [hk k v hn];exact h
 have hp:E2.pure=E.pure:=Env.OO hF rfl;cases B with|hole=>(exact fun v=>by rw [hk k v fe];exact h v)|dead=>trivial|box cs =>obtain⟨g,T,xs,h1,h2,h3,h4⟩:=h;exact⟨g,T,xs,gW _ _ _ fe h1,h2,h3.xr hb Ig gW,fun o=>by rw [hF];exact h4 o⟩|rows v e rs =>((rcases h with ⟨h1,h2⟩|⟨g,T,xs,c,h1,h2,h3,h4,h5,h6⟩);(·exact .inl ⟨h1,by rw [hk k v fe];exact h2⟩);exact .inr ⟨g,T,xs,c,gW _ _ _ fe h1,h2,h3,h4,by rw [hp];exact h5,fun o=>by rw [hF];exact h6 o⟩)|sF v e rs =>((rcases h with ⟨h1,h2⟩|⟨g,c,h1,h2,h3⟩);(·exact .inl ⟨h1,by rw [hk k v fe];exact h2⟩);exact .inr ⟨g,c,gW _ _ _ fe h1,h2,by rw [hp,hF];exact h3⟩)|loop s oe fr params assign body =>obtain⟨l,fn,tmps,db,h1,h2,h3,h4⟩:=h;exact⟨l,fn,tmps,db,gW _ _ _ fe h1,h2,h3.xr hb Ig gW,fun o=>by rw [hF];exact h4 o⟩|map dU clock =>obtain⟨g,es,h1,h2,h3,h4⟩:=h;refine⟨g,es,gW _ _ _ fe h1,h2,⟨by have:=h3.1;rwa [aC] at this,fun i q e hq he=>?_⟩,fun o=>by rw [hF];exact h4 o⟩;obtain⟨p1,p2,p3⟩:=h3.2 i _ e (by rw [ae,hq];rfl) he;exact⟨p1,p2,p3.xr rfl (ba.1 hb q (aw hq)) Ig gW⟩|jX m since seen last =>obtain⟨g,gm,e,c,h1,h2,h3,h4⟩:=h;exact⟨g,gm,e,c,gW _ _ _ fe h1,gW _ _ _ (by simpa [a6] using hb) h2,h3,fun o=>by rw [hF];exact h4 o⟩|ox T kb v l =>obtain⟨g,T',p,s,h1,h2,h3,h4,h5⟩:=h;exact⟨g,T',p,s,gW _ _ _ fe h1,h2,h3,df.xr h4 (v:=.ms kb v 0 l) (n:=n) rfl (by simpa [a6,aQ] using hb) Ig gW,fun o=>by rw [hF];exact h5 o⟩|pq T v O =>((rcases h with ⟨h1,h2⟩|⟨g,cur,c,h1,h2,h3,h4,h5,h6⟩);(·exact .inl ⟨h1,by rw [hk k v fe];exact h2⟩);exact .inr ⟨g,cur,c,gW _ _ _ fe h1,h2,h3,h4,h5,fun o=>by rw [hF];exact h6 o⟩)|n9 s pos =>obtain⟨g,h1,h2,h3⟩:=h;exact⟨g,gW _ _ _ fe h1,h2,fun o=>by rw [hF];exact h3 o⟩|oG =>obtain⟨g,h1,h2,h3⟩:=h;exact⟨g,gW _ _ _ fe h1,h2,fun o=>by rw [hF];exact h3 o⟩
def tB (σ:Nat->Nat):Nat->List bx->List bx->List bx
 | _,[],M=>M
 | i,B :: r,M=>tB σ (i+1) r (M.set (σ i) (DW σ B))
def I3 (σ:Nat->Nat) (n:Nat) (b7 M:List bx):List bx:=tB σ 0 (b7.take n) M++(b7.drop n).map (DW σ)
theorem j5 (σ:Nat->Nat):∀ (l:List bx) (i:Nat) (M:List bx),(tB σ i l M).length=M.length
 | [],_,_=>rfl
 | B :: r,i,M=>by rw [tB,j5 σ r];simp
theorem yM (σ:Nat->Nat):∀ (l:List bx) (i:Nat) (M:List bx) (k:Nat),(∀ j,i<=j->j<i+l.length->σ j≠k)->(tB σ i l M)[k]?=M[k]?
 | [],_,_,_,_=>rfl
 | B :: r,i,M,k,h=>by
  rw [tB,yM σ r (i+1) _ k fun j h1 h2=>h j (by omega) (by simp;omega),cT (h i (aA _) (by simp))]
theorem EF (σ:Nat->Nat):∀ (l:List bx) (i:Nat) (M:List bx) (j:Nat) (B:bx),(∀ a b,i<=a->a<i+l.length->i<=b->b<i+l.length->σ a=σ b->a=b)->i<=j->l[j-i]?=some B->σ j<M.length->(tB σ i l M)[σ j]?=some (DW σ B)
 | [],_,_,_,_,_,_,h,_=>by simp at h
 | C :: r,i,M,j,B,PL,KH,h,bH=>by
  rw [tB]
  by_cases hj:j=i
  ·subst hj
   rw [dW] at h;cases h
   rw [yM σ r (j+1) _ (σ j) fun a h1 h2 e=>by have:=PL a j (by omega) (by simp;omega) (aA _) (by simp) e;omega]
   rw [cf];simp [bH]
  refine EF σ r (i+1) _ j B (fun a b h1 h2 h3 h4=>PL a b (by omega) (by simp;omega) (by omega) (by simp;omega)) (by omega) ?_ (by simpa using bH)
  rw [show j-i=(j-(i+1))+1 by omega] at h
  simpa using h
theorem bK.LO {P:g7} {f:FuncId} {vs:List V} {r:V} {mem b7:List bx} (h:bK P f vs mem r b7) (M:List bx) (σ:Nat->Nat) (n:Nat) (hn:n=mem.length) (hv:vs.all (aQ n)=true) (hm:mem.all (a6 n)=true) (hr:aQ b7.length r=true)
  (hm':b7.all (a6 b7.length)=true) (hlen:n<=b7.length) (hσ:∀ i B,mem[i]?=some B->M[σ i]?=some (DW σ B)) (PL:∀ i j,i<n->j<n->σ i=σ j->i=j) (qc:∀ j,n<=j->σ j=M.length+(j-n)) :
  bK P f (uU σ vs) M (l9 σ r) (I3 σ n b7 M):=by
 subst hn;have hold:∀ i,i<mem.length->σ i<M.length:=fun i hi=>(az.1 (hσ i _ (bf hi))).1;have hL:(I3 σ mem.length b7 M).length=M.length+(b7.length-mem.length):=by unfold I3;rw [ab,j5,aC,eL]
 have Pu:∀ i B,b7[i]?=some B->(I3 σ mem.length b7 M)[σ i]?=some (DW σ B):=fun i B hi=>by unfold I3;(rcases bn i mem.length with bH|fP);(·rw [bz (by rw [j5];exact hold i bH)];refine EF σ _ 0 M i B (fun a b _ h2 _ h4 he=>?_) (aY _) (by rw [auf,hH bH];exact hi) (hold i bH);rw [eK] at h2 h4;exact PL a b (by omega) (by omega) he);rw [qc i fP,bm (by rw [j5];omega),j5,eC,ae,av9,show mem.length+(i-mem.length)=i by omega,hi];rfl
 have dI:∀ k,k<M.length->(∀ i,i<mem.length->σ i≠k)->(I3 σ mem.length b7 M)[k]?=M[k]?:=fun k hk h=>by unfold I3;rw [bz (by rw [j5];exact hk)];exact yM σ _ 0 M k fun j _ h2=>h j (by rw [eK] at h2;omega)
 generalize I3 σ mem.length b7 M=M' at hL Pu dI;refine⟨h.1,fun E w xs hs hx=>?_⟩;have hE0:∀ k v,k<mem.length->(⟨E.F,fun k v=>if k<mem.length then E.cE (σ k) v else none,E.gl⟩:Env).cE k v=E.cE (σ k) v:=fun k v hk=>gH hk;have acD:∀ k v,mem.length<=k->(⟨E.F,fun k v=>if k<mem.length then E.cE (σ k) v else none,E.gl⟩:Env).cE k v=none:=fun k v hk=>g5 (by omega);have LP:(⟨E.F,fun k v=>if k<mem.length then E.cE (σ k) v else none,E.gl⟩:Env).F=E.F:=rfl;generalize (⟨E.F,fun k v=>if k<mem.length then E.cE (σ k) v else none,E.gl⟩:Env)=E0 at hE0 acD LP;have pY:∀ k v t,E0.cE k v=some t->k<mem.length/\E.cE (σ k) v=some t:=fun k v t h=>by (rcases bn k mem.length with hk|hk);(·exact⟨hk,by rw [<- hE0 k v hk];exact h⟩);rw [acD k v hk] at h;cases h
 have K8:dt E0 w { tmps := #[],defers:=[] } { fr:=[],mem:=mem } :=
  ⟨fun ad y hy=>hs.F ad y (by rw [<- LP];exact hy),fun k v g e c hk=>hs.lt _ _ _ _ _ (pY _ _ _ hk).2,
   fun k B hk=>(hs.mem _ _ (hσ k B hk)).xr (az.1 hk).1 (ba.1 hm B (aw hk)) LP hE0,
   fun k hk v=>acD k v hk,fun k B hk v hv=>by
    rw [hE0 k v (az.1 hk).1]
    exact hs.ej _ _ (hσ k B hk) v (by rw [I2];exact hv),
   fun k k' v v' g e c e' c' h1 h2=>by
    obtain⟨p1,p2⟩:=pY _ _ _ h1
    obtain⟨q1,q2⟩:=pY _ _ _ h2
    exact PL k k' p1 q1 (hs.apart _ _ _ _ _ _ _ _ _ p2 q2),.nil _⟩
 have MZ:dh E0 vs xs.toList:=hx.xr hv (fun ad y hy=>by rw [LP];exact hy) fun k v t hk h=>by rw [hE0 k v hk];exact h
 refine (h.2 E0 w xs K8 MZ).mono ?_;rintro en w1 ⟨E1,x,rfl,gM,qo,KI⟩;have Xj:∀ i v,i<mem.length->(⟨E1.F,fun K v=>match (List.range mem.length).find? (fun i=>σ i==K) with|some i=>E1.cE i v|none=>if K<M.length then E.cE K v else E1.cE (K-M.length+mem.length) v,E1.gl⟩:Env).cE (σ i) v=E1.cE i v:=fun i v hi=>by show (match (List.range mem.length).find? (fun j=>σ j==σ i) with|some i=>E1.cE i v|none=>_)=_;(have:(List.range mem.length).find? (fun j=>σ j==σ i)=some i:=by cases hf:(List.range mem.length).find? (fun j=>σ j==σ i) with|none =>have:=awB.1 hf i (api.2 hi);simp at this|some j =>have h1:=List.find?_some hf;have h2:=api.1 (List.mem_of_find?_eq_some hf);rw [PL j i h2 hi (by simpa using h1)]);rw [this]
 have lH:∀ K,(∀ i,i<mem.length->σ i≠K)->(List.range mem.length).find? (fun i=>σ i==K)=none:=fun K h=>awB.2 fun i hi=>by have:=h i (api.1 hi);simpa using this
 have hB:∀ K v,K<M.length->(∀ i,i<mem.length->σ i≠K)->(⟨E1.F,fun K v=>match (List.range mem.length).find? (fun i=>σ i==K) with|some i=>E1.cE i v|none=>if K<M.length then E.cE K v else E1.cE (K-M.length+mem.length) v,E1.gl⟩:Env).cE K v=E.cE K v:=fun K v hK h=>by show (match (List.range mem.length).find? (fun j=>σ j==K) with|some i=>E1.cE i v|none=>_)=_;rw [lH K h];exact gH hK
 have HD:∀ i v,mem.length<=i->(⟨E1.F,fun K v=>match (List.range mem.length).find? (fun i=>σ i==K) with|some i=>E1.cE i v|none=>if K<M.length then E.cE K v else E1.cE (K-M.length+mem.length) v,E1.gl⟩:Env).cE (σ i) v=E1.cE i v:=fun i v hi=>by show (match (List.range mem.length).find? (fun j=>σ j==σ i) with|some i=>E1.cE i v|none=>_)=_;have rb:=qc i hi;rw [lH (σ i) fun j hj e=>by have:=hold j hj;omega];show (if σ i<M.length then E.cE (σ i) v else E1.cE (σ i-M.length+mem.length) v)=_;rw [g5 (by omega),rb,show M.length+(i-mem.length)-M.length+mem.length=i by omega]
 have LQ:(⟨E1.F,fun K v=>match (List.range mem.length).find? (fun i=>σ i==K) with|some i=>E1.cE i v|none=>if K<M.length then E.cE K v else E1.cE (K-M.length+mem.length) v,E1.gl⟩:Env).F=E1.F:=rfl;generalize (⟨E1.F,fun K v=>match (List.range mem.length).find? (fun i=>σ i==K) with|some i=>E1.cE i v|none=>if K<M.length then E.cE K v else E1.cE (K-M.length+mem.length) v,E1.gl⟩:Env)=E2 at Xj hB HD LQ;have hA:∀ i v,E2.cE (σ i) v=E1.cE i v:=fun i v=>by (rcases bn i mem.length with hi|hi);(·exact Xj i v hi);exact HD i v hi
 have cl:∀ K,(∃ i,K=σ i)\/(K<M.length/\∀ i,i<mem.length->σ i≠K):=fun K=>by (rcases bn K M.length with hK|hK);(·by_cases h:∃ i,i<mem.length/\σ i=K;(·obtain⟨i,-,hi⟩:=h;exact .inl ⟨i,hi.symm⟩);exact .inr ⟨hK,fun i hi e=>h ⟨i,hi,e⟩⟩);exact .inl ⟨K-M.length+mem.length,by rw [qc _ (by omega)];omega⟩
 have BA:∀ K v g e c,(∀ i,i<mem.length->σ i≠K)->E.cE K v=some (g,e,c)->∀ k0 v0 e0 c0,E0.cE k0 v0≠some (g,e0,c0):=fun K v g e c hK hb k0 v0 e0 c0 h=>by obtain⟨h1,h2⟩:=pY _ _ _ h;exact hK k0 h1 (hs.apart _ _ _ _ _ _ _ _ _ h2 hb)
 have hle:E.le E2:=⟨fun ad y hy=>by rw [LQ];exact gM.le.F _ _ (by rw [LP];exact hy),fun K v t hk=>by (rcases cl K with ⟨i,rfl⟩|⟨hK,xt⟩);(·rw [hA i v];(rcases bn i mem.length with hi|hi);(·exact gM.le.cE _ _ _ (by rw [hE0 i v hi];exact hk));rw [hs.top (σ i) (by rw [qc i hi];dsimp only;omega) v] at hk;cases hk);rw [hB K v hK xt];exact hk⟩;refine⟨E2,x,rfl,⟨hle,fun K v g e c hk=>?_,fun ad y hy=>?_,gM.os,gM.tape,gM.output,gM.size,fun b hb dI=>gM.heap b hb fun k v e c h=>dI _ _ _ _ (pY _ _ _ h).2⟩, ⟨fun ad y hy=>qo.F _ _ (by rw [<- LQ];exact hy),fun K v g e c hk=>?_,fun K B hk=>?_,fun K hk v=>?_,fun K B hk v hv=>?_,fun K K' v v' g e1 c1 e2 c2 h5 h6=>?_,.nil _⟩,KI.LO hr (fun ad y hy=>by rw [LQ];exact hy) fun k v t _ hk=>by rw [hA];exact hk⟩;·(rcases cl K with ⟨i,rfl⟩|⟨hK,xt⟩);(·rw [hA i v] at hk;(rcases gM.cE _ _ _ _ _ hk with ⟨k0,v0,e0,c0,h⟩|h);(·exact .inl ⟨_,_,_,_,(pY _ _ _ h).2⟩);exact .inr h);rw [hB K v hK xt] at hk;exact .inl ⟨_,_,_,_,hk⟩
 ·rw [LQ] at hy;(rcases gM.F _ _ hy with h|h|⟨k0,v0,e0,c0,h⟩);(·exact .inl (by rw [<- LP];exact h));(·exact .inr (.inl h));exact .inr (.inr ⟨_,_,_,_,(pY _ _ _ h).2⟩)
 ·(rcases cl K with ⟨i,rfl⟩|⟨hK,xt⟩);(·rw [hA i v] at hk;exact qo.lt _ _ _ _ _ hk);rw [hB K v hK xt] at hk;exact rV (hs.lt _ _ _ _ _ hk) gM.size
 ·(rcases cl K with ⟨i,rfl⟩|⟨hK,xt⟩);(·(have hi:i<b7.length:=by have h1:=(az.1 hk).1;(rcases bn i mem.length with h2|h2);(·omega);have h3:=qc i h2;dsimp only at h1;omega);have mm:=Pu i _ (bf hi);rw [hk] at mm;cases mm;exact (qo.mem i _ (bf hi)).LO hi (ba.1 hm' _ (List.getElem_mem hi)) LQ (fun k v _=>hA k v) rfl);dsimp only at hk;rw [dI K hK xt] at hk;refine (hs.mem K B hk).mono hle (fun v hv=>by rw [hB K v hK xt];exact hv) (fun g e c hb=>gM.heap g (hs.lt _ _ _ _ _ hb) fun k0 v0 e0 c0 h=>BA _ _ _ _ _ xt hb _ _ _ _ h) fun g e c o hb hn=>?_;rw [LQ];cases hy:E1.F ⟨g,o,none⟩ with|none=>rfl|some y =>(rcases gM.F _ _ hy with h|h|⟨k0,v0,e0,c0,h⟩);(·rw [LP,hn] at h;cases h);(·have:=hs.lt _ _ _ _ _ hb;simp at h;omega);exact absurd h (BA _ _ _ _ _ xt hb _ _ _ _)
 ·(rcases cl K with ⟨i,rfl⟩|⟨hK,xt⟩);(·rw [hA i v];refine qo.top i ?_ v;dsimp only at hk ⊢;(rcases bn i mem.length with h2|h2);(·have:=hold i h2;omega);have h3:=qc i h2;omega);dsimp only at hk;omega
 ·(rcases cl K with ⟨i,rfl⟩|⟨hK,xt⟩);(·rw [hA i v];(have hi:i<b7.length:=by have h1:=(az.1 hk).1;(rcases bn i mem.length with h2|h2);(·omega);have h3:=qc i h2;dsimp only at h1;omega);have mm:=Pu i _ (bf hi);rw [hk] at mm;cases mm;rw [I2] at hv;exact qo.ej i _ (bf hi) v hv);rw [hB K v hK xt];dsimp only at hk;rw [dI K hK xt] at hk;exact hs.ej K B hk v hv
 have mixed:∀ i K' v v' g e1 c1 e2 c2,(∀ i,i<mem.length->σ i≠K')->E1.cE i v=some (g,e1,c1)->E.cE K' v'=some (g,e2,c2)->False:=fun i K' v v' g e1 c1 e2 c2 hK' h h'=>by (rcases gM.cE _ _ _ _ _ h with ⟨k0,v0,e0,c0,h0⟩|h0);(·exact absurd h0 (BA _ _ _ _ _ hK' h' _ _ _ _));have:=hs.lt _ _ _ _ _ h';omega
 rcases cl K with ⟨i,rfl⟩|⟨hK,acE⟩ <;> rcases cl K' with ⟨j,rfl⟩|⟨hK',LS⟩
 ·rw [hA] at h5 h6;rw [qo.apart _ _ _ _ _ _ _ _ _ h5 h6]
 ·rw [hA] at h5;rw [hB K' _ hK' LS] at h6;exact (mixed _ _ _ _ _ _ _ _ _ LS h5 h6).elim
 ·rw [hB K _ hK acE] at h5;rw [hA] at h6;exact (mixed _ _ _ _ _ _ _ _ _ acE h6 h5).elim
 rw [hB K _ hK acE] at h5;rw [hB K' _ hK' LS] at h6;exact hs.apart _ _ _ _ _ _ _ _ _ h5 h6
end Go.Eng
end
section
namespace Go.Eng
variable [bJ]
section
variable {P:g7} {ρ:Option Nat} {n0:Nat} {c:Code} {st:St} {Q:Exit->St->Prop}
end
end Go.Eng
end
section
namespace Go.Eng
variable [bJ]
section
variable {P:g7} {ρ:Option Nat} {n0:Nat} {Q:Exit->St->Prop} {c:Code} {st:St}
end
end Go.Eng
end
section
namespace Go.Eng
variable [bJ]
section
variable {k_:Tk} {m:Bool} {P:g7} {ρ:Option Nat} {n0:Nat} {st:St} {Q:Exit->St->Prop} {n:Nat} {ws:List (Nat×V)} {mem:List bx} {c:Code}
end
end Go.Eng
end
section
namespace Go.Proofs.YtfbbfmcggbapoaaGreatDoor
open Go.Eng
set_option maxHeartbeats 4000000
set_option maxRecDepth 100000
attribute [go_sem] eV dv gE lM St.eval St.put j6 mr FK cI ew aJ aL o8 Value.oneCell' if_true if_false dw af ah aq6 aq al ai kP ni List.getD_cons_zero List.getD_cons_succ yv ke pw sM uh dR bo Nat.zero_mul Fv Wh fieldAt qs j1 ze aa0 AH dF aI cu List.head?_cons dc fI aY aA true_and and_true and_self fC js rowsOf eU bw FD abt abu abv abw abx aby abz abA abB abC abD Rj Wx Wy gV oH indexAt Bj M1 FF yr gx V.cells HO Fy aa6 du bU av3 av7 List.size_toArray awL beq_self_eq_true decide_true decide_false aR aK qf sU rl nU kS mu Wl qy rowOf mS ne_eq not_true_eq_false not_false_eq_true nW nE wP V.sc.injEq Value.bool.injEq xb ag aj iz kW agf agh WK WL WM MY tt3 tt4 tt5 tt9 alN alO alP alQ alR alS alT alU alV alW alX alY alZ al0 al1 al2 al3 al4 al5 al6 ags agt agu Sj Zu Zv agv agw B6 agx agy agz List.toList_toArray List.append_eq Bo Rp KY YP oP fj pO wX zy pI tl lX Nw gF uv gT Su ab5 W8 vT yI KK jj mT iO fE runM gQ rv Aq iB o9 ss isHole eN Ir bx.ej vP aci Cb ZB tu lk Gt tz xq pk zk eO iA Ie kZ avH Ar aQ bC a6 ack acm acn aco Xe Gs niV SM acx zG eG SN acA acB BH SJ agO agP agQ agR agS ame amf amg amh ami amj amk aml amm amn amo amp amq amr SP PH SR PJ PI rm qh so vM K0 List.replicate aE sN vF
attribute [go_sem ↓] LN PG acq PF acp acg ach Xg NB
attribute [go_sem] reduceIte Nat.reduceAdd Nat.reduceLT Nat.reduceLeDiff Nat.reduceMul Nat.reduceEqDiff Nat.reduceSub reduceCtorEq
attribute [go_sem] pN pR pM j2
end Go.Proofs.YtfbbfmcggbapoaaGreatDoor
end
section
namespace Go.Eng
variable [bJ]
theorem dt.Ce {E:Env} {w:World} {a:Act} {st:St} (hs:dt E w a st) {b:Nat} {B B':bx} (hm:st.mem[b]?=some B) (Wk:B'.ej=B.ej) (hB:k6 E w b B'):dt E w a { st with mem:=st.mem.set b B' }:=by
 have bH:b<st.mem.length:=(az.1 hm).1;refine⟨hs.F,hs.lt,fun k B1 hk=>?_,fun k hk=>hs.top k (by simpa using hk),fun k B1 hk v hv=>?_,hs.apart,hs.fr⟩;·dsimp only at hk;rw [cf] at hk;split at hk;(·rename_i fw;subst fw;cases hk;exact hB);exact hs.mem k B1 hk
 dsimp only at hk;rw [cf] at hk;split at hk;·rename_i fw;subst fw;cases hk;exact hs.ej _ B hm v (by rw [<- Wk];exact hv)
 exact hs.ej k B1 hk v hv
theorem dt.snoc {E:Env} {w:World} {a:Act} {st:St} (hs:dt E w a st) {B:bx} (hB:k6 E w st.mem.length B):dt E w a { st with mem:=st.mem++[B] }:=by
 refine⟨hs.F,hs.lt,fun k B1 hk=>?_,fun k hk=>hs.top k (by dsimp only at hk;rw [ab] at hk;simp at hk;omega),fun k B1 hk v hv=>?_,hs.apart,hs.fr⟩;·dsimp only at hk;rw [po] at hk;split at hk;(·exact hs.mem k B1 hk);rename_i fP;(have:k-st.mem.length=0:=by have:=(az.1 hk).1;simpa using this);rw [this] at hk;cases hk;(have:k=st.mem.length:=by omega);subst this;exact hB
 dsimp only at hk;rw [po] at hk;split at hk;·exact hs.ej k B1 hk v hv
 rename_i fP;exact hs.top k (by omega) v
def jB (O:List UInt8):List V:=O.map fun b=>.sc (.int .u8 (b.toNat:Int))
theorem mB (O:List UInt8):(jB O).length=O.length:=aC _
theorem Cf {E:Env} {w:World} {k v:Nat} {T:g9} {O:List UInt8} (h:k6 E w k (.pq T v O)):k6 E w k (.rows v 1 (jB O)):=by
 rcases h with ⟨rfl,h⟩|⟨g,cur,c,h1,h2,h3,h4,h5,h6⟩
 ·exact .inl ⟨rfl,h⟩
 refine .inr ⟨g,T,cur,c,h1,h2,by rw [h3,sE],by rw [mB];exact h4.1,fun i row hi=>?_,h6⟩;unfold jB at hi;rw [ae] at hi;cases hb:O[i]? with|none=>rw [hb] at hi;cases hi|some b =>rw [hb] at hi;cases hi;refine⟨rfl,fun j c hj=>?_⟩;cases j with|succ j=>simp [V.cells] at hj|zero =>simp only [V.cells,aI,aD] at hj;subst hj;exact⟨_,by dsimp only;rw [sE,fI];exact h5 i b hb,rfl,.sc _ _⟩
theorem I4 {E:Env} {w:World} {k v:Nat} {T:g9} {O:List UInt8} (h:k6 E w k (.rows v 1 (jB O))) (hT:∀ g c,E.cE k v=some (g,1,c)->∃ cur,w.heap[g]?=some (.cells cur T (0,0))/\cur.size<=maxLen):k6 E w k (.pq T v O):=by
 rcases h with ⟨h,h0⟩|⟨g,T',cur,c,h1,h2,h3,h4,h5,h6⟩
 ·exact .inl ⟨by simpa [jB] using h,h0⟩
 obtain⟨ar7,h7,h8⟩:=hT g c h1;rw [h2] at h7;cases h7;rw [sE] at h3;refine .inr ⟨g,cur,c,h1,h2,h3,⟨by rw [mB] at h4;exact h4,by omega⟩,fun j b hb=>?_,h6⟩;obtain⟨-,h9⟩:=h5 j (.sc (.int .u8 (b.toNat:Int))) (by unfold jB;rw [ae,hb];rfl);obtain⟨x,hx,-,hr⟩:=h9 0 (.sc (.int .u8 (b.toNat:Int))) rfl;dsimp only at hx;rw [sE,fI] at hx;rw [hx,fL hr]
theorem zW (s:g6):(kg s).length=s.size:=by unfold kg;rw [aC,gD];rfl
theorem Xk (O:List UInt8) (s:g6):jB O++kg s=jB (O++s.data.toList):=by unfold jB kg;rw [fa]
theorem df.vW {E:Env} {k v n:Nat} {x:Value} (h:df E (.ms k v 0 n) x):(n=0/\x = .slice none 0 0)\/∃ g e c,x = .slice (some ⟨g,0,none⟩) n c/\E.cE k v=some (g,e,c)/\n<=c:=by
 generalize hm:V.ms k v 0 n=m at h;cases h <;> first|(cases hm;done)|skip
 ·cases hm;rename_i g e c a cap hb h0 hl hc;obtain⟨rfl,rfl⟩:=h0 rfl;exact .inr ⟨g,e,_,rfl,hb,hc.1⟩
 cases hm;exact .inl ⟨rfl,rfl⟩
theorem Gx {E:Env} {w:World} {k v:Nat} {T:g9} {O:List UInt8} {x:Value} (h:k6 E w k (.pq T v O)) (hr:df E (.ms k v 0 O.length) x):w.ownsRow 0 T 1 x O.length (Lib.byteCells O):=by
 refine⟨by rw [Lib.byteCells_length,sE],?_⟩;rcases hr.vW with ⟨h0,rfl⟩|⟨g,e,c,rfl,hb,hc⟩
 ·exact .inl ⟨rfl,h0⟩
 rcases h with ⟨rfl,h⟩|⟨g',cur,c',h1,h2,h3,h4,h5,h6⟩
 ·rw [h] at hb;cases hb
 rw [h1] at hb;cases hb;refine .inr ⟨g,c,cur,rfl,aY _,h2,h4.1,h4.2,by rw [h3,sE],?_⟩;rw [sE];apply eh;intro j;rw [gU];split;·rename_i hj;have hb:=bf hj;have h7:=h5 j _ hb;rw [dV,h7];simp [Lib.byteCells,hb]
 rename_i hj;rw [ep];rw [Lib.byteCells_length];omega
theorem dt.acF {P:g7} {tt:Table} (ht:TT P tt) {E:Env} {w:World} {a:Act} {st:St} (hs:dt E w a st) {k v:Nat} {t e u ty:g9} {O:List UInt8} {s:g6} {sv:Value} {it iu:Ti}
  (hT:tt t=some it) (he:it.elem=some e) (hE:tt e=some { size:=1,agg:=false,zero:=[.int .u8 0],bytes:=1 }) (hi:∃ i,P.info? e=some i/\i.zero=some (.int .u8 0)/\i.size=1/\i.bytes=1) (hU:tt u=some iu) (hu1:iu.elem=none) (hu2:vF iu.zero=true) (hu3:iu.agg=false)
  (hm:st.mem[k]?=some (.pq e v O)) (hsv:df E (.ms k v 0 O.length) sv) (h0:0<s.size) (hlen:O.length+s.size<=34359738368) :
  ∃ v' w' E',(Builtin.append_ #[t,u] ty #[sv,.string s]).run P w = .ok v' w'/\dt E' w' a { st with mem:=st.mem.set k (.pq e (v+1) (O++s.data.toList)) }/\iF E w E' w'/\df E' (.ms k (v+1) 0 (O.length+s.size)) v':=by
 have bH:k<st.mem.length:=(az.1 hm).1;have I5:=hs.mem k _ hm;have As:=Gx I5 hsv;have rb:=hs.Ce hm (B':=.rows v 1 (jB O)) rfl (Cf I5);have acH:fC tt (st.mem.set k (.rows v 1 (jB O))) [t,u] (.ms k v 0 O.length) (.sc (.string s))=some (1,some (k,v),jB O++kg s):=by (have h1:(jB O).length+(kg s).length<=34359738368:=by rw [mB,zW];exact hlen);(have h2:js (st.mem.set k (.rows v 1 (jB O))) 1 (.ms k v 0 O.length)=some (some (k,v),jB O):=by simp only [js,fi bH,mB,and_self,if_true]);(have h3:sN tt (st.mem.set k (.rows v 1 (jB O))) u 1 (.sc (.string s))=some (kg s):=by simp only [sN,hU,hu1,hu2,hu3,and_self,if_true]);simp only [fC,hT,he,hE,h2,h3,h1,if_true,Bo];rfl
 obtain⟨v',w',E',fG,sn,gM,kV⟩:=qd ht rb (ts := #[t,u]) (ty:=ty) (key:=st.mem.length) (.inr (by simp)) hsv (.sc _ _) acH;obtain⟨i,u9,Q3,Wm,hi4⟩:=hi;obtain⟨d,hd,-,wC,-⟩:=ht.desc t it hT;have SS:0<=w.heap.size:=aY _;obtain⟨v2,w2,I6,SU,-,-⟩:=Lib.run_append_own_string (P:=P) w 0 t u ty e i (by rw [hd,wC e he]) (ht.str u iu hU hu2 hu3) u9 Q3 Wm hi4 sv O.length _ As s (by unfold maxLen;omega) (by omega) SS;rw [fG] at I6;cases I6;have hn:(jB O++kg s).length=O.length+s.size:=by rw [ab,mB,zW]
 have I7:df E' (.ms k (v+1) 0 (O.length+s.size)) v':=by have:=kV;simp only [eU,hn] at this;exact this
 refine⟨v',w',E',fG,?_,gM,I7⟩;have nG:(st.mem.set k (.rows v 1 (jB O))).set k (.rows (v+1) 1 (jB O++kg s))=st.mem.set k (.rows (v+1) 1 (jB (O++s.data.toList))):=by rw [aug,Xk]
 simp only [eU] at sn;rw [nG] at sn;have kh:(st.mem.set k (.rows (v+1) 1 (jB (O++s.data.toList))))[k]?=some (.rows (v+1) 1 (jB (O++s.data.toList))):=fi bH;have HE:=sn.Ce kh (B':=.pq e (v+1) (O++s.data.toList)) rfl (I4 (sn.mem k _ kh) fun g c hb=>by (rcases I7.vW with ⟨h9,-⟩|⟨g',e',c',rfl,gY,-⟩);(·omega);rw [hb] at gY;cases gY;(rcases SU.2 with ⟨h9,-⟩|⟨g2,amt,acI,h9,-,sZ,-,VZ,h12,-⟩);(·cases h9);cases h9;exact⟨acI,sZ,by omega⟩);dsimp only at HE;rw [aug] at HE;exact HE
theorem dt.Xl {P:g7} {tt:Table} (ht:TT P tt) {E:Env} {w:World} {a:Act} {st:St} (hs:dt E w a st) {k v:Nat} {t e ty:g9} {O:List UInt8} {b:UInt8} {sv:Value} {it:Ti}
  (hT:tt t=some it) (he:it.elem=some e) (hE:tt e=some { size:=1,agg:=false,zero:=[.int .u8 0],bytes:=1 }) (hi:∃ i,P.info? e=some i/\i.zero=some (.int .u8 0)/\i.size=1/\i.bytes=1)
  (hm:st.mem[k]?=some (.pq e v O)) (hsv:df E (.ms k v 0 O.length) sv) (hlen:O.length+1<=34359738368) :
  ∃ v' w' E',(Builtin.append_ #[t,t] ty #[sv,.slice (some ⟨w.heap.size,0,none⟩) 1 1]).run P (w.alloc (.cells #[.int .u8 (b.toNat:Int)] e (0,0))) = .ok v' w'/\dt E' w' a { st with mem:=st.mem.set k (.pq e (v+1) (O++[b])) }/\iF E w E' w'/\df E' (.ms k (v+1) 0 (O.length+1)) v':=by
 have bH:k<st.mem.length:=(az.1 hm).1;obtain⟨E0,K8,WJ,DN⟩:=hs.Iz (xs := #[.int .u8 (b.toNat:Int)]) (rs:=jB [b]) (e:=1) (c:=1) e (by simp [jB]) (fun i row hi=>by cases i with|succ i=>simp [jB] at hi|zero =>simp only [jB,bo,dR,aI,aD] at hi;subst hi;refine⟨rfl,fun j c hj=>?_⟩;cases j with|succ j=>simp [V.cells] at hj|zero =>simp only [V.cells,aI,aD] at hj;subst hj;exact⟨_,rfl,rfl,.sc _ _⟩);have agV:=hsv.mono WJ.le;have I5:=K8.mem k _ hm;have As:=Gx I5 agV;have rb:=K8.Ce hm (B':=.rows v 1 (jB O)) rfl (Cf I5);have acH:fC tt (st.mem.set k (.rows v 1 (jB O))) [t,t] (.ms k v 0 O.length) (.slice (jB [b]))=some (1,some (k,v),jB O++jB [b]):=by (have h1:(jB O).length+(jB [b]).length<=34359738368:=by rw [mB,mB];exact hlen);(have h2:js (st.mem.set k (.rows v 1 (jB O))) 1 (.ms k v 0 O.length)=some (some (k,v),jB O):=by simp only [js,fi bH,mB,and_self,if_true]);(have h3:sN tt (st.mem.set k (.rows v 1 (jB O))) t 1 (.slice (jB [b]))=some (jB [b]):=by simp only [sN,hT,he];rfl);simp only [fC,hT,he,hE,h2,h3,h1,if_true,Bo];rfl
 obtain⟨v',w',E',fG,sn,gM,kV⟩:=qd ht rb (ts := #[t,t]) (ty:=ty) (key:=st.mem.length) (.inr (by simp)) agV DN acH;obtain⟨i,u9,Q3,Wm,hi4⟩:=hi;obtain⟨d,hd,-,wC,-⟩:=ht.desc t it hT;have SS:0<=(w.alloc (.cells #[.int .u8 (b.toNat:Int)] e (0,0))).heap.size:=aY _
 obtain⟨v2,w2,I6,SU,-,-⟩:=Go.run_append_own (P:=P) (w:=w.alloc (.cells #[.int .u8 (b.toNat:Int)] e (0,0))) 0 t ty e i (.int .u8 0) 1 1 (by rw [hd,wC e he]) u9 Q3 Wm hi4 rfl (by omega) sv O.length _ As ⟨w.heap.size,0,none⟩ 1 1 [.int .u8 (b.toNat:Int)] rfl
  (fun j u hj=>by
   cases j with
   | succ j=>simp at hj
   | zero =>
    simp only [aI,aD] at hj
    subst hj
    exact og (heap_alloc_new w _) 0) (fun u hu=>by simp only [dp,ja,or_false] at hu;subst hu;rfl) (by unfold maxLen;omega) (by omega) SS
 have hz:(jB [b]).length=1:=rfl;rw [hz] at fG;rw [fG] at I6;cases I6;have hn:(jB O++jB [b]).length=O.length+1:=by rw [ab,mB,mB];rfl
 have I7:df E' (.ms k (v+1) 0 (O.length+1)) v':=by have:=kV;simp only [eU,hn] at this;exact this
 refine⟨v',w',E',fG,?_,WJ.trans gM,I7⟩;have La:jB O++jB [b]=jB (O++[b]):=by unfold jB;rw [fa]
 have nG:(st.mem.set k (.rows v 1 (jB O))).set k (.rows (v+1) 1 (jB O++jB [b]))=st.mem.set k (.rows (v+1) 1 (jB (O++[b]))):=by rw [aug,La]
 simp only [eU] at sn;rw [nG] at sn;have kh:(st.mem.set k (.rows (v+1) 1 (jB (O++[b]))))[k]?=some (.rows (v+1) 1 (jB (O++[b]))):=fi bH;have HE:=sn.Ce kh (B':=.pq e (v+1) (O++[b])) rfl (I4 (sn.mem k _ kh) fun g c hb=>by (rcases I7.vW with ⟨h9,-⟩|⟨g',e',c',rfl,gY,-⟩);(·omega);rw [hb] at gY;cases gY;(rcases SU.2 with ⟨h9,-⟩|⟨g2,amt,acI,h9,-,sZ,-,VZ,h12,-⟩);(·cases h9);cases h9;exact⟨acI,sZ,by omega⟩);dsimp only at HE;rw [aug] at HE;exact HE
theorem dt.fz {E:Env} {w w':World} {a:Act} {st:St} (hs:dt E w a st) {b v e c g:Nat} {rs:List V} (hm:st.mem[b]?=some (.sF v e rs)) (hb:E.cE b v=some (g,e,c)) (ho:pF w w' g) (hF:∀ ad x,w.cell? ad=some x->w'.cell? ad=some x):dt E w' a st/\iF E w E w':=by
 refine⟨⟨fun ad x hx=>hF ad x (hs.F ad x hx),fun k v g' e' c' hk=>by rw [ho.size];exact hs.lt _ _ _ _ _ hk,fun k B1 hk=>?_,hs.top,hs.ej,hs.apart,hs.fr⟩,
  E.le_refl,fun k v g e c h=>.inl ⟨k,v,e,c,h⟩,fun _ _ h=>.inl h,ho.os,ho.tape,ho.output,by rw [ho.size];exact aA _,fun b' gY dI=>ho.heap b' fun e=>by subst e;exact dI _ _ _ _ hb⟩
 by_cases kT:b=k;·subst kT;rw [hm] at hk;cases hk;exact hs.mem b _ hm
 cases DL:B1.held with|false=>(cases B1 <;> first|exact hs.mem k _ hk|trivial|simp [bx.held] at DL)|true =>refine (hs.mem k B1 hk).mono E.le_refl (fun _ h=>h) (fun g' e' c' fw=>ho.heap _ fun e=>?_) fun _ _ _ _ _ h=>h;subst e;exact kT (hs.apart _ _ _ _ _ _ _ _ _ hb fw)
theorem dt.acJ {E:Env} {w:World} {a:Act} {st:St} (hs:dt E w a st) {k v:Nat} {T:g9} {O:List UInt8} {sv:Value} (hm:st.mem[k]?=some (.pq T v O)) (h0:O≠[]) (hsv:df E (.ms k v 0 O.length) sv) :
  ∃ g cap cells E',sv = .slice (some ⟨g,0,none⟩) O.length cap/\cap≠0/\w.shape? g=some (T,cells)/\O.length<=cells/\O.length<=maxLen/\(∀ j x,O[j]?=some x->w.cell? ((⟨g,0,none⟩:Addr).add j)=some (.int .u8 x.toNat)) /\
   dt E' (w.drew.freeze ⟨g,0,none⟩ O.length) a { st with mem:=st.mem.set k (.sF v 1 (jB O)) }/\iF E w E' (w.drew.freeze ⟨g,0,none⟩ O.length):=by
 have zi:O.length≠0:=by simpa using h0
 have bH:k<st.mem.length:=(az.1 hm).1;have I5:=hs.mem k _ hm;have As:=Gx I5 hsv;rcases hsv.vW with ⟨h9,-⟩|⟨g,e,c,rfl,hb,hc⟩
 ·omega
 rcases I5 with ⟨h9,-⟩|⟨g',cur,c',h1,h2,h3,h4,h5,h6⟩
 ·exact absurd h9 h0
 rw [h1] at hb;cases hb;have rb:=hs.drew.Ce hm (B':=.rows v 1 (jB O)) rfl (Cf (hs.drew.mem k _ hm));have kh:(st.mem.set k (.rows v 1 (jB O)))[k]?=some (.rows v 1 (jB O)):=fi bH;obtain⟨E',sn,gM,-⟩:=rb.freeze (vs:=[.ms k v 0 O.length]) (vs':=[.slice (((jB O).drop 0).take O.length)]) (by simp only [jj,mT,fE,kh,mB,dc,aA,and_self,if_true]);have nG:iA (st.mem.set k (.rows v 1 (jB O))) ([V.ms k v 0 O.length].flatMap iz)=st.mem.set k (.sF v 1 (jB O)):=by simp only [ag,aj,iz,kW,ai,iA,kZ,avH,Ie,kh,if_true,aug]
 dsimp only at sn;rw [nG] at sn;have hfz:∀ b,b≠g->(w.drew.freeze ⟨g,0,none⟩ O.length).heap[b]?=w.drew.heap[b]?:=fun b hb=>by unfold World.freeze;rw [g5 zi];simp only [avE];rw [g5 (fun e=>hb e.symm)]
 obtain⟨HE,K9⟩:=sn.fz (w':=w.drew.freeze ⟨g,0,none⟩ O.length) (b:=k) (fi bH) (gM.le.cE _ _ _ h1) ⟨by unfold World.freeze;rw [g5 zi],by unfold World.freeze;rw [g5 zi],by unfold World.freeze;rw [g5 zi],by unfold World.freeze;rw [g5 zi];simp,hfz⟩ fun ad x hx=>by rw [<- hx];by_cases hb:ad.block=g;(·(have h7:(w.drew.freeze ⟨g,0,none⟩ O.length).heap[g]?=some (.cells cur T (0,0+O.length)):=by unfold World.freeze;rw [g5 zi];simp only [avE,if_true];have h2':w.drew.heap[g]?=some (.cells cur T (0,0)):=h2;rw [h2'];rfl);have h2':w.drew.heap[g]?=some (.cells cur T (0,0)):=h2;simp only [World.cell?,hb,h7,h2']);simp only [World.cell?,hfz _ hb]
 refine⟨g,c,cur.size,E',rfl,by omega,by simp [World.shape?,h2],by omega,by omega,fun j x hx=>?_,HE,((iF.drew E w).trans gM).trans K9⟩;exact As.cells (g:=g) rfl j (.int .u8 x.toNat) (by simp [Lib.byteCells,hx])
theorem Cg {P:g7} {tt:Table} {ρ:Option Nat} {n0:Nat} {st:St} {Q:Exit->St->Prop} (ht:TT P tt) {id:Nat} {T TE:g9} {d:Tmp} {o:Oper} {i:Ti} (ho:o.op = .alloc T) (hd:o.dst=some d) (hg:o.guard=none) (hT:tt T=some i) (hz:i.zero=[.pointer none,.slice none 0 0])
  (h:Q .normal { fr:=st.fr.set d (.ptr st.mem.length 0),mem:=st.mem++[.ox T (st.mem.length+1) 0 0,.pq TE 0 []] }):fc P ρ n0 (.region id #[o] false) st Q:=fun E0 w0 h0 E w a he hs hm=>by
 obtain⟨dst,op,type,pos,after,guard⟩:=o
 dsimp only at ho hd hg
 subst ho;subst hd;subst hg
 obtain⟨info,u9,-,-,z,hzz,AL⟩:=ht.size T i hT
 rw [hz] at AL
 have hzc:z.cells = #[.pointer none,.slice none 0 0]:=by rw [<- cJ (xs:=z.cells),AL]
 have hk:jo st.mem st.mem.length:=.inr rfl
 have fK:(E.with st.mem.length 0 (w.heap.size,0,0)).cE st.mem.length 0=some (w.heap.size,0,0):=gH ⟨rfl,rfl⟩
 obtain⟨h1,h2⟩:=hs.new (obj:=.cells #[.pointer none,.slice none 0 0] T (0,0)) (B:=.ox T (st.mem.length+1) 0 0) (e:=0) (c:=0) hk rfl
  ⟨w.heap.size,T,.pointer none,.slice none 0 0,fK,heap_alloc_new w _,.inl ⟨rfl,rfl⟩,.jr _ _ _ _,fun o=>by
   show E.F _=none
   cases hx:E.F ⟨w.heap.size,o,none⟩ with
   | none=>rfl
   | some x=>have:=World.block_lt_of_cell? w _ (hs.F _ _ hx);simp at this⟩
 have hsm:dw st.mem st.mem.length (.ox T (st.mem.length+1) 0 0)=st.mem++[.ox T (st.mem.length+1) 0 0]:=by unfold dw;rw [g5 (aq6 _)]
 rw [hsm] at h1
 have h3:=h1.snoc (B:=.pq TE 0 []) (.inl ⟨rfl,h1.top _ (aA _) 0⟩)
 have h4:=h3.put (some d) (v:=.ptr st.mem.length 0) (x:=.pointer (some ⟨w.heap.size,0,none⟩)) (.ptr _ _ _ _ _ _ fK)
 refine wpIn_region ?_
 rw [avJ]
 show wpOpsIn (WF ρ) 0 P _ (RI E0 w0 Q) (List.range' 0 1) a w
 rw [avI,wpOpsIn]
 simp only [awL,aI]
 rw [gH (jb hs rfl)]
 refine dG (fun c hc=>by cases hc) (v:=.pointer (some ⟨w.heap.size,0,none⟩)) (w':=w.alloc (.cells #[.pointer none,.slice none 0 0] T (0,0))) ?_ ?_
 ·have hzv:(zeroValue T).run P w = .ok z w:=by simp [zeroValue,fJ u9,hzz]
  simp [execOp,Instr.alloc,hzv,newVar,newRow,hzc]
 refine⟨_,_,h4,he.trans h2,?_,?_⟩
 ·rw [put_defers];exact hm.Q6 h2
 simpa [St.put,ay] using h
section
variable {k_:Tk} {m:Bool} {P:g7} {tt:Table} {ρ:Option Nat} {n0:Nat} {Q:Exit->St->Prop} {n:Nat} {ws:List (Nat×V)} {mem:List bx}
theorem agX (ht:TT P tt) (TE:g9) (sp:List Nat) {id:Nat} {T:g9} {d:Tmp} {o:Oper} {i:Ti} {y:Code} (ho:o.op = .alloc T) (hd:o.dst=some d) (hg:o.guard=none) (hT:tt T=some i) (hz:i.zero=[.pointer none,.slice none 0 0])
  (h:vc m P tt sp ρ n0 y ⟨W n ((d,.ptr mem.length 0) :: ws),mem++[.ox T (mem.length+1) 0 0,.pq TE 0 []]⟩ Q):X k_ m P ρ n0 (.seq (.region id #[o] false) y) ⟨W n ws,mem⟩ Q:=by rw [<- ZB] at h;refine EE (X.mono (Q:=iQ (fun s=>vc m P tt sp ρ n0 y s Q) Q) ?_ (I0 ht));cases m with|true=>exact Cg ht ho hd hg hT hz h|false=>exact⟨.normal,_,h,fun Q' h'=>Cg ht ho hd hg hT hz h'⟩
end
end Go.Eng
end
section
namespace Go.Eng
variable [bJ]
open Go.RowKit (Below)
theorem dt.below {E:Env} {w w':World} {a:Act} {st:St} (hs:dt E w a st) (hb:Below w.heap.size w w'):dt E w' a st/\iF E w E w':=by
 refine⟨⟨fun ad y hy=>?_,fun k v g e c h=>rV (hs.lt _ _ _ _ _ h) hb.size,fun k B hk=>?_,hs.top,hs.ej,hs.apart,hs.fr⟩, ⟨E.le_refl,fun k v g e c h=>.inl ⟨k,v,e,c,h⟩,fun _ _ h=>.inl h,hb.os,hb.tape,hb.output,hb.size,fun b bH _=>hb.block b bH⟩⟩;·rw [hb.cell (World.block_lt_of_cell? w ad (hs.F ad y hy))];exact hs.F ad y hy
 exact (hs.mem k B hk).mono E.le_refl (fun _ h=>h) (fun g e c h=>hb.block _ (hs.lt _ _ _ _ _ h)) fun _ _ _ _ _ h=>h
end Go.Eng
end
section
namespace Go.Eng
variable [bJ]
def EG:List (FuncId×List V×V)->FuncId->List V->Option V
 | [],_,_=>none
 | e :: t,f,vs=>if e.1=f then (if kC e.2.1 vs=true then some e.2.2 else EG t f vs) else EG t f vs
theorem bG {P:g7}:r8 P (EG []):=fun f vs r h=>by cases h
theorem jQ {P:g7} {f:FuncId} {vs:List V} {r:V} {t:List (FuncId×List V×V)} (h:dz P f vs r) (ht:r8 P (EG t)):r8 P (EG ((f,vs,r) :: t)):=fun g ws s hs=>by
 unfold EG at hs;dsimp only at hs;split at hs;·rename_i hf;split at hs;(·rename_i hv;cases hs;rw [<- hf,<- ir hv];exact h);exact ht g ws s hs
 exact ht g ws s hs
def Ch:List (FuncId×List V×List bx×List (V×List bx))->my
 | [],_,_,_=>none
 | e :: t,f,vs,mem=>if e.1=f then (if kC e.2.1 vs=true then (if th e.2.2.1 mem=true then some e.2.2.2 else Ch t f vs mem) else Ch t f vs mem) else Ch t f vs mem
theorem oC {P:g7}:ld P (Ch []):=fun f vs mem outs h=>by cases h
theorem oS {P:g7} {f:FuncId} {vs:List V} {mem:List bx} {outs:List (V×List bx)} {t:List (FuncId×List V×List bx×List (V×List bx))} (h:jY P f vs mem fun r m=>(r,m)∈outs) (ht:ld P (Ch t)):ld P (Ch ((f,vs,mem,outs) :: t)):=fun g ws m o hs=>by
 unfold Ch at hs;dsimp only at hs;split at hs;·rename_i hf;split at hs;(·rename_i hv;split at hs;(·rename_i hm;cases hs;rw [<- hf,<- ir hv,<- uu hm];exact h);exact ht g ws m o hs);exact ht g ws m o hs
 exact ht g ws m o hs
end Go.Eng
end
section
namespace Go.Eng
variable [bJ]
section
variable {k_:Tk} {m:Bool} {P:g7} {tt:Table} {ρ:Option Nat} {n0:Nat} {st:St} {Q:Exit->St->Prop} {n:Nat} {ws oo:List (Nat×V)} {mem kp:List bx}
theorem I8 (ht:TT P tt) {ρ:Option Nat} {n:Nat} {all:Array Oper} {Z:St->Prop} {Q':Exit->Act->World->Prop} (post:List Oper):∀ (l1 pre:List Oper),all.toList=pre++(l1++post) ->
  ∀ {E:Env} {w:World} {a:Act} {st:St},dt E w a st->eV P tt all l1 st Z->(∀ a' w',a'.defers=a.defers->(∃ E' st',dt E' w' a' st'/\iF E w E' w'/\Z st')->wpOpsIn (WF ρ) n P all Q' (List.range' (pre.length+l1.length) post.length) a' w')->wpOpsIn (WF ρ) n P all Q' (List.range' pre.length (l1.length+post.length)) a w:=by intro l1;induction l1 with|nil =>intro pre _ E w a st hs h hq;have:=hq _ _ rfl ⟨E,st,hs,iF.refl E w,h⟩;simpa using this|cons o r ih =>intro pre cZ E w a st hs h hq;(have lz:all[pre.length]?=some o:=by rw [<- dV,cZ,bm (aA _)];simp);(have RH:all.toList=(pre++[o])++(r++post):=by rw [cZ];simp);have ih':=@ih (pre++[o]) RH;simp only [ab,af,ah,dc] at ih';(have e1:(o :: r).length+post.length=r.length+post.length+1:=by simp only [af];omega);(have e2:pre.length+(o :: r).length=pre.length+1+r.length:=by simp only [af];omega);rw [e2] at hq;rw [e1,avI,wpOpsIn,lz];dsimp only;simp only [eV] at h;split at h;(·rename_i hw;rw [gH (jb hs hw)];refine ib ht hs (.inr rfl) h ?_;rintro v w' ⟨E',st',h1,h2,h3⟩;exact ih' h1 h3 fun a'' w'' hd ⟨Dw,K5,h4,h5,h6⟩=>hq _ _ (hd.trans (put_defers _ _ _)) ⟨Dw,K5,h4,h2.trans h5,h6⟩);(·rename_i hw;rw [g5 (by rw [jb hs hw];simp)];exact⟨fun _ _=>trivial,ih' (hs.put o.dst (.sc _ _)) h fun a'' w'' hd h=>hq _ _ (hd.trans (put_defers _ _ _)) h⟩);exact h.elim
inductive LU (P:g7) (tt:Table) (all:Array Oper):List Oper->St->(St->Prop)->Prop
 | fin {l:List Oper} {st:St} {Q:St->Prop} (h:eV P tt all l st Q):LU P tt all l st Q
 | cut {l1 l2:List Oper} {st:St} {Q Z Z':St->Prop} (h1:eV P tt all l1 st Z) (h2:∀ s,Z s->∃ s',Z' s'/\∀ E w a,dt E w a s->dt E w a s') (h3:∀ s',Z' s'->LU P tt all l2 s' Q):LU P tt all (l1++l2) st Q
theorem LV (ht:TT P tt) {ρ:Option Nat} {n:Nat} {all:Array Oper} {Q':Exit->Act->World->Prop} {Wu:List Oper} {st:St} {Q:St->Prop} (h:LU P tt all Wu st Q):∀ (pre:List Oper),all.toList=pre++Wu ->
  ∀ {E:Env} {w:World} {a:Act},dt E w a st->(∀ a' w',a'.defers=a.defers->(∃ E' st',dt E' w' a' st'/\iF E w E' w'/\Q st')->Q' .normal a' w')->wpOpsIn (WF ρ) n P all Q' (List.range' pre.length Wu.length) a w:=by induction h with|fin h=>intro pre cZ E w a hs hq;exact wS ht _ pre cZ hs h hq|@cut l1 l2 st Q Z Z' h1 h2 h3 ih =>intro pre cZ E w a hs hq;rw [ab];refine I8 ht l2 l1 pre cZ hs h1 fun a' w' hd ⟨E',s,qo,he,hz⟩=>?_;obtain⟨s',hz',hw⟩:=h2 s hz;have:=ih s' hz' (pre++l1) (by rw [cZ,ay]) (hw _ _ _ qo) fun a'' w'' hd' ⟨Dw,K5,h4,h5,h6⟩=>hq _ _ (hd'.trans hd) ⟨Dw,K5,h4,he.trans h5,h6⟩;rw [ab] at this;exact this
inductive Gy (m:Bool) (P:g7) (tt:Table) (all:List Oper):List Oper->St->(St->Prop)->Prop
 | fin {l:List Oper} {st:St} {Q:St->Prop} (h:tv m P tt all l st Q):Gy m P tt all l st Q
 | cut {l1 l2:List Oper} {st:St} {Q Z Z':St->Prop} (h1:tv m P tt all l1 st Z) (h2:∀ s,Z s->∃ s',Z' s'/\∀ E w a,dt E w a s->dt E w a s') (h3:∀ s',Z' s'->Gy m P tt all l2 s' Q):Gy m P tt all (l1++l2) st Q
theorem acK {all:Array Oper} {l:List Oper} {st:St} {Q:St->Prop} (h:Gy true P tt all.toList l st Q):LU P tt all l st Q:=by induction h with|fin h=>exact .fin (rG _ _ h)|cut h1 h2 _ ih=>exact .cut (rG _ _ h1) h2 ih
theorem acL {all:Array Oper} {l:List Oper} {st:St} {Q:St->Prop} (h:Gy false P tt all.toList l st Q):∃ s,Q s/\∀ K:St->Prop,K s->LU P tt all l st K:=by induction h with|fin h =>obtain⟨s,h1,h2⟩:=rG _ _ h;exact⟨s,h1,fun K hK=>.fin (h2 K hK)⟩|cut h1 h2 _ ih =>obtain⟨s,hz,h4⟩:=rG _ _ h1;obtain⟨s',hz',hw⟩:=h2 s hz;obtain⟨s2,hq,h5⟩:=ih s' hz';exact⟨s2,hq,fun K hK=>.cut (Z:=(· = s)) (Z':=(· = s')) (h4 _ rfl) (fun _ e=>⟨s',rfl,by subst e;exact hw⟩) fun _ e=>by subst e;exact h5 K hK⟩
theorem zX (ht:TT P tt) {id:Nat} {ops:Array Oper} (h:LU P tt ops ops.toList st (Q .normal)):fc P ρ n0 (.region id ops false) st Q:=fun E0 w0 h0 E w a he hs hm=>by refine wpIn_region ?_;have:=LV ht (ρ:=ρ) (n:=0) (Q':=RI E0 w0 Q) h [] (by simp) hs (fun a' w' hd ⟨E',st',h1,h2,h3⟩=>⟨E',st',h1,he.trans h2,by rw [hd];exact hm.Q6 h2,h3⟩);rw [avJ];simpa using this
theorem agY (ht:TT P tt) {id:Nat} {ops:Array Oper} (h:Gy m P tt ops.toList ops.toList st (Q .normal)):X k_ m P ρ n0 (.region id ops false) st Q:=by cases m with|true=>exact zX ht (acK h)|false =>obtain⟨s,h1,h2⟩:=acL h;exact⟨.normal,s,h1,fun Q' h'=>zX ht (h2 _ h')⟩
theorem ZD (j:Nat) (ts ks:List Nat) (Inv:List V->Prop) {all l:List Oper} {Q:St->Prop}
  (h1:∀ K:St->Prop,(∀ s,(∃ vs,Inv vs/\∃ Gv,s=⟨W n Gv,kp⟩/\Gt Gv (zk ts vs (pk oo ks)))->K s)->tv m P tt all (l.take j) ⟨W n oo,kp⟩ K)
  (h2:∀ vs,Inv vs->Gy m P tt all (l.drop j) ⟨W n (zk ts vs (pk oo ks)),kp⟩ Q):Gy m P tt all l ⟨W n oo,kp⟩ Q:=by
 have:=Gy.cut (Q:=Q) (Z':=fun s=>∃ vs,Inv vs/\s=⟨W n (zk ts vs (pk oo ks)),kp⟩) (h1 _ fun _ h=>h)
  (fun s hs=>by
   obtain⟨vs,hv,Gv,rfl,ha⟩:=hs
   exact⟨_,⟨vs,hv,rfl⟩,fun E w a hs=>⟨hs.F,hs.lt,hs.mem,hs.top,hs.ej,hs.apart,Nz ha hs.fr⟩⟩)
  (fun s hs=>by
   obtain⟨vs,hv,rfl⟩:=hs
   exact h2 vs hv)
 rw [ji] at this;exact this
theorem I9 {ts ks:List Nat} {Inv:List V->Prop} {Gv:List (Nat×V)} {I1:List bx} (h:Gt Gv (pk oo ks)/\I1=kp) (hi:Inv (eO Gv ts)) :
  ∃ vs,Inv vs/\∃ ws2,(⟨W n Gv,I1⟩:St)=⟨W n ws2,kp⟩/\Gt ws2 (zk ts vs (pk oo ks)):=⟨_,hi,Gv,by rw [h.2],Cd h.1⟩
end
end Go.Eng
end
section
namespace Go.Eng
variable [bJ]
section
variable {k_:Tk} {m:Bool} {P:g7} {ρ:Option Nat} {n0:Nat} {Q:Exit->St->Prop} {n:Nat} {ws:List (Nat×V)} {mem:List bx} {c:Code}
end
end Go.Eng
end
section
namespace Go.Eng
variable [bJ]
theorem jY.EB {P:g7} {f:FuncId} {vs:List V} {mem:List bx} {R R':V->List bx->Prop} (h:jY P f vs mem R)
  (step:∀ r m,R r m->∃ v' m2,R' v' (m2.take mem.length)/\aQ mem.length v'=true/\(m2.take mem.length).all (a6 mem.length)=true /\
   ∀ (E:Env) (w:World) (x:Value),dt E w { tmps := #[],defers:=[] } { fr:=[],mem:=m }->df E r x->∃ E2,dt E2 w { tmps := #[],defers:=[] } { fr:=[],mem:=m2 }/\iF E w E2 w/\df E2 v' x):jY P f vs mem R':=by
 refine⟨h.1,fun E w xs hs hx=>(h.2 E w xs hs hx).mono ?_⟩;rintro e w' ⟨E',x,r,m,rfl,hR,gM,qo,kV⟩;obtain⟨v',m2,hR',hv,hm,st⟩:=step r m hR;obtain⟨E2,s2,ev2,hry⟩:=st E' w' x qo kV;have he:=gM.trans ev2;have hc:=s2.cut (n:=mem.length) rfl hm;refine⟨E2.cut mem.length,x,v',m2.take mem.length,rfl,hR',⟨⟨he.le.F,fun k v t hk=>?_⟩,fun k v g e c hk=>?_,he.F,he.os,he.tape,he.output,he.size,he.heap⟩,hc,jc hry hv⟩;·(have:k<mem.length:=by (rcases bn k mem.length with bH|fP);(·exact bH);rw [hs.top k fP v] at hk;cases hk);exact (gH this).trans (he.le.cE _ _ _ hk)
 have:E2.cE k v=some (g,e,c):=by by_cases fe:k<mem.length;(·exact ((gH fe).symm.trans hk:E2.cE k v=_));have h2:(E2.cut mem.length).cE k v=none:=g5 fe;rw [h2] at hk;cases hk
 exact he.cE _ _ _ _ _ this
end Go.Eng
end
