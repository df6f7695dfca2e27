import Derived.Test.YtnboooapeopjoaaGreatDoorE6
open Array renaming getElem?_toList→eX
open Bool renaming and_eq_true→aN,and_self→nI,and_true→aK,false_eq_true→b9,not_false→aP,not_true→aR,true_and→aX
open Int renaming natCast_nonneg→pK,toNat_natCast→am7
open List renaming all_cons→cA,all_eq_true→aY,all_nil→dA,append_nil→ou,cons_append→aj,drop_eq_nil_of_le→dX,drop_succ_cons→am6,drop_zero→ang,ext_getElem?→di,find?_eq_none→anZ,flatMap_cons→gq,flatMap_nil→anm,foldl_cons→eZ,foldl_nil→anh,getD_eq_getElem?_getD→eH,getElem?_append_left→bm,getElem?_append_right→aW,getElem?_cons_succ→mg,getElem?_cons_zero→fb,getElem?_drop→Yx,getElem?_eq_getElem→ah,getElem?_eq_none→dF,getElem?_eq_some_iff→ax,getElem?_map→ae,getElem?_range→an1,getElem?_set→bw,getElem?_set_ne→eE,getElem?_take_of_lt→jb,head?_cons→anJ,length_append→ch,length_cons→aD,length_drop→aep,length_map→ag,length_nil→aM,length_set→ov,length_take→dz,map_cons→cB,map_nil→dY,mem_cons→cp,mem_cons_of_mem→bh,mem_cons_self→bJ,mem_map→cu,mem_of_getElem?→ay,mem_or_eq_of_mem_set→aoa,mem_range→am5,nil_append→ak,set_cons_succ→il,set_cons_zero→eI,take_length→au,take_of_length_le→bE,take_succ_cons→U0,take_zero→mQ
open Nat renaming add_sub_cancel_left→dM,add_zero→jS,le_refl→aw,lt_irrefl→am0,lt_of_lt_of_le→pI,lt_or_ge→bW,sub_self→c5,sub_zero→Qw,zero_add→ct,zero_le→bx
open Option renaming bind_some→ann,map_eq_some_iff→br,map_none→amZ,map_some→bz
set_option linter.all false
section
namespace Go.Eng
variable [a6]
section
variable {P:Program} {tt:Table} {ρ:Option Nat} {n0:Nat} {st:St} {Q:Exit→St→Prop}
def RR (P:Program) (f:FuncId) (vs:List V) (st:St) (dst:Option Tmp) (Q:St→Prop):Prop :=
 ∃ R,dR P f vs st.mem R∧∀ v m',R v m'→Q ({ st with mem:=m' }.put dst v)
def Wj (P:Program) (f:FuncId) (vs:List V) (st:St) (dst:Option Tmp) (Q:St→Prop):Prop:=IY P f vs st dst Q∨RR P f vs st dst Q
def Wk (P:Program) (tt:Table) (key:Nat) (o:Oper) (st:St) (Q:St→Prop):Prop :=
 match o.op with
 | .call c=>match c.callee with
  | .value f=>match cP (st.eval f) (c.args.toList.map st.eval) with
   | some (g,vs)=>Wj P g vs st o.dst Q
   | none=>False
  | .builtin .append=>match c.args.toList.map st.eval with
   | [s,x]=>match iw tt st.mem c.argTypes.toList s x with
    | some (size,sD,rows)=>Q ({ st with mem:=(fM st.mem key size rows sD).1 }.put o.dst (fM st.mem key size rows sD).2)
    | none=>wA tt st c.argTypes.toList s x o.dst Q
   | _=>False
  | _=>mV P tt key o st Q
 | _=>mV P tt key o st Q
def M8 (P:Program) (tt:Table) (gl:List (Nat×Nat)) (all:Array Oper):List Oper→St→(St→Prop)→Prop
 | [],st,Q=>Q st
 | o :: r,st,Q=>match rA gl all st.fr o with
  | some true=>Wk P tt st.mem.length o st fun st'=>M8 P tt gl all r st' Q
  | some false=>M8 P tt gl all r (st.put o.dst (.sc undef)) Q
  | none=>False
theorem He {ts:List TypeId} {s x:V} {dst:Option Tmp} {A B:St→Prop} (h:wA tt st ts s x dst A) (u5:∀ s,A s→B s):wA tt st ts s x dst B:=by
 unfold wA at h ⊢;split at h;·exact fun o mo h1 h2=>u5 _ (h o mo h1 h2)
 exact h
attribute [irreducible] M8

end
end Go.Eng
end

section
namespace Go.Eng
variable [a6]
inductive Tk where
 | a
 | b
def tk:Tk:=.b
theorem aat {α:Type} {a b:α} (h:a=b):a=b:=h
theorem kU {a b:Prop} (h:a=b):a=b:=h
def bq {α:Type} (_:Tk) (o:Option α) (K:α→Prop):Prop:=match o with
 | some v=>K v
 | none=>False
theorem Wl {α:Type} {k:Tk} {o:Option α} {K:α→Prop}:bq k o K=match o with | some v=>K v | none=>False:=kU rfl
theorem kB {α:Type} {k:Tk} {o:Option α} {K:α→Prop}:bq k o K↔∃ v,o=some v∧K v:=by cases o with | none=>exact⟨fun h=>h.elim,fun ⟨_,h,_⟩=>by cases h⟩ | some v=>exact⟨fun h=>⟨v,rfl,h⟩,fun ⟨_,e,h⟩=>by cases e; exact h⟩
def nq {α:Type} (_:Tk) (o:Option α) (A:α→Prop) (B:Prop):Prop:=match o with
 | some v=>A v
 | none=>B
theorem Wm {α:Type} {k:Tk} {o:Option α} {A:α→Prop} {B:Prop}:nq k o A B=match o with | some v=>A v | none=>B:=kU rfl
theorem uc {α:Type} {k:Tk} {v:α} {A:α→Prop} {B:Prop}:nq k (some v) A B=A v:=rfl
theorem ud {α:Type} {k:Tk} {A:α→Prop} {B:Prop}:nq k none A B=B:=rfl
section
variable {m:Bool} {P:Program} {tt:Table} {st:St} {Q:St→Prop}
def ue (_:Tk) (m:Bool) (P:Program) (f:FuncId) (vs:List V) (o:Option (List V)) (keys:List (Nat×Nat)) (st:St) (dst:Option Tmp) (Q:St→Prop):Prop :=
 (∃ vs' r,o=some vs'∧bG P f vs' r∧Q ({ st with mem:=fQ st.mem keys r }.put dst r)) ∨
 (∃ r bM,bk P f vs st.mem r bM∧Q ({ st with mem:=bM }.put dst r)) ∨
 (m=true∧∃ R,dR P f vs st.mem R∧∀ r bM,R r bM→Q ({ st with mem:=bM }.put dst r)) ∨
 (∃ r,qo P f vs r∧Q (st.put dst r))
def aau (_:Tk) (m:Bool) (P:Program) (k:Nat) (vs:List V) (st:St) (dst:Option Tmp) (Q:St→Prop):Prop :=
 (∃ b bM,Ge P k vs st.mem b bM∧Q ({ st with mem:=bM }.put dst (.sc (.bool b)))) ∨
 (m=true∧∃ R,JX P k vs st.mem R∧∀ b bM,R b bM→Q ({ st with mem:=bM }.put dst (.sc (.bool b))))
def apV (_:Tk) (m:Bool) (r:Option (Nat×Nat×Nat×Nat×List V×List V)) (st:St) (dst:Option Tmp) (Q:St→Prop):Prop:=m=true∧match r with
 | some (size,b,v,l,rs,xs)=>∀ (o:Nat) (mo:List V),mo.drop o=rs++xs→o+(l+xs.length)=mo.length→Q ({ st with mem:=st.mem.set b (.rows (v+1) size mo) }.put dst (.ms b (v+1) o (l+xs.length)))
 | none=>False
def nxV (_:Tk) (m:Bool) (st:St) (dst:Option Tmp) (it:V) (str:Bool) (Q:St→Prop):Prop:=m=true∧tG st dst it str Q
def niV (_:Tk) (m:Bool) (n:Nat) (op:BinOp) (st:St) (dst:Option Tmp) (Q:St→Prop):Prop :=
 m=true∧∀ b:Bool,(n≠0→b=false)→Q (st.put dst (.sc (.bool (o7 op b))))
def RS (tt:Table) (T:TypeId) (len:Nat) (parts:List (Nat×Operand)) (st:St) (key:Nat):Option (List ba) :=
 match vl tt T len parts st.eval with
 | some (size,rs)=>some (c7 st.mem key (.rows 0 size rs))
 | none=>match Q6 tt T len parts st with
  | some (size,rs)=>some (c7 (ey st.mem (B8 st.eval parts)) key (.rows 0 size rs))
  | none=>none
def Cu (tt:Table) (mem:List ba) (T:TypeId) (p x:V):Option (List ba) :=
 match mG tt mem T p x with
 | some m=>some m
 | none=>B9 tt mem T p x
def nv (m:Bool) (P:Program) (tt:Table) (key:Nat) (o:Oper) (st:St) (Q:St→Prop):Prop :=
 match o.op with
 | .alloc T=>bq tk (tt T) fun i=>Q ({ st with mem:=c7 st.mem key (.box (i.zero.map V.sc)) }.put o.dst (.ptr key 0))
 | .box _ x=>bq tk (k7 (st.eval x)) fun cs=>Q ({ st with mem:=c7 st.mem key (.box cs) }.put o.dst (.ptr key 0))
 | .build T parts=>bq tk (mH P tt T parts.toList st.eval) fun v=>Q (st.put o.dst v)
 | .buildSlice T len parts=>bq tk (RS tt T len parts.toList st key) fun mem=>Q ({ st with mem:=mem }.put o.dst (.ms key 0 0 len))
 | .store T p x=>bq tk (Cu tt st.mem T (st.eval p) (st.eval x)) fun mem=>Q ({ st with mem:=mem }.put o.dst (.sc undef))
 | .call { callee:=.builtin .append,args:=xs,argTypes:=ts }=>match xs.toList.map st.eval with
  | [s,x]=>nq tk (iw tt st.mem ts.toList s x) (fun p=>Q ({ st with mem:=(fM st.mem key p.1 p.2.2 p.2.1).1 }.put o.dst (fM st.mem key p.1 p.2.2 p.2.1).2)) (apV tk m (nR tt st.mem ts.toList s x) st o.dst Q)
  | _=>False
 | .call { callee:=.value f,args:=xs,.. }=>match st.eval f with
  | .jz k=>aau tk m P k (xs.toList.map st.eval) st o.dst Q
  | fv=>bq tk (cP fv (xs.toList.map st.eval)) fun p=>ue tk m P p.1 p.2 (fh st.mem p.2) (p.2.flatMap eR) st o.dst Q
 | .makeSlice T l c=>bq tk (wy tt T (st.eval l) (st.eval c)) fun p=>Q ({ st with mem:=c7 st.mem key (.rows 0 p.1 p.2.1) }.put o.dst (.ms key 0 0 p.2.1.length))
 | .makeMap _ none=>Q ({ st with mem:=c7 st.mem key (.map [] 0) }.put o.dst (.mp key))
 | .mapUpdate T d k x=>bq tk (dt P st.mem T (st.eval d) (st.eval k) (st.eval x)) fun mem=>Q ({ st with mem:=mem }.put o.dst (.sc undef))
 | .insert T d k x=>bq tk (dt P st.mem T (st.eval d) (st.eval k) (st.eval x)) fun mem=>Q ({ st with mem:=mem }.put o.dst (.sc undef))
 | .mapEntry T d k=>bq tk (vm P st.mem T (st.eval d) (st.eval k)) fun p=>Q ({ st with mem:=p.1 }.put o.dst p.2)
 | .entryStore _ d s x=>bq tk (vn st.mem (st.eval d) (st.eval s) (st.eval x)) fun mem=>Q ({ st with mem:=mem }.put o.dst (.sc undef))
 | .call { callee:=.builtin .delete,args:=xs,argTypes:=ts }=>bq tk (rj P st.mem ts (xs.toList.map st.eval)) fun mem=>Q ({ st with mem:=mem }.put o.dst (.sc (.tuple #[])))
 | .range T x=>bq tk (oD P st.mem T (st.eval x)) fun B=>Q ({ st with mem:=c7 st.mem key B }.put o.dst (.ptr key 0))
 | .next it str=>nxV tk m st o.dst (st.eval it) str Q
 | .binOp op T x y _=>nq tk (od tt op T (st.eval x) (st.eval y)) (fun n=>niV tk m n op st o.dst Q) (bq tk (lr P tt st o) fun v=>Q (st.put o.dst v))
 | _=>bq tk (lr P tt st o) fun v=>Q (st.put o.dst v)
theorem rB {α:Type} {k:Tk} {o:Option α} {A B:α→Prop} (h:bq k o A) (u5:∀ v,A v→B v):bq k o B:=by cases o with | none=>exact h | some v=>exact u5 v h
theorem Hf {dst:Option Tmp} {it:V} {str:Bool} {A B:St→Prop} (h:tG st dst it str A) (u5:∀ s,A s→B s):tG st dst it str B:=by
 unfold tG at h ⊢;split at h;·split at h;(·split at h;(·exact⟨h.1,h.2.1,fun e=>u5 _ (h.2.2.1 e),fun e he=>u5 _ (h.2.2.2 e he)⟩);exact h);(·refine⟨h.1,?_⟩;have:=h.2;split at this;(·rename_i hp; rw [if_pos hp]; exact u5 _ this);rename_i hp; rw [if_neg hp]; exact u5 _ this);(·exact⟨h.1,u5 _ h.2⟩);exact h
 exact h
theorem Hg {key:Nat} {o:Oper} {A B:St→Prop} (h:nv m P tt key o st A) (u5:∀ s,A s→B s):nv m P tt key o st B:=by
 have app:∀ {ts:List TypeId} {s x:V},nq tk (iw tt st.mem ts s x) (fun p=>A ({ st with mem:=(fM st.mem key p.1 p.2.2 p.2.1).1 }.put o.dst (fM st.mem key p.1 p.2.2 p.2.1).2)) (apV tk m (nR tt st.mem ts s x) st o.dst A) →
   nq tk (iw tt st.mem ts s x) (fun p=>B ({ st with mem:=(fM st.mem key p.1 p.2.2 p.2.1).1 }.put o.dst (fM st.mem key p.1 p.2.2 p.2.1).2)) (apV tk m (nR tt st.mem ts s x) st o.dst B):=fun {ts s x} h=>by
  cases ha:iw tt st.mem ts s x with
  | some p=>rw [ha,uc] at h; exact u5 _ h
  | none=>rw [ha,ud] at h; exact⟨h.1,He (show wA tt st ts s x o.dst A from h.2) u5⟩
 have cv:∀ {f:FuncId} {vs:List V} {p:Option (List V)} {keys:List (Nat×Nat)},ue tk m P f vs p keys st o.dst A→ue tk m P f vs p keys st o.dst B:=fun h=>by (rcases h with ⟨vs',r,h1,h2,h3⟩ | ⟨r,m',h1,h2⟩ | ⟨hm,R,h1,h2⟩ | ⟨r,h1,h2⟩);(·exact .inl ⟨vs',r,h1,h2,u5 _ h3⟩);(·exact .inr (.inl ⟨r,m',h1,u5 _ h2⟩));(·exact .inr (.inr (.inl ⟨hm,R,h1,fun r m' h=>u5 _ (h2 r m' h)⟩)));exact .inr (.inr (.inr ⟨r,h1,u5 _ h2⟩))
 obtain⟨dst,op,type,pos,after,guard⟩:=o;cases op
 case call c =>
  obtain⟨callee,args,ats⟩:=c
  cases callee
  case value f =>
   simp only [nv] at h ⊢
   split at h
   ·rcases h with ⟨b,m',h1,h2⟩ | ⟨hm,R,h1,h2⟩
    ·exact .inl ⟨b,m',h1,u5 _ h2⟩
    exact .inr ⟨hm,R,h1,fun b m' h=>u5 _ (h2 b m' h)⟩
   exact rB h fun v hv=>cv hv
  case builtin b =>
   cases b
   case append =>
    simp only [nv] at h ⊢
    split at h
    ·exact app h
    exact h
   all_goals (simp only [nv] at h ⊢; exact rB h fun v hv=>u5 _ hv)
  all_goals (simp only [nv] at h ⊢; exact rB h fun v hv=>u5 _ hv)
 case makeMap T l =>
  cases l with
  | none=>exact u5 _ h
  | some l=>simp only [nv] at h ⊢; exact rB h fun v hv=>u5 _ hv
 case next it str=>exact⟨h.1,Hf h.2 u5⟩
 case binOp op T x y yt =>
  simp only [nv] at h ⊢
  cases hn:od tt op T (st.eval x) (st.eval y) with
  | some n =>
   rw [hn,uc] at h
   exact⟨h.1,fun b hb=>u5 _ (h.2 b hb)⟩
  | none=>rw [hn,ud] at h; exact rB h fun v hv=>u5 _ hv
 all_goals (simp only [nv] at h ⊢; exact rB h fun v hv=>u5 _ hv)
def Um (m:Bool) (P:Program) (tt:Table) (key:Nat) (o:Oper) (st:St) (Q:St→Prop):Prop:=match m with
 | true=>c8 P tt key o st Q
 | false=>∃ s,Q s∧∀ K:St→Prop,K s→c8 P tt key o st K
theorem j1 {key:Nat} {o:Oper} (s:St) (h:Q s) (hk:∀ K:St→Prop,K s→c8 P tt key o st K):Um m P tt key o st Q:=by
 cases m;·exact⟨s,h,hk⟩
 exact hk Q h
theorem M9 {f:FuncId} {vs:List V} {dst:Option Tmp} {k:Tk} (h:ue k m P f vs (fh st.mem vs) (vs.flatMap eR) st dst Q):(m=true∧wz P f vs st dst Q)∨∃ s,Q s∧∀ K:St→Prop,K s→wz P f vs st dst K:=by
 rcases h with ⟨vs',r,h1,h2,h3⟩ | ⟨r,m',h1,h2⟩ | ⟨hm,R,h1,h2⟩ | ⟨r,h1,h2⟩
 ·exact .inr ⟨_,h3,fun K hK=>.inl ⟨vs',r,h1,h2,hK⟩⟩
 ·exact .inr ⟨_,h2,fun K hK=>.inr (.inl ⟨r,m',h1,hK⟩)⟩
 ·exact .inl ⟨hm,.inr (.inr (.inl ⟨R,h1,h2⟩))⟩
 exact .inr ⟨_,h2,fun K hK=>.inr (.inr (.inr ⟨r,h1,hK⟩))⟩
theorem Na {key:Nat} {o:Oper} (h:nv m P tt key o st Q):Um m P tt key o st Q:=by
 unfold nv at h;split at h;all_goals try (rename_i lD; simp only [kB] at h; obtain⟨v,h1,h2⟩:=h; refine j1 _ h2 fun K hK=>?_; unfold c8; rw [lD]; dsimp only; rw [h1]; exact hK)
 ·rename_i lD;simp only [kB] at h;obtain⟨mem,h1,h2⟩:=h;refine j1 _ h2 fun K hK=>?_;unfold c8; rw [lD]; dsimp only;unfold RS at h1;split at h1;(·rename_i hl; cases h1; rw [hl]; exact hK);rename_i hl;rw [hl];split at h1;(·rename_i hl; cases h1; dsimp only; rw [hl]; exact hK);cases h1
 ·rename_i lD;simp only [kB] at h;obtain⟨mem,h1,h2⟩:=h;refine j1 _ h2 fun K hK=>?_;unfold c8; rw [lD]; dsimp only;unfold Cu at h1;split at h1;(·rename_i hl; cases h1; rw [hl]; exact hK);rename_i hl; rw [hl]; dsimp only; rw [h1]; exact hK
 ·rename_i lD;split at h;(·rename_i s x Q8;cases ha:iw tt st.mem _ s x with | some p =>rw [ha,uc] at h;refine j1 _ h fun K hK=>?_;unfold c8; rw [lD]; dsimp only; rw [Q8]; dsimp only; rw [ha]; exact hK | none =>rw [ha,ud] at h;obtain⟨rfl,h⟩:=h;show c8 P tt key o st Q;unfold c8; rw [lD]; dsimp only; rw [Q8]; dsimp only; rw [ha]; exact h);exact h.elim
 ·rename_i lD;split at h;(·rename_i k hk;(rcases h with ⟨b,m',h1,h2⟩ | ⟨rfl,R,h1,h2⟩);(·refine j1 _ h2 fun K hK=>?_;unfold c8; rw [lD]; dsimp only; rw [hk]; exact .inl ⟨b,m',h1,hK⟩);show c8 P tt key o st Q;unfold c8; rw [lD]; dsimp only; rw [hk]; exact .inr ⟨R,h1,h2⟩);rename_i hk;simp only [kB] at h;obtain⟨⟨g,vs⟩,h1,h2⟩:=h;(have aav:∀ K:St→Prop,wz P g vs st o.dst K→c8 P tt key o st K:=fun K hK=>by unfold c8; rw [lD]; dsimp only;split;(·rename_i k hy; exact (hk k hy).elim);rw [h1]; exact hK);(rcases M9 h2 with ⟨rfl,h3⟩ | ⟨s,h3,h4⟩);(·exact aav Q h3);exact j1 s h3 fun K hK=>aav K (h4 K hK)
 ·rename_i lD;exact j1 _ h fun K hK=>by unfold c8; rw [lD]; exact hK
 ·rename_i lD;obtain⟨rfl,h⟩:=h;show c8 P tt key o st Q;unfold c8; rw [lD]; exact h
 ·rename_i op T x y yt lD;cases hn:od tt op T (st.eval x) (st.eval y) with | some n =>rw [hn,uc] at h;obtain⟨rfl,h⟩:=h;show c8 P tt key o st Q;unfold c8; rw [lD]; dsimp only; rw [hn]; exact h | none =>rw [hn,ud,kB] at h;obtain⟨v,h1,h2⟩:=h;exact j1 _ h2 fun K hK=>by unfold c8; rw [lD]; dsimp only; rw [hn]; dsimp only; rw [h1]; exact hK
 rw [kB] at h;obtain⟨v,h1,h2⟩:=h;refine j1 _ h2 fun K hK=>?_;unfold c8;split
 all_goals first
  | (rw [h1]; exact hK)
  | (exfalso; solve_by_elim)
end
end Go.Eng
end

section
namespace Go.Eng
variable [a6]
section
variable {P:Program} {ρ:Option Nat} {n0:Nat} {c:Code} {st:St} {Q:Exit→St→Prop}
theorem IZ {v v':V} (t:Nat) (h0:st.fr[t]?=some v) (hp:gu st.mem v=some v') (h:dN P ρ n0 c { fr:=st.fr.set t v',mem:=ey st.mem (eR v) } Q):dN P ρ n0 c st Q:=fun E0 w0 Nb E w a he hs Dt=>by
 obtain⟨E',h1,h2,h3⟩:=hs.freeze (vs:=[v]) (vs':=[v']) (by simp only [fh,hp]);obtain⟨x,hx,hr⟩:=hs.fr.get h0;have Dr:=(h3 [x] (cz.cons hr (.nil _))).2 0 v' x rfl rfl;have e1:[v].flatMap eR=eR v:=by simp
 rw [e1] at h1;have e2:a.tmps.toList.set t x=a.tmps.toList:=by apply di;intro i;rw [bw];split;(·rename_i hi; subst hi;rw [if_pos (ax.1 hx).1,hx]);rfl
 have h4:cz E' (st.fr.set t v') a.tmps.toList:=by have:=(cz.set (n:=t) h1.fr Dr);rwa [e2] at this
 exact h E0 w0 Nb E' w a (he.trans h2) ⟨h1.F,h1.lt,h1.mem,h1.top,h1.dw,h1.apart,h4⟩ (Dt.LD h2)
theorem Wn {v v':V} (t:Nat) (h0:st.fr[t]?=some v) (hp:gu st.mem v=some v') (h:Ex P ρ n0 c { fr:=st.fr.set t v',mem:=ey st.mem (eR v) } Q):Ex P ρ n0 c st Q:=by obtain⟨e,s2,hq,h2⟩:=h;exact⟨e,s2,hq,fun Q' h'=>IZ t h0 hp (h2 Q' h')⟩
theorem cU.Wo {E:Env} {w:World} {a:Act} (hs:cU E w a st) {k j:Nat} {cs:List V} (hk:st.mem[k]?=some (.box cs)) (hj:cs[j]?=some (.sc (.slice none 0 0))) (b v:Nat):cU E w a { st with mem:=st.mem.set k (.box (cs.set j (.ms b v 0 0))) }:=by
 have bX:=(ax.1 hk).1;refine⟨hs.F,hs.lt,fun k' B hB=>?_,fun k' jA=>hs.top k' (by simpa using jA),fun k' B hB v hv=>?_,hs.apart,hs.fr⟩;·rw [bw] at hB;split at hB;(·rename_i he; subst he;cases hB;obtain⟨g,T,xs,hb,hh,hr,hf⟩:=hs.mem k _ hk;refine⟨g,T,xs,hb,hh,?_,hf⟩;obtain⟨x,hx,ZR⟩:=hr.get hj;have hxv:=fY ZR;subst hxv;have:=cz.set (n:=j) hr (cK.iz E b v 0);rwa [nu hx] at this);exact hs.mem k' B hB
 rw [bw] at hB;split at hB;·rename_i he; subst he;cases hB;exact hs.dw k _ hk v hv
 exact hs.dw k' B hB v hv
end
end Go.Eng
end

section
namespace Go.Eng
variable [a6]
def lk (t:Nat):List (Nat×V)→V
 | []=>.undef
 | p :: ws=>if p.1=t then p.2 else lk t ws
def W (n:Nat) (ws:List (Nat×V)):List V:=(List.range n).map fun i=>lk i ws
theorem uf (n:Nat) (ws:List (Nat×V)) (t:Nat):(W n ws)[t]?=if t<n then some (lk t ws) else none:=by
 unfold W;rw [ae];by_cases h:t<n;·rw [if_pos h,an1 h]; rfl
 rw [if_neg h,dF (by simp; omega)]; rfl
theorem Wp (n:Nat) (ws:List (Nat×V)) (t:Nat):(W n ws).getD t .undef=if t<n then lk t ws else .undef:=by rw [eH,uf]; split <;> rfl
theorem qH (n:Nat) (ws:List (Nat×V)):(W n ws).length=n:=by simp [W]
theorem I0 (n:Nat) (ws:List (Nat×V)) (d:Nat) (v:V):(W n ws).set d v=W n ((d,v) :: ws):=by
 apply di;intro i;rw [bw,uf,uf,qH];simp only [lk];by_cases h:d=i;·subst h; simp
 simp [h]
def qI (oP:List (Nat×V)):List (Nat×V)→Prop
 | []=>True
 | p :: r=>lk p.1 oP=p.2∧qI oP r
theorem I1 {oP:List (Nat×V)}:∀ {ws:List (Nat×V)},qI oP ws→∀ i,lk i ws = .undef∨lk i ws=lk i oP
 | [],_,i=>.inl rfl
 | p :: r,h,i=>by
  simp only [lk]
  by_cases e:p.1=i
  ·subst e; rw [if_pos rfl]; exact .inr h.1.symm
  rw [if_neg e]; exact I1 h.2 i
theorem RT {E:Env} {n:Nat} {oP ws:List (Nat×V)} (h:qI oP ws) {xs:List Value} (hr:cz E (W n oP) xs):cz E (W n ws) xs:=by
 refine⟨by rw [← hr.1,qH,qH],fun i v x hv hx=>?_⟩;rw [uf] at hv;split at hv;·rename_i hi;cases hv;(rcases I1 h i with e | e);(·rw [e]; exact .undef _ _);rw [e]; exact hr.2 i _ x (by rw [uf,if_pos hi]) hx
 cases hv
def Nc (k:Nat) (ws:List (Nat×V)):Bool:=ws.all fun p=>aH k p.2
theorem aaw {k n:Nat} {ws:List (Nat×V)} (h:Nc k ws=true):(W n ws).all (aH k)=true:=by rw [aY];intro v hv;unfold W at hv;obtain⟨i,-,rfl⟩:=cu.1 hv;clear hv;induction ws with | nil=>rfl | cons p r ih =>unfold Nc at h ih;rw [cA,aN] at h;simp only [lk];split;(·exact h.1);exact ih h.2

def X (_:Tk) (m:Bool) (P:Program) (ρ:Option Nat) (n0:Nat) (c:Code) (st:St) (Q:Exit→St→Prop):Prop:=match m with
 | true=>dN P ρ n0 c st Q
 | false=>Ex P ρ n0 c st Q
section
variable {k_:Tk} {m:Bool} {P:Program} {tt:Table} {sp:List Nat} {ρ:Option Nat} {n0:Nat} {st:St} {Q:Exit→St→Prop} {n:Nat} {ws oP:List (Nat×V)} {mem lz:List ba}
theorem X.mono {c:Code} {Q2:Exit→St→Prop} (h:X k_ m P ρ n0 c st Q) (hq:∀ e s,Q e s→Q2 e s):X k_ m P ρ n0 c st Q2:=by
 cases m;·exact Ex.mono h hq
 exact dN.mono h hq
theorem yL {x y:Code} (h:X k_ m P ρ n0 x st (gz (fun st'=>X k_ m P ρ n0 y st' Q) Q)):X k_ m P ρ n0 (.seq x y) st Q:=by
 cases m;·exact yI h
 exact bj h
theorem RU {id:Nat} {c:Code} (h:X k_ m P ρ n0 c st (jC id Q)):X k_ m P ρ n0 (.block id c) st Q:=by
 cases m;·exact yJ h
 exact bP h
theorem Cv {c:Code} {st':St} (hw:∀ E w a,cU E w a st→cU E w a st') (h:X k_ m P ρ n0 c st' Q):X k_ m P ρ n0 c st Q:=by
 cases m;·obtain⟨e,s,hq,h⟩:=h;exact⟨e,s,hq,fun Q' h'=>qu hw (h Q' h')⟩
 exact qu hw h
theorem Wq {c:Code} (k:Nat) (hn:n0≤k) (hf:st.fr.all (aH k)=true) (hm:(st.mem.take k).all (aI k)=true) (h:X k_ m P ρ n0 c { st with mem:=st.mem.take k } Q):X k_ m P ρ n0 c st Q:=by
 cases m;·obtain⟨e,s,hq,h⟩:=h;exact⟨e,s,hq,fun Q' h'=>ym k [] hn hf hm (h Q' h')⟩
 exact ym k [] hn hf hm h
def vD (n0 k n:Nat) (ws:List (Nat×V)) (mem:List ba) (st:St):Prop :=
 ∃ oP lz,st=⟨W n oP,lz⟩∧n0≤k∧qI oP ws∧Nc k ws=true∧mem.all (aI k)=true∧lz.take k=mem
theorem dj {k:Nat} (h0:n0≤k) (h1:qI oP ws∧Nc k ws=true∧mem.all (aI k)=true∧lz.take k=mem):vD n0 k n ws mem ⟨W n oP,lz⟩:=⟨oP,lz,rfl,h0,h1⟩
theorem Hh {c:Code} {k:Nat} (hl:vD n0 k n ws mem st) (h:X k_ m P ρ n0 c ⟨W n ws,mem⟩ Q):X k_ m P ρ n0 c st Q:=by obtain⟨oP,lz,rfl,h0,h1,h2,h3,h4⟩:=hl;subst h4;exact Cv (st':=⟨W n ws,lz⟩) (fun E w a hs=>⟨hs.F,hs.lt,hs.mem,hs.top,hs.dw,hs.apart,RT h1 hs.fr⟩) (Wq k h0 (aaw h2) h3 h)

def gate (_:Tk) (b:Bool) (d:Nat) (st:St) (f:Bool→St→Prop):Prop:=∀ b',b=b'→f b' { st with fr:=st.fr.set d (.sc (.bool b')) }
theorem Wr {d:Nat} {f:Bool→St→Prop}:gate k_ true d st f=f true { st with fr:=st.fr.set d (.sc (.bool true)) }:=propext ⟨fun h=>h _ rfl,fun h b' e=>by subst e; exact h⟩
theorem Ws {d:Nat} {f:Bool→St→Prop}:gate k_ false d st f=f false { st with fr:=st.fr.set d (.sc (.bool false)) }:=propext ⟨fun h=>h _ rfl,fun h b' e=>by subst e; exact h⟩
theorem bY {b:Bool} {d:Nat} {f:Bool→St→Prop} (h1:b=true→f true { st with fr:=st.fr.set d (.sc (.bool true)) }) (h2:b=false→f false { st with fr:=st.fr.set d (.sc (.bool false)) }):gate k_ b d st f:=by intro b' e;cases b' with | true=>exact h1 e | false=>exact h2 e
theorem I2 {b:Bool} {d:Nat} {f:Bool→St→Prop} (hd:st.fr[d]?=some (.sc (.bool b))∨st.fr.getD d .undef = .sc (.bool b)) (h:gate k_ b d st f):f b st:=by
 have:=h b rfl;have e:st.fr.set d (.sc (.bool b))=st.fr:=by (rcases hd with hd | hd);(·exact nu hd);rw [eH] at hd;cases hg:st.fr[d]? with | none=>rw [hg] at hd; cases hd | some v=>rw [hg] at hd; cases hd; exact nu hg
 rw [e] at this;exact this
def Cw (_:Tk) (v:Option V) (d:Nat) (want:Bool) (st:St) (yes no:St→Prop):Prop:=match v with
 | some (.sc (.bool b))=>gate tk b d st fun b s=>match b==want with | true=>yes s | false=>no s
 | some (.sc _)=>no st
 | some _=>False
 | none=>no st
def wS:List Oper→Nat→Option Tmp
 | [],_=>none
 | o :: _,0=>o.dst
 | _ :: r,n+1=>wS r n
theorem RV {o:Oper} {r:List Oper}:wS (o :: r) 0=o.dst:=rfl
theorem I3 {o:Oper} {r:List Oper} {n:Nat}:wS (o :: r) (n+1)=wS r n:=rfl
theorem EA:∀ (l:List Oper) (j:Nat),wS l j=(l[j]?).bind (·.dst)
 | [],j=>by simp [wS]
 | o :: r,0=>rfl
 | o :: r,j+1=>by rw [I3,EA r j,mg]
def gd (all:List Oper) (o:Oper) (st:St) (yes no:St→Prop):Prop:=match o.guard with
 | none=>yes st
 | some (j,want)=>match wS all j with
  | none=>no st
  | some d=>Cw tk st.fr[d]? d want st yes no
theorem Un {all:Array Oper} {o:Oper} {yes no:St→Prop} (h:gd all.toList o st yes no):(fE all st.fr o=some true∧yes st)∨(fE all st.fr o=some false∧no st):=by
 unfold gd at h;unfold fE;split at h;·rename_i hg; rw [hg]; exact .inl ⟨rfl,h⟩
 rename_i j want hg;rw [hg];dsimp only;rw [EA,eX] at h;cases hd:(all[j]?).bind (·.dst) with | none=>rw [hd] at h; exact .inr ⟨rfl,h⟩ | some d =>rw [hd] at h;dsimp only at h ⊢;unfold Cw at h;split at h;(·rename_i b hb;have h:=I2 (.inl hb) h;rw [hb];dsimp only;cases hc:b==want with | true=>rw [hc] at h; exact .inl ⟨rfl,h⟩ | false=>rw [hc] at h; exact .inr ⟨rfl,h⟩);(·rename_i x hx hb;rw [hb];cases x with | bool b=>exact absurd rfl (hx b) | _=>exact .inr ⟨rfl,h⟩);(·exact h.elim);rename_i hb; rw [hb]; exact .inr ⟨rfl,h⟩
def sS (m:Bool) (P:Program) (tt:Table) (all:List Oper):List Oper→St→(St→Prop)→Prop
 | [],st,Q=>Q st
 | o :: r,st,Q=>gd all o st (fun s=>nv m P tt s.mem.length o s fun s=>sS m P tt all r s Q) (fun s=>sS m P tt all r (s.put o.dst (.sc undef)) Q)
theorem Wt {all:List Oper} {Q:St→Prop}:sS m P tt all [] ⟨W n ws,mem⟩ Q=Q ⟨W n ws,mem⟩:=kU rfl
theorem Wu {all:List Oper} {o:Oper} {r:List Oper} {Q:St→Prop}:sS m P tt all (o :: r) ⟨W n ws,mem⟩ Q=gd all o ⟨W n ws,mem⟩ (fun s=>nv m P tt s.mem.length o s fun s=>sS m P tt all r s Q) (fun s=>sS m P tt all r (s.put o.dst (.sc undef)) Q):=kU rfl
def aax (m:Bool) (P:Program) (tt:Table) (all:Array Oper) (l:List Oper) (st:St) (Q:St→Prop):Prop:=match m with
 | true=>fq P tt all l st Q
 | false=>∃ s,Q s∧∀ K:St→Prop,K s→fq P tt all l st K
theorem Cx {all:Array Oper} {Q:St→Prop}:∀ (l:List Oper) (st:St),sS m P tt all.toList l st Q→aax m P tt all l st Q
 | [],st,h=>by
  cases m with
  | true=>show fq P tt all [] st Q; rw [fq]; exact h
  | false=>exact⟨st,h,fun K hK=>by rw [fq]; exact hK⟩
 | o :: r,st,h=>by
  rw [sS] at h
  rcases Un h with ⟨hw,h⟩ | ⟨hw,h⟩
  ·have h:=Na (Hg (B:=fun s=>aax m P tt all r s Q) h fun s hs=>Cx r s hs)
   cases m with
   | true =>
    show fq P tt all (o :: r) st Q
    rw [fq,hw]
    exact h
   | false =>
    obtain⟨s1,h1,h2⟩:=h
    obtain⟨s2,h3,h4⟩:=h1
    exact⟨s2,h3,fun K hK=>by rw [fq,hw]; exact h2 _ (h4 K hK)⟩
  have h:=Cx r _ h
  cases m with
  | true =>
   show fq P tt all (o :: r) st Q
   rw [fq,hw]; exact h
  | false =>
   obtain⟨s2,h3,h4⟩:=h
   exact⟨s2,h3,fun K hK=>by rw [fq,hw]; exact h4 K hK⟩
theorem ug (ht:TT P tt) {id:Nat} {ops:Array Oper} (h:sS m P tt ops.toList ops.toList st (Q .normal)):X k_ m P ρ n0 (.region id ops false) st Q:=by have h:=Cx _ _ h;cases m with | true=>exact lL ht h | false =>obtain⟨s,h1,h2⟩:=h;exact⟨.normal,s,h1,fun Q' h'=>lL ht (h2 _ h')⟩
def I4 (c:Operand) (st:St) (f:Bool→St→Prop):Prop:=match st.eval c with
 | .sc (.bool b)=>match c with
  | .tmp t=>gate tk b t st f
  | _=>f b st
 | _=>False
def nJ (i:Nat):List Nat→Bool
 | []=>false
 | a :: r=>if a=i then true else nJ i r
def ky:Code→Nat
 | .cond (.tmp t) _ _=>10000+t
 | .block i _=>20000+i
 | .seq _ _=>30000
 | .region i _ _=>i
 | _=>40000
def vc (m:Bool) (P:Program) (tt:Table) (sp:List Nat) (ρ:Option Nat) (n0:Nat):Code→St→(Exit→St→Prop)→Prop
 | .seq x y,st,Q=>match x with
  | .region id ops false=>match nJ id sp with
   | false=>sS m P tt ops.toList ops.toList st fun s=>vc m P tt sp ρ n0 y s Q
   | true=>X tk m P ρ n0 (.seq (.region id ops false) y) st Q
  | .skip=>vc m P tt sp ρ n0 y st Q
  | _=>match nJ (ky x) sp with
   | false=>vc m P tt sp ρ n0 x st (gz (fun s=>vc m P tt sp ρ n0 y s Q) Q)
   | true=>X tk m P ρ n0 (.seq x y) st Q
 | .region id ops false,st,Q=>match nJ id sp with
  | false=>sS m P tt ops.toList ops.toList st (Q .normal)
  | true=>X tk m P ρ n0 (.region id ops false) st Q
 | .cond c x y,st,Q=>I4 c st fun b s=>match b with | true=>vc m P tt sp ρ n0 x s Q | false=>vc m P tt sp ρ n0 y s Q
 | .block id c,st,Q=>vc m P tt sp ρ n0 c st (jC id Q)
 | .skip,st,Q=>Q .normal st
 | .ret,st,Q=>Q .ret st
 | .exit id,st,Q=>Q (.exit id) st
 | c,st,Q=>X tk m P ρ n0 c st Q
theorem vx (ht:TT P tt):∀ {c:Code} {st:St} {Q:Exit→St→Prop},vc m P tt sp ρ n0 c st Q→X k_ m P ρ n0 c st Q:=by intro c;induction c with | seq x y ihx YM =>(intro st Q h;unfold vc at h;split at h;(·split at h;(·refine yL ((ug (Q:=gz (fun s=>vc m P tt sp ρ n0 y s Q) Q) ht h).mono fun e s h=>?_);cases e with | normal=>exact YM h | _=>exact h);exact h);(·have h:=YM h;cases m;(·exact yI (Ct h));exact bj (bZ h));split at h;(·refine yL ((ihx h).mono fun e s h=>?_);cases e with | normal=>exact YM h | _=>exact h);exact h) | region id ops mixed =>intro st Q h;cases mixed;(·unfold vc at h;split at h;(·exact ug ht h);exact h);unfold vc at h; exact h | cond c x y ihx YM =>intro st Q h;unfold vc at h;unfold I4 at h;split at h;(·rename_i b hb;(have h:X k_ m P ρ n0 (if b=true then x else y) st Q:=by split at h;(·rename_i t;have h:=I2 (.inr hb) h;cases b;(·exact YM h);exact ihx h);cases b;(·exact YM h);exact ihx h);cases m;(·exact IX hb h);exact aU hb h);exact h.elim | block id c ih=>intro st Q h; unfold vc at h; exact RU (ih h) | skip =>intro st Q h; unfold vc at h;cases m;(·exact Ct h);exact bZ h | ret =>intro st Q h; unfold vc at h;cases m;(·exact M0 h);exact bK h | exit id =>intro st Q h; unfold vc at h;cases m;(·exact IW h);exact dZ h | _=>intro st Q h; unfold vc at h; exact h
section
variable {x y:Code} {id:Nat} {ops:Array Oper} {c:Operand}
theorem Hi {v:Option V} {d:Nat} {want:Bool} {yes no:St→Prop} {k:Tk}:Cw k v d want st yes no=match v with
  | some (.sc (.bool b))=>gate tk b d st fun b s=>match b==want with | true=>yes s | false=>no s
  | some (.sc _)=>no st
  | some _=>False
  | none=>no st:=kU rfl
def sV:=@nv
theorem Kg {key:Nat} {o:Oper} {Q:St→Prop}:nv m P tt key o ⟨W n ws,mem⟩ Q=sV m P tt key o ⟨W n ws,mem⟩ Q:=kU rfl
theorem Wv {key:Nat} {o:Oper} {Q:St→Prop}:sV m P tt key o st Q=match o.op with
   | .alloc T=>bq tk (tt T) fun i=>Q ({ st with mem:=c7 st.mem key (.box (i.zero.map V.sc)) }.put o.dst (.ptr key 0))
   | .box _ x=>bq tk (k7 (st.eval x)) fun cs=>Q ({ st with mem:=c7 st.mem key (.box cs) }.put o.dst (.ptr key 0))
   | .build T parts=>bq tk (mH P tt T parts.toList st.eval) fun v=>Q (st.put o.dst v)
   | .buildSlice T len parts=>bq tk (RS tt T len parts.toList st key) fun mem=>Q ({ st with mem:=mem }.put o.dst (.ms key 0 0 len))
   | .store T p x=>bq tk (Cu tt st.mem T (st.eval p) (st.eval x)) fun mem=>Q ({ st with mem:=mem }.put o.dst (.sc undef))
   | .call { callee:=.builtin .append,args:=xs,argTypes:=ts }=>match xs.toList.map st.eval with
    | [s,x]=>nq tk (iw tt st.mem ts.toList s x) (fun p=>Q ({ st with mem:=(fM st.mem key p.1 p.2.2 p.2.1).1 }.put o.dst (fM st.mem key p.1 p.2.2 p.2.1).2)) (apV tk m (nR tt st.mem ts.toList s x) st o.dst Q)
    | _=>False
   | .call { callee:=.value f,args:=xs,.. }=>match st.eval f with
    | .jz k=>aau tk m P k (xs.toList.map st.eval) st o.dst Q
    | fv=>bq tk (cP fv (xs.toList.map st.eval)) fun p=>ue tk m P p.1 p.2 (fh st.mem p.2) (p.2.flatMap eR) st o.dst Q
   | .makeSlice T l c=>bq tk (wy tt T (st.eval l) (st.eval c)) fun p=>Q ({ st with mem:=c7 st.mem key (.rows 0 p.1 p.2.1) }.put o.dst (.ms key 0 0 p.2.1.length))
   | .makeMap _ none=>Q ({ st with mem:=c7 st.mem key (.map [] 0) }.put o.dst (.mp key))
   | .mapUpdate T d k x=>bq tk (dt P st.mem T (st.eval d) (st.eval k) (st.eval x)) fun mem=>Q ({ st with mem:=mem }.put o.dst (.sc undef))
   | .insert T d k x=>bq tk (dt P st.mem T (st.eval d) (st.eval k) (st.eval x)) fun mem=>Q ({ st with mem:=mem }.put o.dst (.sc undef))
   | .mapEntry T d k=>bq tk (vm P st.mem T (st.eval d) (st.eval k)) fun p=>Q ({ st with mem:=p.1 }.put o.dst p.2)
   | .entryStore _ d s x=>bq tk (vn st.mem (st.eval d) (st.eval s) (st.eval x)) fun mem=>Q ({ st with mem:=mem }.put o.dst (.sc undef))
   | .call { callee:=.builtin .delete,args:=xs,argTypes:=ts }=>bq tk (rj P st.mem ts (xs.toList.map st.eval)) fun mem=>Q ({ st with mem:=mem }.put o.dst (.sc (.tuple #[])))
   | .range T x=>bq tk (oD P st.mem T (st.eval x)) fun B=>Q ({ st with mem:=c7 st.mem key B }.put o.dst (.ptr key 0))
   | .next it str=>nxV tk m st o.dst (st.eval it) str Q
   | .binOp op T x y _=>nq tk (od tt op T (st.eval x) (st.eval y)) (fun n=>niV tk m n op st o.dst Q) (bq tk (lr P tt st o) fun v=>Q (st.put o.dst v))
   | _=>bq tk (lr P tt st o) fun v=>Q (st.put o.dst v):=kU rfl
theorem Ww {all:List Oper} {o:Oper} {yes no:St→Prop}:gd all o ⟨W n ws,mem⟩ yes no=match o.guard with
  | none=>yes ⟨W n ws,mem⟩
  | some (j,want)=>match wS all j with
   | none=>no ⟨W n ws,mem⟩
   | some d=>Cw tk (W n ws)[d]? d want ⟨W n ws,mem⟩ yes no:=kU rfl
theorem Kh {f:Bool→St→Prop}:I4 c st f=match st.eval c with
  | .sc (.bool b)=>match c with
   | .tmp t=>gate tk b t st f
   | _=>f b st
  | _=>False:=kU rfl
theorem aay:vc m P tt sp ρ n0 (.seq (.region id ops false) y) ⟨W n ws,mem⟩ Q=match nJ id sp with
  | false=>sS m P tt ops.toList ops.toList ⟨W n ws,mem⟩ fun s=>vc m P tt sp ρ n0 y s Q
  | true=>X tk m P ρ n0 (.seq (.region id ops false) y) ⟨W n ws,mem⟩ Q:=kU rfl
theorem aaz:vc m P tt sp ρ n0 (.seq (.region id ops true) y) ⟨W n ws,mem⟩ Q=match nJ id sp with
  | false=>vc m P tt sp ρ n0 (.region id ops true) ⟨W n ws,mem⟩ (gz (fun s=>vc m P tt sp ρ n0 y s Q) Q)
  | true=>X tk m P ρ n0 (.seq (.region id ops true) y) ⟨W n ws,mem⟩ Q:=kU rfl
theorem aaA {x1:Code}:vc m P tt sp ρ n0 (.seq (.seq x x1) y) ⟨W n ws,mem⟩ Q=match nJ 30000 sp with
  | false=>vc m P tt sp ρ n0 (.seq x x1) ⟨W n ws,mem⟩ (gz (fun s=>vc m P tt sp ρ n0 y s Q) Q)
  | true=>X tk m P ρ n0 (.seq (.seq x x1) y) ⟨W n ws,mem⟩ Q:=kU rfl
theorem aaB {x1:Code} {t:Nat}:vc m P tt sp ρ n0 (.seq (.cond (.tmp t) x x1) y) ⟨W n ws,mem⟩ Q=match nJ (10000+t) sp with
  | false=>vc m P tt sp ρ n0 (.cond (.tmp t) x x1) ⟨W n ws,mem⟩ (gz (fun s=>vc m P tt sp ρ n0 y s Q) Q)
  | true=>X tk m P ρ n0 (.seq (.cond (.tmp t) x x1) y) ⟨W n ws,mem⟩ Q:=kU rfl
theorem aaC:vc m P tt sp ρ n0 (.seq (.block id x) y) ⟨W n ws,mem⟩ Q=match nJ (20000+id) sp with
  | false=>vc m P tt sp ρ n0 (.block id x) ⟨W n ws,mem⟩ (gz (fun s=>vc m P tt sp ρ n0 y s Q) Q)
  | true=>X tk m P ρ n0 (.seq (.block id x) y) ⟨W n ws,mem⟩ Q:=kU rfl
theorem agh:vc m P tt sp ρ n0 (.region id ops false) ⟨W n ws,mem⟩ Q=match nJ id sp with
  | false=>sS m P tt ops.toList ops.toList ⟨W n ws,mem⟩ (Q .normal)
  | true=>X tk m P ρ n0 (.region id ops false) ⟨W n ws,mem⟩ Q:=kU rfl
theorem agi:vc m P tt sp ρ n0 (.region id ops true) ⟨W n ws,mem⟩ Q=X tk m P ρ n0 (.region id ops true) ⟨W n ws,mem⟩ Q:=kU rfl
theorem agj:vc m P tt sp ρ n0 (.cond c x y) ⟨W n ws,mem⟩ Q=I4 c ⟨W n ws,mem⟩ fun b s=>match b with | true=>vc m P tt sp ρ n0 x s Q | false=>vc m P tt sp ρ n0 y s Q:=kU rfl
theorem agk:vc m P tt sp ρ n0 (.block id x) ⟨W n ws,mem⟩ Q=vc m P tt sp ρ n0 x ⟨W n ws,mem⟩ (jC id Q):=kU rfl
theorem agl:vc m P tt sp ρ n0 .skip ⟨W n ws,mem⟩ Q=Q .normal ⟨W n ws,mem⟩:=kU rfl
theorem agm:vc m P tt sp ρ n0 .ret ⟨W n ws,mem⟩ Q=Q .ret ⟨W n ws,mem⟩:=kU rfl
theorem agn:vc m P tt sp ρ n0 (.exit id) ⟨W n ws,mem⟩ Q=Q (.exit id) ⟨W n ws,mem⟩:=kU rfl
theorem ago:vc m P tt sp ρ n0 (.loop x) ⟨W n ws,mem⟩ Q=X tk m P ρ n0 (.loop x) ⟨W n ws,mem⟩ Q:=kU rfl
theorem agp {f:St→Prop}:gz f Q .normal st=f st:=kU rfl
theorem agq {f:St→Prop}:gz f Q .ret st=Q .ret st:=kU rfl
theorem ags {f:St→Prop} {j:Nat}:gz f Q (.exit j) st=Q (.exit j) st:=kU rfl
theorem agt {j:Nat}:jC j Q .normal st=Q .normal st:=kU rfl
theorem agu {j:Nat}:jC j Q .ret st=Q .ret st:=kU rfl
theorem agv {i j:Nat}:jC i Q (.exit j) st=if j=i then Q .normal st else Q (.exit j) st:=kU rfl
end
attribute [irreducible] vc
end
end Go.Eng
end

section
namespace Go.Eng
variable [a6]
section
variable {k_:Tk} {m:Bool} {P:Program} {tt:Table} {ρ:Option Nat} {n0:Nat} {st:St} {Q:Exit→St→Prop} {n:Nat} {ws oP:List (Nat×V)} {mem lz:List ba}
theorem yM (ht:TT P tt) {sp:List Nat} {y:Code} (e:Exit) (s:St) (h:gz (fun s=>vc m P tt sp ρ n0 y s Q) Q e s):gz (fun s=>X k_ m P ρ n0 y s Q) Q e s:=by cases e with | normal=>exact vx (k_:=k_) ht h | _=>exact h
theorem sq (ht:TT P tt) (sp:List Nat) {x y:Code} (h:vc m P tt sp ρ n0 x st (gz (fun s=>vc m P tt sp ρ n0 y s Q) Q)):X k_ m P ρ n0 (.seq x y) st Q:=yL ((vx ht h).mono (yM ht))
theorem Ki (ht:TT P tt) (sp:List Nat) {id:Nat} {ops:Array Oper} {y:Code} (h:sS m P tt ops.toList ops.toList st fun s=>vc m P tt sp ρ n0 y s Q):X k_ m P ρ n0 (.seq (.region id ops false) y) st Q :=
 yL ((ug (Q:=gz (fun s=>vc m P tt sp ρ n0 y s Q) Q) ht h).mono (yM ht))
theorem mw (ht:TT P tt) {id:Nat} {ops:Array Oper} (h:sS m P tt ops.toList ops.toList st (Q .normal)):X k_ m P ρ n0 (.region id ops false) st Q:=ug ht h
theorem po {c:Code} {k j:Nat} (hl:vD n0 k n ws mem st) (h:k9 P ρ n0 c j ⟨W n ws,mem⟩ Q):k9 P ρ n0 c j st Q:=by cases j with | zero=>exact h.elim | succ j=>exact Hh (k_:=.b) (m:=true) hl h
theorem Wx {α:Type} (F:α→List (Nat×V)) (M:α→List ba) (μ:α→Nat) (Inv:α→Prop) (a0:α) (k:Nat) {c:Code} (h0:vD n0 k n (F a0) (M a0) st) (hi:Inv a0)
  (step:∀ a,Inv a→X k_ m P ρ n0 c ⟨W n (F a),M a⟩ (gz (fun s=>∃ a',Inv a'∧μ a'<μ a∧vD n0 k n (F a') (M a') s) Q)):X k_ m P ρ n0 (.loop c) st Q:=by cases m with | true =>((have key:∀ (j:Nat) (a:α),Inv a→μ a=j→k9 P ρ n0 c (j+1) ⟨W n (F a),M a⟩ Q:=by intro j;induction j using Nat.strongRecOn with | _ j ih =>intro a hi hj;refine dN.mono (step a hi) fun e s h=>?_;cases e with | normal =>obtain⟨a',h1,h2,h3⟩:=h;exact po h3 (sI (by omega) (ih _ (by omega) a' h1 rfl)) | _=>exact h);exact qt _ (po h0 (key _ a0 hi rfl))) | false =>(have key:∀ (j:Nat) (a:α),Inv a→μ a=j→∃ (e:Exit) (s:St),Q e s∧∀ Q':Exit→St→Prop,Q' e s→∃ i,k9 P ρ n0 c i ⟨W n (F a),M a⟩ Q':=by intro j;induction j using Nat.strongRecOn with | _ j ih =>intro a hi hj;obtain⟨e,s,hq,h⟩:=step a hi;cases e with | normal =>obtain⟨a',h1,h2,h3⟩:=hq;obtain⟨e2,s2,Vf,h5⟩:=ih _ (by omega) a' h1 rfl;refine⟨e2,s2,Vf,fun Q' h'=>?_⟩;obtain⟨i,h6⟩:=h5 Q' h';exact⟨i+1,h _ (po h3 h6)⟩ | _=>exact⟨_,s,hq,fun Q' h'=>⟨1,h (gz (fun st'=>k9 P ρ n0 c 0 st' Q') Q') h'⟩⟩);obtain⟨e,s,hq,h⟩:=key _ a0 hi rfl;refine⟨e,s,hq,fun Q' h'=>?_⟩;obtain⟨j,hj⟩:=h Q' h';exact qt j (po h0 hj)
theorem fL (ht:TT P tt) (sp:List Nat) {α:Type} (F:α→List (Nat×V)) (M:α→List ba) (μ:α→Nat) (Inv:α→Prop) (a0:α) (k:Nat) {c:Code} (h0:vD n0 k n (F a0) (M a0) st) (hi:Inv a0)
  (step:∀ a,Inv a→∀ K:St→Prop,(∀ s,(∃ a',Inv a'∧μ a'<μ a∧vD n0 k n (F a') (M a') s)→K s)→vc m P tt sp ρ n0 c ⟨W n (F a),M a⟩ (gz K Q)):X k_ m P ρ n0 (.loop c) st Q:=Wx F M μ Inv a0 k h0 hi fun a h=>vx ht (step a h _ fun _ h=>h)
def pk (ws:List (Nat×V)):List Nat→List (Nat×V)
 | []=>[]
 | k :: r=>(k,lk k ws) :: pk ws r
def zk:List Nat→List V→List (Nat×V)→List (Nat×V)
 | t :: ts,v :: vs,r=>(t,v) :: zk ts vs r
 | _,_,r=>r
theorem Wy {ks:List Nat}:qI ws (pk ws ks):=by induction ks with | nil=>trivial | cons k r ih=>exact⟨rfl,ih⟩
theorem ea {k:Nat} {p:Nat×V}:Nc k (p :: ws)=(aH k p.2&&Nc k ws):=aat rfl
theorem eV {k:Nat}:Nc k []=true:=aat rfl
theorem Wz (ht:TT P tt) (sp:List Nat) (ts:List Nat) (QO:List V) (k:Nat) (ks:List Nat) (μ:List V→Nat) (Inv:List V→Prop) {c:Code} (hn:n0≤k) (h0:qI oP (zk ts QO (pk oP ks))∧Nc k (zk ts QO (pk oP ks))=true∧(lz.take k).all (aI k)=true) (hi:Inv QO)
  (step:∀ vs,Inv vs→∀ K:St→Prop,(∀ s,(∃ vs',Inv vs'∧μ vs'<μ vs∧vD n0 k n (zk ts vs' (pk oP ks)) (lz.take k) s)→K s)→vc m P tt sp ρ n0 c ⟨W n (zk ts vs (pk oP ks)),lz.take k⟩ (gz K Q)):X k_ m P ρ n0 (.loop c) ⟨W n oP,lz⟩ Q :=
 fL ht sp (fun vs=>zk ts vs (pk oP ks)) (fun _=>lz.take k) μ Inv QO k (dj hn ⟨h0.1,h0.2.1,h0.2.2,rfl⟩) hi step
def fC (ws:List (Nat×V)):List Nat→List V
 | []=>[]
 | t :: r=>lk t ws :: fC ws r
theorem Cy:∀ {ts:List Nat} {r:List (Nat×V)},qI ws r→qI ws (zk ts (fC ws ts) r)
 | [],r,h=>h
 | t :: ts,r,h=>⟨rfl,Cy h⟩
theorem iB (ht:TT P tt) (sp:List Nat) (ts:List Nat) (k:Nat) (ks:List Nat) (μ:List V→Nat) (Inv:List V→Prop) {c:Code} (hn:n0≤k) (h0:Nc k (zk ts (fC oP ts) (pk oP ks))=true∧(lz.take k).all (aI k)=true) (hi:Inv (fC oP ts))
  (step:∀ vs,Inv vs→∀ K:St→Prop,(∀ s,(∃ vs',Inv vs'∧μ vs'<μ vs∧vD n0 k n (zk ts vs' (pk oP ks)) (lz.take k) s)→K s)→vc m P tt sp ρ n0 c ⟨W n (zk ts vs (pk oP ks)),lz.take k⟩ (gz K Q)):X k_ m P ρ n0 (.loop c) ⟨W n oP,lz⟩ Q :=
 Wz ht sp ts (fC oP ts) k ks μ Inv hn ⟨Cy Wy,h0⟩ hi step
theorem oj {ts ks:List Nat} {k j:Nat} {Inv:List V→Prop} {μ:List V→Nat} {QP:List (Nat×V)} {Nd:List ba} (hn:n0≤k) (h:qI QP (pk oP ks)∧Nc k (zk ts (fC QP ts) (pk oP ks))=true∧(lz.take k).all (aI k)=true∧Nd.take k=lz.take k) (hi:Inv (fC QP ts)) (hm:μ (fC QP ts)<j) :
  ∃ vs',Inv vs'∧μ vs'<j∧vD n0 k n (zk ts vs' (pk oP ks)) (lz.take k) ⟨W n QP,Nd⟩:=⟨_,hi,hm,dj hn ⟨Cy h.1,h.2⟩⟩
theorem dP {ts ks:List Nat} {k:Nat} {Inv:List V→Prop} {QP:List (Nat×V)} {Nd:List ba} (hn:n0≤k) (h:qI QP (pk oP ks)∧Nc k (zk ts (fC QP ts) (pk oP ks))=true∧(lz.take k).all (aI k)=true∧Nd.take k=lz.take k) (hi:Inv (fC QP ts)) :
  ∃ vs',Inv vs'∧vD n0 k n (zk ts vs' (pk oP ks)) (lz.take k) ⟨W n QP,Nd⟩:=⟨_,hi,dj hn ⟨Cy h.1,h.2⟩⟩
theorem im (ht:TT P tt) (sp:List Nat) (ts:List Nat) (k:Nat) (ks:List Nat) (Inv:List V→Prop) {x y:Code}
  (h1:∀ K:St→Prop,(∀ s,(∃ vs,Inv vs∧vD n0 k n (zk ts vs (pk oP ks)) (lz.take k) s)→K s)→vc m P tt sp ρ n0 x ⟨W n oP,lz⟩ (gz K Q))
  (h2:∀ vs,Inv vs→vc m P tt sp ρ n0 y ⟨W n (zk ts vs (pk oP ks)),lz.take k⟩ Q):X k_ m P ρ n0 (.seq x y) ⟨W n oP,lz⟩ Q:=by refine yL ((vx ht (h1 _ fun _ h=>h)).mono fun e s h=>?_);cases e with | normal =>obtain⟨vs,hv,hl⟩:=h;exact Hh (k_:=k_) hl (vx ht (h2 vs hv)) | _=>exact h
theorem pq (ht:TT P tt) (sp:List Nat) {α:Type} (F:α→List (Nat×V)) (M:α→List ba) (k:Nat) (Inv:α→Prop) {x y:Code}
  (h1:∀ K:St→Prop,(∀ s,(∃ a,Inv a∧vD n0 k n (F a) (M a) s)→K s)→vc m P tt sp ρ n0 x st (gz K Q))
  (h2:∀ a,Inv a→vc m P tt sp ρ n0 y ⟨W n (F a),M a⟩ Q):X k_ m P ρ n0 (.seq x y) st Q:=by refine yL ((vx ht (h1 _ fun _ h=>h)).mono fun e s h=>?_);cases e with | normal =>obtain⟨a,hv,hl⟩:=h;exact Hh (k_:=k_) hl (vx ht (h2 a hv)) | _=>exact h
theorem agw {c:Code} {v v':V} (t:Nat) (hn:t<n) (h0:lk t ws=v) (hp:gu mem v=some v') (h:X k_ m P ρ n0 c ⟨W n ((t,v') :: ws),ey mem (eR v)⟩ Q):X k_ m P ρ n0 c ⟨W n ws,mem⟩ Q:=by
 have hg:(⟨W n ws,mem⟩:St).fr[t]?=some v:=by rw [← h0]; show (W n ws)[t]?=_; rw [uf,if_pos hn]
 rw [← I0] at h;cases m;·exact Wn t hg hp h
 exact IZ t hg hp h
def Uo (_:Tk) (P:Program) (f:FuncId) (o:Option (List V)) (st:St) (dst:Option Tmp) (Q:St→Prop):Prop:=∃ vs' r,o=some vs'∧Cg P f vs' r∧Q (st.put dst r)
def Nf (_:Tk) (P:Program) (f:FuncId) (o:Option (List V)) (st:St) (key:Nat) (dst:Option Tmp) (Q:St→Prop):Prop:=∃ vs' e rs,o=some vs'∧wH P f vs' e rs∧Q (vr st key dst e rs)
def Ng (_:Tk) (P:Program) (f:FuncId) (o:Option (List V)) (keys:List (Nat×Nat)) (st:St) (dst:Option Tmp) (Q:St→Prop):Prop:=∃ vs' r,o=some vs'∧bG P f vs' r∧Q ({ st with mem:=fQ st.mem keys r }.put dst r)
def Nh (_:Tk) (P:Program) (f:FuncId) (vs:List V) (k:Nat) (st:St) (dst:Option Tmp) (Q:St→Prop):Prop:=Mq P f vs k st dst Q
def Ni (P:Program) (tt:Table) (o:Oper) (AB st:St) (Q:St→Prop):Prop :=
 match o.op with
 | .call { callee:=.value f,args:=xs,.. }=>bq tk (cP (AB.eval f) (xs.toList.map AB.eval)) fun p=>Uo tk P p.1 (fh [] p.2) st o.dst Q
 | _=>bq tk (xm P tt o AB) fun v=>Q (st.put o.dst v)
def WA (P:Program) (o:Oper) (key:Nat) (st:St) (Q:St→Prop):Prop :=
 match o.op with
 | .call { callee:=.value f,args:=xs,.. }=>bq tk (cP (st.eval f) (xs.toList.map st.eval)) fun p=>Nf tk P p.1 (fh [] p.2) st key o.dst Q
 | _=>False
def zG (P:Program) (o:Oper) (st:St) (Q:St→Prop):Prop :=
 match o.op with
 | .call { callee:=.value f,args:=xs,.. }=>bq tk (cP (st.eval f) (xs.toList.map st.eval)) fun p=>Ng tk P p.1 (fh st.mem p.2) (p.2.flatMap eR) st o.dst Q
 | _=>False
def eG (P:Program) (tt:Table) (o:Oper) (k:Nat) (st:St) (Q:St→Prop):Prop :=
 match o.op with
 | .call { callee:=.value f,args:=xs,.. }=>bq tk (cP (st.eval f) (xs.toList.map st.eval)) fun p=>Nh tk P p.1 p.2 k st o.dst Q
 | _=>bq tk (pW tt k o st) fun mem=>Q ({ st with mem:=mem }.put o.dst (.sc undef))
def Nj (P:Program) (tt:Table) (base:Nat) (o:Oper) (p:Pl) (st:St) (Q:St→Prop):Prop:=match p.cls with
 | .n=>Ni P tt o { st with mem:=[] } st Q
 | .r=>Ni P tt o { st with mem:=gL (p.mask.map (base + ·)++p.abs) st.mem } st Q
 | .a=>isHole st.mem (base+p.key)=true∧nq tk (jt tt o (base+p.key) st) (fun q=>Q ({ st with mem:=st.mem.set (base+p.key) q.1 }.put o.dst q.2)) (WA P o (base+p.key) st Q)
 | .w=>isHole st.mem (base+p.key)=true∧bq tk (tM P tt (base+p.key) o st) fun q=>Q ({ st with mem:=q.1 }.put o.dst q.2)
 | .s=>bq tk (pW tt (base+p.key) o st) fun mem=>Q ({ st with mem:=mem }.put o.dst (.sc undef))
 | .b=>bq tk (pQ tt o st) fun v=>Q (st.put o.dst v)
 | .z=>zG P o st Q
 | .e=>eG P tt o p.key st Q
theorem WB {all:Array Oper} {base:Nat} {o:Oper} {p:Pl} {Q:St→Prop} (hw:fE all st.fr o=some true) (h:Nj P tt base o p st Q):gv P tt all base o p st Q:=by
 have hv:∀ {AB:St},Ni P tt o AB st Q→rY P tt o AB st Q:=fun {AB} h=>by unfold Ni at h;unfold rY;split at h;(·rename_i f xs ts lD;rw [lD];dsimp only;rw [kB] at h;obtain⟨⟨g,vs⟩,h1,h2⟩:=h;rw [h1];exact h2);rename_i lD;split;(·rename_i f xs ts WC; exact (lD f xs ts WC).elim);rw [kB] at h;obtain⟨v,h1,h2⟩:=h;rw [h1]; exact h2
 unfold Nj at h;unfold gv;rw [hw];dsimp only;split at h <;> (rename_i hc; rw [hc]; dsimp only);·exact hv h
 ·exact hv h
 ·refine⟨h.1,?_⟩;have h:=h.2;cases hn:jt tt o (base+p.key) st with | some q=>rw [hn,uc] at h; exact h | none =>rw [hn,ud] at h;dsimp only;unfold WA at h;unfold sJ;split at h;(·rename_i lD;rw [lD];dsimp only;rw [kB] at h;obtain⟨⟨g,vs⟩,h1,h2⟩:=h;rw [h1]; exact h2);exact h.elim
 ·refine⟨h.1,?_⟩;have h:=h.2;rw [kB] at h;obtain⟨q,h1,h2⟩:=h;rw [h1]; exact h2
 ·rw [kB] at h;obtain⟨q,h1,h2⟩:=h;rw [h1]; exact h2
 ·rw [kB] at h;obtain⟨q,h1,h2⟩:=h;rw [h1]; exact h2
 ·unfold zG at h;unfold oF;split at h;(·rename_i lD;rw [lD];dsimp only;rw [kB] at h;obtain⟨⟨g,vs⟩,h1,h2⟩:=h;rw [h1]; exact h2);exact h.elim
 unfold eG at h;unfold tN;split at h;·rename_i lD;rw [lD];dsimp only;rw [kB] at h;obtain⟨⟨g,vs⟩,h1,h2⟩:=h;rw [h1]; exact h2
 rename_i lD;rw [kB] at h;obtain⟨m,h1,h2⟩:=h;split;·rename_i f xs ts WC; exact (lD _ _ _ WC).elim
 rw [h1]; exact h2
def Cz (P:Program) (tt:Table) (all:List Oper) (base:Nat):List Oper→List Pl→St→(St→Prop)→Prop
 | [],_,st,K=>K st
 | o :: r,p :: ps,st,K=>gd all o st (fun st=>Nj P tt base o p st fun st'=>Cz P tt all base r ps st' K) (fun st=>Cz P tt all base r ps (st.put o.dst (.sc undef)) K)
 | _ :: _,[],_,_=>False
theorem WD {all:List Oper} {base:Nat} {ps:List Pl} {K:St→Prop}:Cz P tt all base [] ps ⟨W n ws,mem⟩ K=K ⟨W n ws,mem⟩:=kU rfl
theorem WE {all:List Oper} {base:Nat} {o:Oper} {r:List Oper} {p:Pl} {ps:List Pl} {K:St→Prop}:Cz P tt all base (o :: r) (p :: ps) ⟨W n ws,mem⟩ K=gd all o ⟨W n ws,mem⟩ (fun st=>Nj P tt base o p st fun st'=>Cz P tt all base r ps st' K) (fun st=>Cz P tt all base r ps (st.put o.dst (.sc undef)) K):=kU rfl
theorem xF {all:Array Oper} {base:Nat} {Q:St→Prop}:∀ (l:List Oper) (ps:List Pl) (st:St),Cz P tt all.toList base l ps st Q→runM P tt all base l ps st Q
 | [],ps,st,h=>h
 | o :: r,[],st,h=>h.elim
 | o :: r,p :: ps,st,h=>by
  rw [runM]
  rcases Un (show gd all.toList o st _ _ from h) with ⟨hw,h⟩ | ⟨hw,h⟩
  ·have h:=WB hw h
   by_cases hz:p.cls = .z
   ·unfold gv at h ⊢
    rw [hw,hz] at h ⊢
    exact yq h fun s hs=>xF r ps s hs
   obtain⟨v,m,h1,h2⟩:=(jj hz).1 h
   exact (jj hz).2 ⟨v,m,h1,xF r ps _ h2⟩
  unfold gv
  rw [hw]
  exact xF r ps _ h
theorem dT (ht:TT P tt) (hm:P.follows .mixedOrders=true) (plan:List Pl) (j:Nat) {id:Nat} {ops:Array Oper} (gh:tT ops plan=true) (h:Cz P tt ops.toList st.mem.length ops.toList plan { st with mem:=st.mem++List.replicate j .hole } (Q .normal)):X k_ m P ρ n0 (.region id ops true) st Q:=by
 have h:=xF _ _ _ h;cases m;·obtain⟨s,h1,h2⟩:=xE _ _ _ h;exact⟨.normal,s,h1,fun Q' h'=>oI ht hm plan j gh (h2 _ h')⟩
 exact oI ht hm plan j gh h
theorem aaD (ht:TT P tt) (sp:List Nat) (hm:P.follows .mixedOrders=true) (plan:List Pl) (j:Nat) {id:Nat} {ops:Array Oper} {y:Code} (gh:tT ops plan=true)
  (h:Cz P tt ops.toList st.mem.length ops.toList plan { st with mem:=st.mem++List.replicate j .hole } fun s=>vc m P tt sp ρ n0 y s Q):X k_ m P ρ n0 (.seq (.region id ops true) y) st Q :=
 yL ((dT (Q:=gz (fun s=>vc m P tt sp ρ n0 y s Q) Q) ht hm plan j gh h).mono (yM ht))
section
variable {k:Tk} {f:FuncId} {vs vs':List V} {o:Option (List V)} {keys:List (Nat×Nat)} {dst:Option Tmp} {Q:St→Prop}
theorem cF {R:V→Prop} (hr:∃ v,R v∧bG P f vs' v) (h:∀ v,R v→Q ({ st with mem:=fQ st.mem keys v }.put dst v)):ue k m P f vs (some vs') keys st dst Q:=by obtain⟨v,h1,h2⟩:=hr;exact .inl ⟨vs',v,rfl,h2,h v h1⟩
theorem cN {R:V→Prop} (hr:∃ v,R v∧qo P f vs v) (h:∀ v,R v→Q (st.put dst v)):ue k m P f vs o keys st dst Q:=by obtain⟨v,h1,h2⟩:=hr;exact .inr (.inr (.inr ⟨v,h2,h v h1⟩))
theorem cW {R:V→List ba→Prop} (hr:∃ v m',R v m'∧bk P f vs st.mem v m') (h:∀ v m',R v m'→Q ({ st with mem:=m' }.put dst v)):ue k m P f vs o keys st dst Q:=by obtain⟨v,m',h1,h2⟩:=hr;exact .inr (.inl ⟨v,m',h2,h v m' h1⟩)
theorem cS {R:V→Prop} (hr:∃ v,R v∧bk P f vs st.mem v st.mem) (h:∀ v,R v→Q (st.put dst v)):ue k m P f vs o keys st dst Q:=by obtain⟨v,h1,h2⟩:=hr;exact .inr (.inl ⟨v,_,h2,h v h1⟩)
theorem cG {R:V→Prop} (hr:∃ v,R v∧bG P f vs' v) (h:∀ v,R v→Q (st.put dst v)):Uo k P f (some vs') st dst Q:=by obtain⟨v,h1,h2⟩:=hr;exact⟨vs',v,rfl,.inl h2,h v h1⟩
theorem Du {e:Nat} {rs:List V} {key:Nat} (hr:wH P f vs' e rs) (h:Q (vr st key dst e rs)):Nf k P f (some vs') st key dst Q:=⟨vs',e,rs,rfl,hr,h⟩
theorem cGZ {v:V} (hr:bG P f vs' v) (h:Q ({ st with mem:=fQ st.mem keys v }.put dst v)):Ng k P f (some vs') keys st dst Q:=⟨vs',v,rfl,hr,h⟩
theorem va {R:V→ba→Prop} {j:Nat} {B0:ba} (hv:st.mem[j]?=some B0) (h0:B0.dw=0) (hr:∃ v B,R v B∧B.dw=0∧bk P f vs st.mem v (st.mem.set j B)) (h:∀ v B,R v B→Q ({ st with mem:=st.mem.set j B }.put dst v)):Nh k P f vs j st dst Q:=by obtain⟨v,B,h1,h2,h3⟩:=hr;exact⟨v,B0,B,h0,h2,hv,h3,h v B h1⟩
end
def AF:Nat→List V→List (Nat×V)
 | i,v :: vs=>(i,v) :: AF (i+1) vs
 | _,[]=>[]
theorem I5:∀ (vs:List V) (i t:Nat),lk t (AF i vs)=if i≤t then vs.getD (t-i) .undef else .undef
 | [],i,t=>by simp [AF,lk]
 | v :: vs,i,t=>by
  simp only [AF,lk]
  rw [I5 vs (i+1) t]
  by_cases h:i=t
  ·subst h; simp
  rw [if_neg h]
  by_cases h2:i+1≤t
  ·rw [if_pos h2,if_pos (by omega),show t-i=(t-(i+1))+1 by omega]; simp
  rw [if_neg h2,if_neg (by omega)]
theorem I6 {fn:Func} {args:List V} {c:Code} (hn:fn.ntmps=n) (hl:args.length≤n) (h:X k_ m P ρ n0 c ⟨W n (AF 0 args),mem⟩ Q):X k_ m P ρ n0 c (cn fn args mem) Q:=by
 refine Cv (st':=⟨W n (AF 0 args),mem⟩) (fun E w a hs=>⟨hs.F,hs.lt,hs.mem,hs.top,hs.dw,hs.apart,?_⟩) h;have hr:=hs.fr;simp only [cn,hn] at hr;refine⟨by rw [← hr.1,qH,ch,List.length_replicate]; omega,fun i v x hv hx=>?_⟩;rw [uf] at hv;split at hv;·rename_i hi;cases hv;rw [I5,if_pos (bx _),Qw,eH];cases ha:args[i]? with | none=>exact .undef _ _ | some v=>exact hr.2 i v x (by rw [bm (ax.1 ha).1]; exact ha) hx
 cases hv
def WG (R:V→Prop) (o:Option V):Prop:=∃ r,R r∧o=some r
theorem Kj {R:V→Prop} {v:V}:WG R (some v)=R v:=propext ⟨fun ⟨_,h,e⟩=>by cases e; exact h,fun h=>⟨v,h,rfl⟩⟩
def aaE (R:V→Prop) (tt:Table) (rs:Array ResultVar) (e:Exit) (s:St):Prop:=(e = .ret∨e = .normal)∧WG R (pV tt rs s)
theorem Nk {R:V→Prop} {rs:Array ResultVar}:aaE R tt rs .ret ⟨W n ws,mem⟩=WG R (pV tt rs ⟨W n ws,mem⟩):=propext ⟨fun h=>h.2,fun h=>⟨.inl rfl,h⟩⟩
def RW (R:V→List ba→Prop) (k:Nat) (o:Option V) (mem:List ba):Prop:=∃ r,R r mem∧o=some r∧aH k r=true∧mem.all (aI k)=true
theorem Kk {R:V→List ba→Prop} {k:Nat} {v:V}:RW R k (some v) mem=(R v mem∧aH k v=true∧mem.all (aI k)=true):=propext ⟨fun ⟨_,h,e,h2⟩=>by cases e; exact⟨h,h2⟩,fun ⟨h,h2⟩=>⟨v,h,rfl,h2⟩⟩
def RX (R:V→List ba→Prop) (k:Nat) (tt:Table) (rs:Array ResultVar) (e:Exit) (s:St):Prop:=(e = .ret∨e = .normal)∧RW R k (ka tt rs s) (s.mem.take k)
theorem Nl {R:V→List ba→Prop} {k:Nat} {rs:Array ResultVar}:RX R k tt rs .ret ⟨W n ws,mem⟩=RW R k (ka tt rs ⟨W n ws,mem⟩) (mem.take k):=propext ⟨fun h=>h.2,fun h=>⟨.inl rfl,h⟩⟩
theorem Kl {R:V→List ba→Prop} {k:Nat} {rs:Array ResultVar}:RX R k tt rs .normal ⟨W n ws,mem⟩=RW R k (ka tt rs ⟨W n ws,mem⟩) (mem.take k):=propext ⟨fun h=>h.2,fun h=>⟨.inr rfl,h⟩⟩
end
section
variable {P:Program} {tt:Table} {f:FuncId} {fn:Func} {body:Code} {args:List V}
theorem kc (ht:TT P tt) (sp:List Nat) (n:Nat) (rs:List ResultVar) {R:V→Prop} (hf:P.funcs[f]?=some fn) (hb:fn.body=some body)
  (fR:∀ (xs:Array Value) (w:World),(callFunc f xs).run P w = .ok (.enter f xs) w) (hn:fn.ntmps=n∧fn.results=rs.toArray∧args.length≤n)
  (h:∀ K:V→Prop,(∀ v,R v→K v)→vc false P tt sp none 0 body ⟨W n (AF 0 args),[]⟩ (aaE K tt rs.toArray)):∃ r,R r∧bG P f args r:=by have h:=h R fun _ h=>h;obtain⟨e,s,⟨h1,r,hr,h2⟩,h3⟩:=I6 (m:=false) hn.1 hn.2.2 (vx (k_:=.b) ht h);exact⟨r,hr,je ht hf hb fR (h3 _ ⟨h1,by rw [hn.2.1]; exact h2⟩)⟩
theorem I7 (ht:TT P tt) (sp:List Nat) (n:Nat) (rs:List ResultVar) {R:V→List ba→Prop} {mem:List ba} (k:Nat) (hk:mem.length≤k) (hf:P.funcs[f]?=some fn) (hb:fn.body=some body)
  (fR:∀ (xs:Array Value) (w:World),(callFunc f xs).run P w = .ok (.enter f xs) w) (hn:fn.ntmps=n∧fn.results=rs.toArray∧args.length≤n)
  (h:∀ K:V→List ba→Prop,(∀ v m',R v m'→K v m')→vc false P tt sp none mem.length body ⟨W n (AF 0 args),mem⟩ (RX K k tt rs.toArray)):∃ r m',R r m'∧bk P f args mem r m':=by have h:=h R fun _ _ h=>h;obtain⟨e,s,⟨h1,r,hr,h2,h4⟩,h5⟩:=I6 (m:=false) hn.1 hn.2.2 (vx (k_:=.b) ht h);exact⟨r,_,hr,jD ht k hk hf hb fR (h5 _ ⟨h1,by rw [hn.2.1]; exact h2,h4.1,h4.2,rfl⟩)⟩
theorem Bd (ht:TT P tt) (sp:List Nat) (n:Nat) (rs:List ResultVar) {R:V→Prop} {mem:List ba} (hf:P.funcs[f]?=some fn) (hb:fn.body=some body)
  (fR:∀ (xs:Array Value) (w:World),(callFunc f xs).run P w = .ok (.enter f xs) w) (hn:fn.ntmps=n∧fn.results=rs.toArray∧args.length≤n)
  (h:∀ K:V→List ba→Prop,(∀ v m',R v∧m'=mem→K v m')→vc false P tt sp none mem.length body ⟨W n (AF 0 args),mem⟩ (RX K mem.length tt rs.toArray)):∃ r,R r∧bk P f args mem r mem:=by obtain⟨r,m',⟨hr,rfl⟩,h⟩:=I7 ht sp n rs (R:=fun r m'=>R r∧m'=mem) mem.length (aw _) hf hb fR hn h;exact⟨r,hr,h⟩
end
end Go.Eng
end

section
namespace Go.Eng
variable [a6]
open Go.RowKit (Below)

mutual
def ff (σ:Nat→Nat):V→V
 | .undef=>.undef
 | .sc v=>.sc v
 | .agg cs=>.agg (jx σ cs)
 | .slice rows=>.slice rows
 | .ms b v s l=>.ms (σ b) v s l
 | .ptr b o=>.ptr (σ b) o
 | .gC b v i o=>.gC (σ b) v i o
 | .eL cs=>.eL cs
 | .cC f first cap=>.cC f (jx σ first) (jx σ cap)
 | .eC vs=>.eC (jx σ vs)
 | .jz b=>.jz (σ b)
 | .mp b=>.mp (σ b)
 | .gn=>.gn
 | .full rows=>.full rows
def jx (σ:Nat→Nat):List V→List V
 | []=>[]
 | c :: r=>ff σ c :: jx σ r
end
theorem gM (σ:Nat→Nat):∀ l:List V,jx σ l=l.map (ff σ)
 | []=>rfl
 | c :: r=>by rw [jx,gM σ r]; rfl
def mK (σ:Nat→Nat):ba→ba
 | .box cs=>.box (jx σ cs)
 | .loop s p fr ps a b=>.loop s p (jx σ fr) ps a b
 | .map dq c=>.map (dq.map fun e=>(e.1,e.2.1,ff σ e.2.2)) c
 | .jc m since seen last=>.jc (σ m) since seen last
 | B=>B
theorem EB (σ:Nat→Nat) (B:ba):(mK σ B).dw=B.dw:=by cases B <;> rfl
theorem cK.bR {E:Env} {v:V} {x:Value} (h:cK E v x):∀ {n:Nat} {σ:Nat→Nat} {E2:Env},aH n v=true→(∀ ad y,E.F ad=some y→E2.F ad=some y)→(∀ k v t,k<n→E.cj k v=some t→E2.cj (σ k) v=some t)→cK E2 (ff σ v) x:=by induction h with | undef=>intros; exact .undef _ _ | sc=>intros; exact .sc _ _ | slice E rows a cap sy ad xf ha mW hz hF h1 hR ih =>intro n σ E2 hb jY hk;exact .slice _ _ _ _ sy ad xf ha mW hz (fun i row j c hi hj=>jY _ _ (hF i row j c hi hj)) h1 fun i row j c hi hj=>(hR i row j c hi hj).mono ⟨jY,fun _ _ _ h=>by cases h⟩ | ms E b v s l g e c a cap fA hl h0 AS =>intro n σ E2 hb jY hk;exact .ms _ _ _ _ _ g e c _ _ (hk _ _ _ (by simpa [aH] using hb) fA) hl h0 AS | iz=>intros; exact .iz _ _ _ _ | ptr E b o g e c fA =>intro n σ E2 hb jY hk;exact .ptr _ _ _ g e c (hk _ _ _ (by simpa [aH] using hb) fA) | jz E b l e c fA =>intro n σ E2 hb jY hk;exact .jz _ _ l e c (hk _ _ _ (by simpa [aH] using hb) fA) | mp E b l e c fA =>intro n σ E2 hb jY hk;exact .mp _ _ l e c (hk _ _ _ (by simpa [aH] using hb) fA) | gC E b v i o g e c fA =>intro n σ E2 hb jY hk;exact .gC _ _ _ _ _ g e c (hk _ _ _ (by simpa [aH] using hb) fA) | eL E cs ad xf hF hR ih =>intro n σ E2 hb jY hk;exact .eL _ _ _ xf (fun j c hj=>jY _ _ (hF j c hj)) fun j c hj=>(hR j c hj).mono ⟨jY,fun _ _ _ h=>by cases h⟩ | gn=>intros; exact .gn _ | full E rows a h ih =>intro n σ E2 hb jY hk;exact .full _ _ _ (ih (n:=n) (σ:=σ) rfl jY hk) | agg E cs xs hl hh ih =>intro n σ E2 hb jY hk;rw [aH,fN] at hb;rw [ff,gM];refine .agg _ _ _ (by rw [ag]; exact hl) fun i c x hc hx=>?_;rw [ae,br] at hc;obtain⟨c0,G0,rfl⟩:=hc;exact ih i c0 x G0 hx (aY.1 hb c0 (ay G0)) jY hk | eC E cs xs hl hh ih =>intro n σ E2 hb jY hk;rw [aH,fN] at hb;rw [ff,gM];refine .eC _ _ _ (by rw [ag]; exact hl) fun i c x hc hx=>?_;rw [ae,br] at hc;obtain⟨c0,G0,rfl⟩:=hc;exact ih i c0 x G0 hx (aY.1 hb c0 (ay G0)) jY hk | cC E f first cap xs ys hx hy h1 h2 U3 U4 =>intro n σ E2 hb jY hk;rw [aH,fN,fN,aN] at hb;rw [ff,gM,gM];refine .cC _ _ _ _ _ _ (by rw [ag]; exact hx) (by rw [ag]; exact hy) (fun i c x hc hx=>?_) fun i c x hc hx=>?_;(·rw [ae,br] at hc;obtain⟨c0,G0,rfl⟩:=hc;exact U3 i c0 x G0 hx (aY.1 hb.1 c0 (ay G0)) jY hk);rw [ae,br] at hc;obtain⟨c0,G0,rfl⟩:=hc;exact U4 i c0 x G0 hx (aY.1 hb.2 c0 (ay G0)) jY hk
theorem cK.wT {E:Env} {u:V} {x:Value} (h:cK E u x):∀ {v:V} {n:Nat} {σ:Nat→Nat} {E2:Env},u=ff σ v→aH n v=true→(∀ ad y,E.F ad=some y→E2.F ad=some y)→(∀ k v t,k<n→E.cj (σ k) v=some t→E2.cj k v=some t)→cK E2 v x:=by induction h with | undef =>intro v n σ E2 he hb jY hk;cases v <;> simp only [ff,reduceCtorEq] at he;exact .undef _ _ | sc =>intro v n σ E2 he hb jY hk;cases v <;> simp only [ff,reduceCtorEq,V.sc.injEq] at he;subst he; exact .sc _ _ | slice E rows a cap sy ad xf ha mW hz hF h1 hR ih =>intro v n σ E2 he hb jY hk;cases v <;> simp only [ff,reduceCtorEq,V.slice.injEq] at he;subst he;exact .slice _ _ _ _ sy ad xf ha mW hz (fun i row j c hi hj=>jY _ _ (hF i row j c hi hj)) h1 fun i row j c hi hj=>(hR i row j c hi hj).mono ⟨jY,fun _ _ _ h=>by cases h⟩ | ms E b v s l g e c a cap fA hl h0 AS =>intro v n σ E2 he hb jY hk;cases v <;> simp only [ff,reduceCtorEq,V.ms.injEq] at he;obtain⟨rfl,rfl,rfl,rfl⟩:=he;exact .ms _ _ _ _ _ g e c _ _ (hk _ _ _ (by simpa [aH] using hb) fA) hl h0 AS | iz =>intro v n σ E2 he hb jY hk;cases v <;> simp only [ff,reduceCtorEq,V.ms.injEq] at he;obtain⟨rfl,rfl,rfl,rfl⟩:=he;exact .iz _ _ _ _ | ptr E b o g e c fA =>intro v n σ E2 he hb jY hk;cases v <;> simp only [ff,reduceCtorEq,V.ptr.injEq] at he;obtain⟨rfl,rfl⟩:=he;exact .ptr _ _ _ g e c (hk _ _ _ (by simpa [aH] using hb) fA) | jz E b l e c fA =>intro v n σ E2 he hb jY hk;cases v <;> simp only [ff,reduceCtorEq,V.jz.injEq] at he;subst he;exact .jz _ _ l e c (hk _ _ _ (by simpa [aH] using hb) fA) | mp E b l e c fA =>intro v n σ E2 he hb jY hk;cases v <;> simp only [ff,reduceCtorEq,V.mp.injEq] at he;subst he;exact .mp _ _ l e c (hk _ _ _ (by simpa [aH] using hb) fA) | gC E b v i o g e c fA =>intro v n σ E2 he hb jY hk;cases v <;> simp only [ff,reduceCtorEq,V.gC.injEq] at he;obtain⟨rfl,rfl,rfl,rfl⟩:=he;exact .gC _ _ _ _ _ g e c (hk _ _ _ (by simpa [aH] using hb) fA) | eL E cs ad xf hF hR ih =>intro v n σ E2 he hb jY hk;cases v <;> simp only [ff,reduceCtorEq,V.eL.injEq] at he;subst he;exact .eL _ _ _ xf (fun j c hj=>jY _ _ (hF j c hj)) fun j c hj=>(hR j c hj).mono ⟨jY,fun _ _ _ h=>by cases h⟩ | full E rows a h ih =>intro v n σ E2 he hb jY hk;cases v <;> simp only [ff,reduceCtorEq,V.full.injEq] at he;subst he;exact .full _ _ _ (ih (v:=.slice rows) (n:=n) (σ:=σ) rfl rfl jY hk) | gn =>intro v n σ E2 he hb jY hk;cases v <;> simp only [ff,reduceCtorEq] at he;exact .gn _ | agg E cs xs hl hh ih =>intro v n σ E2 he hb jY hk;cases v <;> simp only [ff,reduceCtorEq,V.agg.injEq] at he;subst he;rw [aH,fN] at hb;rw [gM,ag] at hl;refine .agg _ _ _ hl fun i c x hc hx=>?_;exact ih i (ff σ c) x (by rw [gM,ae,hc]; rfl) hx rfl (aY.1 hb c (ay hc)) jY hk | eC E cs xs hl hh ih =>intro v n σ E2 he hb jY hk;cases v <;> simp only [ff,reduceCtorEq,V.eC.injEq] at he;subst he;rw [aH,fN] at hb;rw [gM,ag] at hl;refine .eC _ _ _ hl fun i c x hc hx=>?_;exact ih i (ff σ c) x (by rw [gM,ae,hc]; rfl) hx rfl (aY.1 hb c (ay hc)) jY hk | cC E f first cap xs ys hx hy h1 h2 U3 U4 =>intro v n σ E2 he hb jY hk;cases v <;> simp only [ff,reduceCtorEq,V.cC.injEq] at he;obtain⟨rfl,rfl,rfl⟩:=he;rw [aH,fN,fN,aN] at hb;rw [gM,ag] at hx hy;refine .cC _ _ _ _ _ _ hx hy (fun i c x hc hx=>?_) fun i c x hc hx=>?_;(·exact U3 i (ff σ c) x (by rw [gM,ae,hc]; rfl) hx rfl (aY.1 hb.1 c (ay hc)) jY hk);exact U4 i (ff σ c) x (by rw [gM,ae,hc]; rfl) hx rfl (aY.1 hb.2 c (ay hc)) jY hk
theorem cz.bR {E E2:Env} {vs:List V} {xs:List Value} {n:Nat} {σ:Nat→Nat} (h:cz E vs xs) (hb:vs.all (aH n)=true) (hF:∀ ad y,E.F ad=some y→E2.F ad=some y) (hk:∀ k v t,k<n→E.cj k v=some t→E2.cj (σ k) v=some t):cz E2 (jx σ vs) xs:=by rw [gM];refine⟨by rw [ag]; exact h.1,fun i v x hv hx=>?_⟩;rw [ae,br] at hv;obtain⟨c,hc,rfl⟩:=hv;exact (h.2 i c x hc hx).bR (aY.1 hb c (ay hc)) hF hk
theorem cz.wT {E E2:Env} {vs:List V} {xs:List Value} {n:Nat} {σ:Nat→Nat} (h:cz E (jx σ vs) xs) (hb:vs.all (aH n)=true) (hF:∀ ad y,E.F ad=some y→E2.F ad=some y) (hk:∀ k v t,k<n→E.cj (σ k) v=some t→E2.cj k v=some t):cz E2 vs xs:=by rw [gM] at h;refine⟨by have:=h.1; rwa [ag] at this,fun i v x hv hx=>?_⟩;exact (h.2 i (ff σ v) x (by rw [ae,hv]; rfl) hx).wT rfl (aY.1 hb v (ay hv)) hF hk
theorem ni.bR {E E2:Env} {w w2:World} {k:Nat} {B:ba} {n:Nat} {σ:Nat→Nat} (h:ni E w k B) (la:k<n) (hb:aI n B=true) (hF:E2.F=E.F) (hk:∀ k v,k<n→E2.cj (σ k) v=E.cj k v) (hw:w2.heap=w.heap):ni E2 w2 (σ k) (mK σ B):=by
 have GC:∀ ad y,E.F ad=some y→E2.F ad=some y:=fun ad y h=>by rw [hF]; exact h
 have ji:∀ k v t,k<n→E.cj k v=some t→E2.cj (σ k) v=some t:=fun k v t hn h=>by rw [hk k v hn]; exact h
 have hp:E2.pure=E.pure:=Env.JL hF rfl;cases B with | hole=>(exact fun v=>by rw [hk k v la]; exact h v) | dead=>trivial | box cs =>obtain⟨g,T,xs,h1,h2,h3,h4⟩:=h;exact⟨g,T,xs,ji _ _ _ la h1,by rw [hw]; exact h2,h3.bR hb GC ji,fun o=>by rw [hF]; exact h4 o⟩ | rows v e rs =>((rcases h with ⟨h1,h2⟩ | ⟨g,T,xs,c,h1,h2,h3,h4,h5,h6⟩);(·exact .inl ⟨h1,by rw [hk k v la]; exact h2⟩);exact .inr ⟨g,T,xs,c,ji _ _ _ la h1,by rw [hw]; exact h2,h3,h4,by rw [hp]; exact h5,fun o=>by rw [hF]; exact h6 o⟩) | tv v e rs =>((rcases h with ⟨h1,h2⟩ | ⟨g,c,h1,h2,h3⟩);(·exact .inl ⟨h1,by rw [hk k v la]; exact h2⟩);exact .inr ⟨g,c,ji _ _ _ la h1,h2,by rw [hp,hF]; exact h3⟩) | loop s mX fr params assign body =>obtain⟨l,fn,tmps,db,h1,h2,h3,h4⟩:=h;exact⟨l,fn,tmps,db,ji _ _ _ la h1,by rw [hw]; exact h2,h3.bR hb GC ji,fun o=>by rw [hF]; exact h4 o⟩ | map dq clock =>obtain⟨g,es,h1,h2,h3,h4⟩:=h;refine⟨g,es,ji _ _ _ la h1,by rw [hw]; exact h2,⟨by rw [ag]; exact h3.1,fun i kb e kh he=>?_⟩,fun o=>by rw [hF]; exact h4 o⟩;rw [ae,br] at kh;obtain⟨q,hq,rfl⟩:=kh;obtain⟨p1,p2,p3⟩:=h3.2 i q e hq he;exact⟨p1,p2,p3.bR (aY.1 hb q (ay hq)) GC ji⟩ | jc m since seen last =>obtain⟨g,gm,e,c,h1,h2,h3,h4⟩:=h;exact⟨g,gm,e,c,ji _ _ _ la h1,ji _ _ _ (by simpa [aI] using hb) h2,by rw [hw]; exact h3,fun o=>by rw [hF]; exact h4 o⟩ | mS s pos =>obtain⟨g,h1,h2,h3⟩:=h;exact⟨g,ji _ _ _ la h1,by rw [hw]; exact h2,fun o=>by rw [hF]; exact h3 o⟩ | nh =>obtain⟨g,h1,h2,h3⟩:=h;exact⟨g,ji _ _ _ la h1,by rw [hw]; exact h2,fun o=>by rw [hF]; exact h3 o⟩
theorem ni.wT {E E2:Env} {w:World} {k:Nat} {B:ba} {n:Nat} {σ:Nat→Nat} (h:ni E w (σ k) (mK σ B)) (la:k<n) (hb:aI n B=true) (hF:E2.F=E.F) (hk:∀ k v,k<n→E2.cj k v=E.cj (σ k) v):ni E2 w k B:=by
 have GC:∀ ad y,E.F ad=some y→E2.F ad=some y:=fun ad y h=>by rw [hF]; exact h
 have ji:∀ k v t,k<n→E.cj (σ k) v=some t→E2.cj k v=some t:=fun k v t hn h=>by rw [hk k v hn]; exact h
 have hp:E2.pure=E.pure:=Env.JL hF rfl;cases B with | hole=>(exact fun v=>by rw [hk k v la]; exact h v) | dead=>trivial | box cs =>obtain⟨g,T,xs,h1,h2,h3,h4⟩:=h;exact⟨g,T,xs,ji _ _ _ la h1,h2,h3.wT hb GC ji,fun o=>by rw [hF]; exact h4 o⟩ | rows v e rs =>((rcases h with ⟨h1,h2⟩ | ⟨g,T,xs,c,h1,h2,h3,h4,h5,h6⟩);(·exact .inl ⟨h1,by rw [hk k v la]; exact h2⟩);exact .inr ⟨g,T,xs,c,ji _ _ _ la h1,h2,h3,h4,by rw [hp]; exact h5,fun o=>by rw [hF]; exact h6 o⟩) | tv v e rs =>((rcases h with ⟨h1,h2⟩ | ⟨g,c,h1,h2,h3⟩);(·exact .inl ⟨h1,by rw [hk k v la]; exact h2⟩);exact .inr ⟨g,c,ji _ _ _ la h1,h2,by rw [hp,hF]; exact h3⟩) | loop s mX fr params assign body =>obtain⟨l,fn,tmps,db,h1,h2,h3,h4⟩:=h;exact⟨l,fn,tmps,db,ji _ _ _ la h1,h2,h3.wT hb GC ji,fun o=>by rw [hF]; exact h4 o⟩ | map dq clock =>obtain⟨g,es,h1,h2,h3,h4⟩:=h;refine⟨g,es,ji _ _ _ la h1,h2,⟨by have:=h3.1; rwa [ag] at this,fun i q e hq he=>?_⟩,fun o=>by rw [hF]; exact h4 o⟩;obtain⟨p1,p2,p3⟩:=h3.2 i _ e (by rw [ae,hq]; rfl) he;exact⟨p1,p2,p3.wT rfl (aY.1 hb q (ay hq)) GC ji⟩ | jc m since seen last =>obtain⟨g,gm,e,c,h1,h2,h3,h4⟩:=h;exact⟨g,gm,e,c,ji _ _ _ la h1,ji _ _ _ (by simpa [aI] using hb) h2,h3,fun o=>by rw [hF]; exact h4 o⟩ | mS s pos =>obtain⟨g,h1,h2,h3⟩:=h;exact⟨g,ji _ _ _ la h1,h2,fun o=>by rw [hF]; exact h3 o⟩ | nh =>obtain⟨g,h1,h2,h3⟩:=h;exact⟨g,ji _ _ _ la h1,h2,fun o=>by rw [hF]; exact h3 o⟩

def kC (σ:Nat→Nat):Nat→List ba→List ba→List ba
 | _,[],M=>M
 | i,B :: r,M=>kC σ (i+1) r (M.set (σ i) (mK σ B))
def vF (σ:Nat→Nat) (n:Nat) (bM M:List ba):List ba:=kC σ 0 (bM.take n) M++(bM.drop n).map (mK σ)
theorem jl (σ:Nat→Nat):∀ (l:List ba) (i:Nat) (M:List ba),(kC σ i l M).length=M.length
 | [],_,_=>rfl
 | B :: r,i,M=>by rw [kC,jl σ r]; simp
theorem vG (σ:Nat→Nat):∀ (l:List ba) (i:Nat) (M:List ba) (k:Nat),(∀ j,i≤j→j<i+l.length→σ j≠k)→(kC σ i l M)[k]?=M[k]?
 | [],_,_,_,_=>rfl
 | B :: r,i,M,k,h=>by
  rw [kC,vG σ r (i+1) _ k fun j h1 h2=>h j (by omega) (by simp; omega),eE (h i (aw _) (by simp))]
theorem Be (σ:Nat→Nat):∀ (l:List ba) (i:Nat) (M:List ba) (j:Nat) (B:ba),(∀ a b,i≤a→a<i+l.length→i≤b→b<i+l.length→σ a=σ b→a=b)→i≤j→l[j-i]?=some B→σ j<M.length→(kC σ i l M)[σ j]?=some (mK σ B)
 | [],_,_,_,_,_,_,h,_=>by simp at h
 | C :: r,i,M,j,B,vH,Gd,h,bX=>by
  rw [kC]
  by_cases hj:j=i
  ·subst hj
   rw [c5] at h; cases h
   rw [vG σ r (j+1) _ (σ j) fun a h1 h2 e=>by have:=vH a j (by omega) (by simp; omega) (aw _) (by simp) e; omega]
   rw [bw]; simp [bX]
  refine Be σ r (i+1) _ j B (fun a b h1 h2 h3 h4=>vH a b (by omega) (by simp; omega) (by omega) (by simp; omega)) (by omega) ?_ (by simpa using bX)
  rw [show j-i=(j-(i+1))+1 by omega] at h
  simpa using h
theorem bk.bR {P:Program} {f:FuncId} {vs:List V} {r:V} {mem bM:List ba} (h:bk P f vs mem r bM) (M:List ba) (σ:Nat→Nat) (n:Nat) (hn:n=mem.length) (hv:vs.all (aH n)=true) (hm:mem.all (aI n)=true) (hr:aH bM.length r=true)
  (VU:bM.all (aI bM.length)=true) (hlen:n≤bM.length) (hσ:∀ i B,mem[i]?=some B→M[σ i]?=some (mK σ B)) (vH:∀ i j,i<n→j<n→σ i=σ j→i=j) (ob:∀ j,n≤j→σ j=M.length+(j-n)) :
  bk P f (jx σ vs) M (ff σ r) (vF σ n bM M):=by
 subst hn;have hold:∀ i,i<mem.length→σ i<M.length:=fun i hi=>(ax.1 (hσ i _ (ah hi))).1;have hL:(vF σ mem.length bM M).length=M.length+(bM.length-mem.length):=by unfold vF;rw [ch,jl,ag,aep]
 have My:∀ i B,bM[i]?=some B→(vF σ mem.length bM M)[σ i]?=some (mK σ B):=fun i B hi=>by unfold vF;(rcases bW i mem.length with bX | jw);(·rw [bm (by rw [jl]; exact hold i bX)];refine Be σ _ 0 M i B (fun a b _ h2 _ h4 he=>?_) (bx _) (by rw [Qw,jb bX]; exact hi) (hold i bX);rw [dz] at h2 h4;exact vH a b (by omega) (by omega) he);rw [ob i jw,aW (by rw [jl]; omega),jl,dM,ae,Yx,show mem.length+(i-mem.length)=i by omega,hi]; rfl
 have dK:∀ k,k<M.length→(∀ i,i<mem.length→σ i≠k)→(vF σ mem.length bM M)[k]?=M[k]?:=fun k hk h=>by unfold vF;rw [bm (by rw [jl]; exact hk)];exact vG σ _ 0 M k fun j _ h2=>h j (by rw [dz] at h2; omega)
 generalize vF σ mem.length bM M=M' at hL My dK;refine⟨h.1,fun E w xs hs hx=>?_⟩;have YN:∀ k v,k<mem.length→(⟨E.F,fun k v=>if k<mem.length then E.cj (σ k) v else none,E.gl⟩:Env).cj k v=E.cj (σ k) v:=fun k v hk=>if_pos hk;have WH:∀ k v,mem.length≤k→(⟨E.F,fun k v=>if k<mem.length then E.cj (σ k) v else none,E.gl⟩:Env).cj k v=none:=fun k v hk=>if_neg (by omega);have Hj:(⟨E.F,fun k v=>if k<mem.length then E.cj (σ k) v else none,E.gl⟩:Env).F=E.F:=rfl;generalize (⟨E.F,fun k v=>if k<mem.length then E.cj (σ k) v else none,E.gl⟩:Env)=E0 at YN WH Hj;have n8:∀ k v t,E0.cj k v=some t→k<mem.length∧E.cj (σ k) v=some t:=fun k v t h=>by (rcases bW k mem.length with hk | hk);(·exact⟨hk,by rw [← YN k v hk]; exact h⟩);rw [WH k v hk] at h; cases h
 have LG:cU E0 w { tmps := #[],defers:=[] } { fr:=[],mem:=mem } :=
  ⟨fun ad y hy=>hs.F ad y (by rw [← Hj]; exact hy),fun k v g e c hk=>hs.lt _ _ _ _ _ (n8 _ _ _ hk).2,
   fun k B hk=>(hs.mem _ _ (hσ k B hk)).wT (ax.1 hk).1 (aY.1 hm B (ay hk)) Hj YN,
   fun k hk v=>WH k v hk,fun k B hk v hv=>by
    rw [YN k v (ax.1 hk).1]
    exact hs.dw _ _ (hσ k B hk) v (by rw [EB]; exact hv),
   fun k k' v v' g e c e' c' h1 h2=>by
    obtain⟨p1,p2⟩:=n8 _ _ _ h1
    obtain⟨q1,q2⟩:=n8 _ _ _ h2
    exact vH k k' p1 q1 (hs.apart _ _ _ _ _ _ _ _ _ p2 q2),.nil _⟩
 have Iu:cz E0 vs xs.toList:=hx.wT hv (fun ad y hy=>by rw [Hj]; exact hy) fun k v t hk h=>by rw [YN k v hk]; exact h
 refine (h.2 E0 w xs LG Iu).mono ?_;rintro en w1 ⟨E1,x,rfl,gD,oY,Dr⟩;have hA0:∀ i v,i<mem.length→(⟨E1.F,fun K v=>match (List.range mem.length).find? (fun i=>σ i==K) with | some i=>E1.cj i v | none=>if K<M.length then E.cj K v else E1.cj (K-M.length+mem.length) v,E1.gl⟩:Env).cj (σ i) v=E1.cj i v:=fun i v hi=>by show (match (List.range mem.length).find? (fun j=>σ j==σ i) with | some i=>E1.cj i v | none=>_)=_;(have:(List.range mem.length).find? (fun j=>σ j==σ i)=some i:=by cases hf:(List.range mem.length).find? (fun j=>σ j==σ i) with | none =>have:=anZ.1 hf i (am5.2 hi);simp at this | some j =>have h1:=List.find?_some hf;have h2:=am5.1 (List.mem_of_find?_eq_some hf);rw [vH j i h2 hi (by simpa using h1)]);rw [this]
 have r5:∀ K,(∀ i,i<mem.length→σ i≠K)→(List.range mem.length).find? (fun i=>σ i==K)=none:=fun K h=>anZ.2 fun i hi=>by have:=h i (am5.1 hi);simpa using this
 have hB:∀ K v,K<M.length→(∀ i,i<mem.length→σ i≠K)→(⟨E1.F,fun K v=>match (List.range mem.length).find? (fun i=>σ i==K) with | some i=>E1.cj i v | none=>if K<M.length then E.cj K v else E1.cj (K-M.length+mem.length) v,E1.gl⟩:Env).cj K v=E.cj K v:=fun K v hK h=>by show (match (List.range mem.length).find? (fun j=>σ j==K) with | some i=>E1.cj i v | none=>_)=_;rw [r5 K h];exact if_pos hK
 have tF:∀ i v,mem.length≤i→(⟨E1.F,fun K v=>match (List.range mem.length).find? (fun i=>σ i==K) with | some i=>E1.cj i v | none=>if K<M.length then E.cj K v else E1.cj (K-M.length+mem.length) v,E1.gl⟩:Env).cj (σ i) v=E1.cj i v:=fun i v hi=>by show (match (List.range mem.length).find? (fun j=>σ j==σ i) with | some i=>E1.cj i v | none=>_)=_;have sA:=ob i hi;rw [r5 (σ i) fun j hj e=>by have:=hold j hj; omega];show (if σ i<M.length then E.cj (σ i) v else E1.cj (σ i-M.length+mem.length) v)=_;rw [if_neg (by omega),sA,show M.length+(i-mem.length)-M.length+mem.length=i by omega]
 have Hk:(⟨E1.F,fun K v=>match (List.range mem.length).find? (fun i=>σ i==K) with | some i=>E1.cj i v | none=>if K<M.length then E.cj K v else E1.cj (K-M.length+mem.length) v,E1.gl⟩:Env).F=E1.F:=rfl;generalize (⟨E1.F,fun K v=>match (List.range mem.length).find? (fun i=>σ i==K) with | some i=>E1.cj i v | none=>if K<M.length then E.cj K v else E1.cj (K-M.length+mem.length) v,E1.gl⟩:Env)=E2 at hA0 hB tF Hk;have hA:∀ i v,E2.cj (σ i) v=E1.cj i v:=fun i v=>by (rcases bW i mem.length with hi | hi);(·exact hA0 i v hi);exact tF i v hi
 have cl:∀ K,(∃ i,K=σ i)∨(K<M.length∧∀ i,i<mem.length→σ i≠K):=fun K=>by (rcases bW K M.length with hK | hK);(·by_cases h:∃ i,i<mem.length∧σ i=K;(·obtain⟨i,-,hi⟩:=h;exact .inl ⟨i,hi.symm⟩);exact .inr ⟨hK,fun i hi e=>h ⟨i,hi,e⟩⟩);exact .inl ⟨K-M.length+mem.length,by rw [ob _ (by omega)]; omega⟩
 have yg:∀ K v g e c,(∀ i,i<mem.length→σ i≠K)→E.cj K v=some (g,e,c)→∀ k0 v0 e0 c0,E0.cj k0 v0≠some (g,e0,c0):=fun K v g e c hK hb k0 v0 e0 c0 h=>by obtain⟨h1,h2⟩:=n8 _ _ _ h;exact hK k0 h1 (hs.apart _ _ _ _ _ _ _ _ _ h2 hb)
 have hle:E.le E2:=⟨fun ad y hy=>by rw [Hk]; exact gD.le.F _ _ (by rw [Hj]; exact hy),fun K v t hk=>by (rcases cl K with ⟨i,rfl⟩ | ⟨hK,uh⟩);(·rw [hA i v];(rcases bW i mem.length with hi | hi);(·exact gD.le.cj _ _ _ (by rw [YN i v hi]; exact hk));rw [hs.top (σ i) (by rw [ob i hi]; dsimp only; omega) v] at hk; cases hk);rw [hB K v hK uh]; exact hk⟩;refine⟨E2,x,rfl,⟨hle,fun K v g e c hk=>?_,fun ad y hy=>?_,gD.os,gD.tape,gD.output,gD.size,fun b hb dK=>gD.heap b hb fun k v e c h=>dK _ _ _ _ (n8 _ _ _ h).2⟩, ⟨fun ad y hy=>oY.F _ _ (by rw [← Hk]; exact hy),fun K v g e c hk=>?_,fun K B hk=>?_,fun K hk v=>?_,fun K B hk v hv=>?_,fun K K' v v' g e1 c1 e2 c2 h5 h6=>?_,.nil _⟩,Dr.bR hr (fun ad y hy=>by rw [Hk]; exact hy) fun k v t _ hk=>by rw [hA]; exact hk⟩;·(rcases cl K with ⟨i,rfl⟩ | ⟨hK,uh⟩);(·rw [hA i v] at hk;(rcases gD.cj _ _ _ _ _ hk with ⟨k0,v0,e0,c0,h⟩ | h);(·exact .inl ⟨_,_,_,_,(n8 _ _ _ h).2⟩);exact .inr h);rw [hB K v hK uh] at hk; exact .inl ⟨_,_,_,_,hk⟩
 ·rw [Hk] at hy;(rcases gD.F _ _ hy with h | h | ⟨k0,v0,e0,c0,h⟩);(·exact .inl (by rw [← Hj]; exact h));(·exact .inr (.inl h));exact .inr (.inr ⟨_,_,_,_,(n8 _ _ _ h).2⟩)
 ·(rcases cl K with ⟨i,rfl⟩ | ⟨hK,uh⟩);(·rw [hA i v] at hk; exact oY.lt _ _ _ _ _ hk);rw [hB K v hK uh] at hk; exact pI (hs.lt _ _ _ _ _ hk) gD.size
 ·(rcases cl K with ⟨i,rfl⟩ | ⟨hK,uh⟩);(·(have hi:i<bM.length:=by have h1:=(ax.1 hk).1;(rcases bW i mem.length with h2 | h2);(·omega);have h3:=ob i h2;dsimp only at h1; omega);have jA:=My i _ (ah hi);rw [hk] at jA;cases jA;exact (oY.mem i _ (ah hi)).bR hi (aY.1 VU _ (List.getElem_mem hi)) Hk (fun k v _=>hA k v) rfl);dsimp only at hk;rw [dK K hK uh] at hk;refine (hs.mem K B hk).mono hle (fun v hv=>by rw [hB K v hK uh]; exact hv) (fun g e c hb=>gD.heap g (hs.lt _ _ _ _ _ hb) fun k0 v0 e0 c0 h=>yg _ _ _ _ _ uh hb _ _ _ _ h) fun g e c o hb hn=>?_;rw [Hk];cases hy:E1.F ⟨g,o,none⟩ with | none=>rfl | some y =>(rcases gD.F _ _ hy with h | h | ⟨k0,v0,e0,c0,h⟩);(·rw [Hj,hn] at h; cases h);(·have:=hs.lt _ _ _ _ _ hb; simp at h; omega);exact absurd h (yg _ _ _ _ _ uh hb _ _ _ _)
 ·(rcases cl K with ⟨i,rfl⟩ | ⟨hK,uh⟩);(·rw [hA i v];refine oY.top i ?_ v;dsimp only at hk ⊢;(rcases bW i mem.length with h2 | h2);(·have:=hold i h2; omega);have h3:=ob i h2; omega);dsimp only at hk; omega
 ·(rcases cl K with ⟨i,rfl⟩ | ⟨hK,uh⟩);(·rw [hA i v];(have hi:i<bM.length:=by have h1:=(ax.1 hk).1;(rcases bW i mem.length with h2 | h2);(·omega);have h3:=ob i h2;dsimp only at h1; omega);have jA:=My i _ (ah hi);rw [hk] at jA;cases jA;rw [EB] at hv;exact oY.dw i _ (ah hi) v hv);rw [hB K v hK uh];dsimp only at hk;rw [dK K hK uh] at hk;exact hs.dw K B hk v hv
 have mixed:∀ i K' v v' g e1 c1 e2 c2,(∀ i,i<mem.length→σ i≠K')→E1.cj i v=some (g,e1,c1)→E.cj K' v'=some (g,e2,c2)→False:=fun i K' v v' g e1 c1 e2 c2 hK' h h'=>by (rcases gD.cj _ _ _ _ _ h with ⟨k0,v0,e0,c0,h0⟩ | h0);(·exact absurd h0 (yg _ _ _ _ _ hK' h' _ _ _ _));have:=hs.lt _ _ _ _ _ h'; omega
 rcases cl K with ⟨i,rfl⟩ | ⟨hK,WI⟩ <;> rcases cl K' with ⟨j,rfl⟩ | ⟨hK',WJ⟩
 ·rw [hA] at h5 h6;rw [oY.apart _ _ _ _ _ _ _ _ _ h5 h6]
 ·rw [hA] at h5; rw [hB K' _ hK' WJ] at h6;exact (mixed _ _ _ _ _ _ _ _ _ WJ h5 h6).elim
 ·rw [hB K _ hK WI] at h5; rw [hA] at h6;exact (mixed _ _ _ _ _ _ _ _ _ WI h6 h5).elim
 rw [hB K _ hK WI] at h5; rw [hB K' _ hK' WJ] at h6;exact hs.apart _ _ _ _ _ _ _ _ _ h5 h6
end Go.Eng
end

section
namespace Go.Eng
variable [a6]
section
variable {P:Program} {ρ:Option Nat} {n0:Nat} {c:Code} {st:St} {Q:Exit→St→Prop}
end
end Go.Eng
end

section
namespace Go.Eng
variable [a6]
theorem yN (mem:List ba) (keys:List (Nat×Nat)) (k:Nat) {cs:List V} (h:mem[k]?=some (.box cs)):(ey mem keys)[k]?=some (.box cs):=by
 rw [o6,h];have:∀ (ks:List (Nat×Nat)),nS ks k (some (.box cs))=some (.box cs):=fun ks=>by unfold nS; rfl
 exact this keys
section
variable {P:Program} {ρ:Option Nat} {n0:Nat} {Q:Exit→St→Prop} {c:Code} {st:St}
theorem cU.Nn {E:Env} {w:World} {a:Act} (hs:cU E w a st) {k:Nat} {cs vs':List V} (hk:st.mem[k]?=some (.box cs)) (hp:fh st.mem cs=some vs') :
  ∃ E',cU E' w a { st with mem:=(ey st.mem (cs.flatMap eR)).set k (.box vs') }∧gE E w E' w:=by
 obtain⟨E',h1,h2,h3⟩:=hs.freeze hp;have hb:=yN st.mem (cs.flatMap eR) k hk;refine⟨E',⟨h1.F,h1.lt,fun k' B hB=>?_,fun k' jA=>h1.top k' (by simpa using jA),fun k' B hB v hv=>?_,h1.apart,h1.fr⟩,h2⟩;·dsimp only at hB;rw [bw] at hB;split at hB;(·rename_i he; subst he;split at hB;(·cases hB;obtain⟨g,T,xs,q1,q2,q3,q4⟩:=hs.mem k _ hk;obtain⟨g',T',sF,p1,p2,p3,p4⟩:=h1.mem k _ hb;rw [h2.le.cj _ _ _ q1] at p1;cases p1;rw [q2] at p2;cases p2;exact⟨g,T,xs,h2.le.cj _ _ _ q1,q2,h3 _ q3,p4⟩);cases hB);exact h1.mem k' B hB
 dsimp only at hB;rw [bw] at hB;split at hB;·rename_i he; subst he;split at hB;(·cases hB;exact h1.dw k _ hb v hv);cases hB
 exact h1.dw k' B hB v hv
end
end Go.Eng
end

section
namespace Go.Eng
variable [a6]
section
variable {k_:Tk} {m:Bool} {P:Program} {ρ:Option Nat} {n0:Nat} {st:St} {Q:Exit→St→Prop} {n:Nat} {ws:List (Nat×V)} {mem:List ba} {c:Code}
theorem WK {st':St} (hw:∀ E w a,cU E w a st→∃ E',cU E' w a st'∧gE E w E' w) (h:X k_ m P ρ n0 c st' Q):X k_ m P ρ n0 c st Q:=by
 have key:∀ Q':Exit→St→Prop,dN P ρ n0 c st' Q'→dN P ρ n0 c st Q':=fun Q' h E0 w0 Nb E w a he hs hm=>by obtain⟨E',h3,h4⟩:=hw E w a hs;exact h E0 w0 Nb E' w a (he.trans h4) h3 (hm.LD h4)
 cases m;·obtain⟨e,s2,hq,h2⟩:=h;exact⟨e,s2,hq,fun Q' h'=>key Q' (h2 Q' h')⟩
 exact key Q h
theorem aaG {t:Nat} {v:V} (hn:t<n) (h:lk t ws=v):(W n ws)[t]?=some v:=by rw [uf,if_pos hn,h]
theorem agx (t v e:Nat) (hn:t<n) (h0:lk t ws = .sc (.slice none 0 0)) (h:X k_ m P ρ n0 c ⟨W n ((t,.ms mem.length v 0 0) :: ws),mem++[.rows v e []]⟩ Q):X k_ m P ρ n0 c ⟨W n ws,mem⟩ Q:=by rw [← I0] at h;exact Cv (st':=⟨(W n ws).set t (.ms mem.length v 0 0),mem++[.rows v e []]⟩) (fun E w a hs=>(hs.Ee (i:=t) mem.length v (aaG hn h0)).tW v e) h
theorem CA {cs:List V} (k j v e:Nat) (hk:mem[k]?=some (.box cs)) (hj:cs[j]?=some (.sc (.slice none 0 0))) (h:X k_ m P ρ n0 c ⟨W n ws,mem.set k (.box (cs.set j (.ms mem.length v 0 0)))++[.rows v e []]⟩ Q):X k_ m P ρ n0 c ⟨W n ws,mem⟩ Q :=
 Cv (st':=⟨W n ws,mem.set k (.box (cs.set j (.ms mem.length v 0 0)))++[.rows v e []]⟩) (fun E w a hs=>(hs.Wo hk hj mem.length v).tW v e) h
theorem jm {k:Nat} {cs vs':List V} (hk:mem[k]?=some (.box cs)) (hp:fh mem cs=some vs') (h:X k_ m P ρ n0 c ⟨W n ws,(ey mem (cs.flatMap eR)).set k (.box vs')⟩ Q):X k_ m P ρ n0 c ⟨W n ws,mem⟩ Q :=
 WK (fun _ _ _ hs=>cU.Nn hs hk hp) h
theorem I8 {k:Nat} {cs:List V} (t:Nat) (hn:t<n) (h0:lk t ws = .ptr k 0) (hk:mem[k]?=some (.box cs)) (hp:cs.all iA=true) (h:X k_ m P ρ n0 c ⟨W n ((t,.eL cs) :: ws),mem.set k .dead⟩ Q):X k_ m P ρ n0 c ⟨W n ws,mem⟩ Q:=by rw [← I0] at h;exact WK (fun _ _ _ hs=>cU.vz hs hk hp (aaG hn h0)) h
end
end Go.Eng
end

section
namespace Go.Proofs.YtnboooapeopjoaaGreatDoor
open Go.Eng
set_option maxHeartbeats 4000000
set_option maxRecDepth 100000
attribute [go_sem] fq c8 fE lr St.eval St.put kx k7 BP cA dA aK aX nI Value.oneCell' if_true if_false c7 aD aM am0 ak aj ou eI il List.getD_cons_zero List.getD_cons_succ vl iM nK qj ri dY cB Nat.zero_mul BC QZ fieldAt pM jh ang am6 U0 mQ fb mg anJ ct jS bx aw true_and and_true and_self iw qk rowsOf fM b9 BI Vx Vy Vz VB VE VH VI VJ VK VL VM LQ Rb Rc pK nj indexAt xV Iv BK vj am7 V.cells Dy BG U5 cP bz amZ ann List.size_toArray List.getElem?_toArray beq_self_eq_true decide_true decide_false aR aP od qq o7 mG jW iA Gv jX rowOf lJ ne_eq not_true_eq_false not_false_eq_true mH mq tH V.sc.injEq Value.bool.injEq pb gq anm eR kr ZP ZQ Rm Rn Ro It tt3 tt4 tt9 afR afS afT afU afV afW afX afY afZ af0 af1 af2 af3 af4 af5 af6 af7 af8 af9 Z0 aaa aab aac aad aae aaf aag aah aai aaj yG List.toList_toArray List.append_eq LY LZ Gx Tr pQ gy oF tN wA nR qD mV IY fF rA gT MZ Wd RM sN vC Gg fh gu gJ dg runM gv rY xm jt tM pW isHole gL D2 ba.dw sJ Wp uf I0 qH lk qI ea eV pk zk fC ey DV eZ anh AF aH aO aI Wr Ws Wt Wu RS Cu niV Ni WA zG eG Nj WD WE vr nJ aay aaz aaA aaB aaC agh agi agj agk agl agm agn ago agp agq ags agt agu agv Nk Kj Nl Kl Kk pV ka mZ oe DR List.replicate au
attribute [go_sem ↓] Hi Kh Ww Kg Wv Wl Wm RV I3
attribute [go_sem] reduceIte Nat.reduceAdd Nat.reduceLT Nat.reduceLeDiff Nat.reduceMul Nat.reduceEqDiff Nat.reduceSub reduceCtorEq
end Go.Proofs.YtnboooapeopjoaaGreatDoor
end

section
namespace Go.Eng
variable [a6]
open Go.RowKit (Below)
theorem cU.below {E:Env} {w w':World} {a:Act} {st:St} (hs:cU E w a st) (hb:Below w.heap.size w w'):cU E w' a st∧gE E w E w':=by
 refine⟨⟨fun ad y hy=>?_,fun k v g e c h=>pI (hs.lt _ _ _ _ _ h) hb.size,fun k B hk=>?_,hs.top,hs.dw,hs.apart,hs.fr⟩, ⟨E.le_refl,fun k v g e c h=>.inl ⟨k,v,e,c,h⟩,fun _ _ h=>.inl h,hb.os,hb.tape,hb.output,hb.size,fun b bX _=>hb.block b bX⟩⟩;·rw [hb.cell (World.block_lt_of_cell? w ad (hs.F ad y hy))]; exact hs.F ad y hy
 exact (hs.mem k B hk).mono E.le_refl (fun _ h=>h) (fun g e c h=>hb.block _ (hs.lt _ _ _ _ _ h)) fun _ _ _ _ _ h=>h
end Go.Eng
end

section
namespace Go.Eng
variable [a6]
def m9 (ks:List Nat) (L j:Nat):Nat:=match ks[j]? with
 | some k=>k
 | none=>L+(j-ks.length)
theorem wU (σ:Nat→Nat):∀ (l:List ba) (i:Nat) (M:List ba),(∀ j B,l[j]?=some B→M[σ (i+j)]?=some (mK σ B))→kC σ i l M=M
 | [],_,_,_=>rfl
 | B :: r,i,M,h=>by
  have e:M.set (σ i) (mK σ B)=M:=by
   have h0:=h 0 B rfl
   rw [jS] at h0
   apply di
   intro q
   rw [bw]
   split
   ·rename_i hq; subst hq
    rw [if_pos (ax.1 h0).1,h0]
   rfl
  rw [kC,e]
  exact wU σ r (i+1) M fun j B hj=>by
   have:=h (j+1) B (by simpa using hj)
   rw [show i+1+j=i+(j+1) by omega]; exact this
theorem pr {M:List ba} {k:Nat} {B:ba} (h:M[k]?=some B):M.set k B=M:=by
 apply di;intro q;rw [bw];split;·rename_i hq; subst hq;rw [if_pos (ax.1 h).1,h]
 rfl
theorem yO (σ:Nat→Nat) (B:ba):∀ (l:List ba) (i j0:Nat) (M:List ba),j0<l.length→(∀ a b,i≤a→a<i+l.length→i≤b→b<i+l.length→σ a=σ b→a=b) →
  (∀ j B,l[j]?=some B→M[σ (i+j)]?=some (mK σ B))→kC σ i (l.set j0 B) M=M.set (σ (i+j0)) (mK σ B)
 | [],_,_,_,h,_,_=>by simp at h
 | C :: r,i,0,M,_,vH,h=>by
  rw [eI,kC,jS]
  refine wU σ r (i+1) _ fun j D hj=>?_
  have bX:=(ax.1 hj).1
  have h1:=h (j+1) D (by simpa using hj)
  rw [show i+1+j=i+(j+1) by omega,eE fun e=>by have:=vH i (i+(j+1)) (aw _) (by simp) (by omega) (by simp; omega) e; omega]
  exact h1
 | C :: r,i,j0+1,M,hl,vH,h=>by
  have h0:=h 0 C rfl
  rw [jS] at h0
  rw [il,kC,pr h0,yO σ B r (i+1) j0 M (by simpa using hl) (fun a b h1 h2 h3 h4 e=>vH a b (by omega) (by simp; omega) (by omega) (by simp; omega) e) (fun j D hj=>by
   have:=h (j+1) D (by simpa using hj)
   rw [show i+1+j=i+(j+1) by omega]; exact this),show i+1+j0=i+(j0+1) by omega]
theorem bk.keys {P:Program} {f:FuncId} {vs:List V} {r:V} {mem:List ba} {B:ba} {j0:Nat} (h:bk P f vs mem r (mem.set j0 B)) (M:List ba) (ks:List Nat) (hk:ks.length=mem.length) (lu:ks.Nodup) (hj:j0<mem.length)
  (hv:vs.all (aH mem.length)=true) (hm:mem.all (aI mem.length)=true) (hB:aI mem.length B=true) (hr:aH mem.length r=true)
  (hσ:∀ i B,mem[i]?=some B→M[m9 ks M.length i]?=some (mK (m9 ks M.length) B)) :
  bk P f (jx (m9 ks M.length) vs) M (ff (m9 ks M.length) r) (M.set (m9 ks M.length j0) (mK (m9 ks M.length) B)):=by
 have vH:∀ i j,i<mem.length→j<mem.length→m9 ks M.length i=m9 ks M.length j→i=j:=fun i j hi hj e=>by unfold m9 at e;rw [ah (by omega),ah (by omega)] at e;exact (List.getElem_inj lu).1 e
 have VU:(mem.set j0 B).all (aI mem.length)=true:=by rw [aY] at hm ⊢;intro C hC;(rcases aoa hC with h | rfl);(·exact hm C h);exact hB
 have h2:=h.bR M (m9 ks M.length) mem.length rfl hv hm (by rw [ov]; exact hr) (by rw [ov]; exact VU) (by rw [ov]; exact aw _) hσ vH (fun j hj=>by unfold m9;rw [dF (by omega)];dsimp only;rw [hk])
 have e:vF (m9 ks M.length) mem.length (mem.set j0 B) M=M.set (m9 ks M.length j0) (mK (m9 ks M.length) B):=by
  unfold vF
  rw [bE (by rw [ov]; exact aw _),dX (by rw [ov]; exact aw _),dY,ou,
   yO (m9 ks M.length) B mem 0 j0 M hj (fun a b _ h2 _ h4 e=>vH a b (by omega) (by omega) e) (fun j D hD=>by rw [ct]; exact hσ j D hD),ct]
 rw [e] at h2;exact h2
theorem Np {E:Env} {v:V} {x:Value} (h:cK E v x):cK E (Gv v) x:=by cases v with | agg cs =>(cases h with | agg _ _ xs hl h' =>refine cK.agg _ _ _ (by rw [ag]; exact hl) fun i c y hc hy=>?_;rw [ae] at hc;cases hi:cs[i]? with | none=>rw [hi] at hc; cases hc | some c0 =>rw [hi] at hc;cases hc;exact oC (h' i c0 y hi hy)) | _=>exact oC h
theorem bk.row {P:Program} {f:FuncId} {vs:List V} {r:V} {mem bM:List ba} (h:bk P f vs mem r bM):bk P f vs mem (Gv r) bM :=
 ⟨h.1,fun E w xs hs hx=>(h.2 E w xs hs hx).mono fun e w' ⟨E',x,h1,h2,h3,h4⟩=>⟨E',x,h1,h2,h3,Np h4⟩⟩
end Go.Eng
end

section
namespace Go.Eng
variable [a6]
theorem cU.jZ {E:Env} {w:World} {a:Act} {st:St} (hs:cU E w a st) {k j:Nat} {cs:List V} {v0 v':V} (hk:st.mem[k]?=some (.box cs)) (hj:cs[j]?=some v0) (hp:gu st.mem v0=some v') :
  ∃ E',cU E' w a { st with mem:=(ey st.mem (eR v0)).set k (.box (cs.set j v')) }∧gE E w E' w:=by
 obtain⟨E',h1,h2,h3⟩:=hs.freeze (vs:=[v0]) (vs':=[v']) (by simp [fh,hp]);have hr:[v0].flatMap eR=eR v0:=by simp
 rw [hr] at h1;have hb:=yN st.mem (eR v0) k hk;refine⟨E',⟨h1.F,h1.lt,fun k' B hB=>?_,fun k' jA=>h1.top k' (by simpa using jA),fun k' B hB v hv=>?_,h1.apart,h1.fr⟩,h2⟩;·dsimp only at hB;rw [bw] at hB;split at hB;(·rename_i he; subst he;split at hB;(·cases hB;obtain⟨g,T,xs,q1,q2,q3,q4⟩:=hs.mem k _ hk;obtain⟨g',T',sF,p1,p2,p3,p4⟩:=h1.mem k _ hb;rw [h2.le.cj _ _ _ q1] at p1;cases p1;rw [q2] at p2;cases p2;obtain⟨x,hx,ZR⟩:=q3.get hj;obtain⟨y,ys,hy,MD,-⟩:=(h3 (xs:=[x]) (.cons ZR (.nil _))).of_cons;cases hy;have yn:=cz.set (n:=j) p3 MD;have e:xs.toList.set j x=xs.toList:=nu hx;rw [e] at yn;exact⟨g,T,xs,h2.le.cj _ _ _ q1,q2,yn,p4⟩);cases hB);exact h1.mem k' B hB
 dsimp only at hB;rw [bw] at hB;split at hB;·rename_i he; subst he;split at hB;(·cases hB;exact h1.dw k _ hb v hv);cases hB
 exact h1.dw k' B hB v hv
section
variable {k_:Tk} {m:Bool} {P:Program} {ρ:Option Nat} {n0:Nat} {Q:Exit→St→Prop} {n:Nat} {ws:List (Nat×V)} {mem:List ba} {c:Code}
theorem yP {k:Nat} {cs:List V} {v0 v':V} (j:Nat) (hk:mem[k]?=some (.box cs)) (hj:cs[j]?=some v0) (hp:gu mem v0=some v') (h:X k_ m P ρ n0 c ⟨W n ws,(ey mem (eR v0)).set k (.box (cs.set j v'))⟩ Q):X k_ m P ρ n0 c ⟨W n ws,mem⟩ Q :=
 WK (fun _ _ _ hs=>cU.jZ hs hk hj hp) h
end
end Go.Eng
end

section
namespace Go.Eng
variable [a6]
def wV:List (FuncId×List V×V)→FuncId→List V→Option V
 | [],_,_=>none
 | e :: t,f,vs=>if e.1=f then (if jF e.2.1 vs=true then some e.2.2 else wV t f vs) else wV t f vs
theorem bo {P:Program}:oM P (wV []):=fun f vs r h=>by cases h
theorem bA {P:Program} {f:FuncId} {vs:List V} {r:V} {t:List (FuncId×List V×V)} (h:bG P f vs r) (ht:oM P (wV t)):oM P (wV ((f,vs,r) :: t)):=fun g ws s hs=>by
 unfold wV at hs;dsimp only at hs;split at hs;·rename_i hf;split at hs;(·rename_i hv;cases hs;rw [← hf,← gp hv]; exact h);exact ht g ws s hs
 exact ht g ws s hs
def yQ:List (FuncId×List V×List ba×List (V×List ba))→kM
 | [],_,_,_=>none
 | e :: t,f,vs,mem=>if e.1=f then (if jF e.2.1 vs=true then (if qB e.2.2.1 mem=true then some e.2.2.2 else yQ t f vs mem) else yQ t f vs mem) else yQ t f vs mem
theorem dr {P:Program}:jE P (yQ []):=fun f vs mem outs h=>by cases h
theorem cD {P:Program} {f:FuncId} {vs:List V} {mem:List ba} {outs:List (V×List ba)} {t:List (FuncId×List V×List ba×List (V×List ba))} (h:dR P f vs mem fun r m=>(r,m)∈outs) (ht:jE P (yQ t)):jE P (yQ ((f,vs,mem,outs) :: t)):=fun g ws m o hs=>by
 unfold yQ at hs;dsimp only at hs;split at hs;·rename_i hf;split at hs;(·rename_i hv;split at hs;(·rename_i hm;cases hs;rw [← hf,← gp hv,← ry hm]; exact h);exact ht g ws m o hs);exact ht g ws m o hs
 exact ht g ws m o hs
end Go.Eng
end

section
namespace Go.Eng
variable [a6]
def aaH (n k:Nat) (cs:List V) (j:Nat):Option (Nat×Nat):=match cs[j]? with
 | some (V.ms b _ _ _)=>if n≤b then some (k,j) else none
 | _=>none
def aaI (n:Nat) (m:List ba) (k:Nat):List (Nat×Nat):=match m[k]? with
 | some (ba.box cs)=>(List.range cs.length).filterMap (aaH n k cs)
 | _=>[]
def Nq (n:Nat) (m:List ba):List (Nat×Nat):=(List.range n).flatMap (aaI n m)
def Nr (m:List ba) (p:Nat×Nat):Option (List ba):=match m[p.1]? with
 | some (.box cs)=>match cs[p.2]? with
  | some v0=>match gu m v0 with
   | some v'=>some ((ey m (eR v0)).set p.1 (.box (cs.set p.2 v')))
   | none=>none
  | none=>none
 | _=>none
def CB:List (Nat×Nat)→List ba→Option (List ba)
 | [],m=>some m
 | p :: r,m=>match Nr m p with
  | some m'=>CB r m'
  | none=>none
theorem Ns {E:Env} {w:World} {a:Act} {fr:List V} {m m':List ba} {p:Nat×Nat} (h:Nr m p=some m') (hs:cU E w a { fr:=fr,mem:=m }):∃ E',cU E' w a { fr:=fr,mem:=m' }∧gE E w E' w:=by
 unfold Nr at h;split at h;·rename_i cs hk;split at h;(·rename_i v0 hj;split at h;(·rename_i v' hp;cases h;exact hs.jZ hk hj hp);cases h);cases h
 cases h
theorem Bf {w:World} {a:Act} {fr:List V}:∀ {l:List (Nat×Nat)} {m m':List ba} {E:Env},CB l m=some m'→cU E w a { fr:=fr,mem:=m }→∃ E',cU E' w a { fr:=fr,mem:=m' }∧gE E w E' w
 | [],m,m',E,h,hs=>by cases h; exact⟨E,hs,gE.refl _ _⟩
 | p :: r,m,m',E,h,hs=>by
  unfold CB at h
  split at h
  ·rename_i m1 h1
   obtain⟨E1,s1,v1⟩:=Ns h1 hs
   obtain⟨E2,s2,v2⟩:=Bf h s1
   exact⟨E2,s2,v1.trans v2⟩
  cases h
def Nt:V→List V
 | .eC vs=>vs
 | v=>[v]
def aaJ:V→List V→Option V
 | .eC _,l=>some (.eC l)
 | _,[v]=>some v
 | _,_=>none
theorem aaK {E E':Env} {v v':V} {x:Value} {l:List V} (h:cK E v x) (hl:∀ xs,cz E (Nt v) xs→cz E' l xs) (hm:aaJ v l=some v'):cK E' v' x:=by cases v with | eC vs =>(cases hm;cases h with | eC _ _ xs hlen hh =>have:=hl xs.toList ⟨by simpa [Nt] using hlen,fun i c x hc hx=>hh i c x hc (by simpa using hx)⟩;exact .eC _ _ _ (by simpa using this.1) fun i c x hc hx=>this.2 i c x hc (by simpa using hx)) | _ =>cases l with | nil=>cases hm | cons u r =>cases r with | nil =>cases hm;obtain⟨y,ys,hy,MD,-⟩:=(hl [x] (.cons h (.nil _))).of_cons;cases hy; exact MD | cons _ _=>cases hm
def WL (n:Nat) (p:V×List ba):Option (V×List ba):=match CB (Nq n p.2) p.2 with
 | some m1=>match fh m1 (Nt p.1) with
  | some l=>match aaJ p.1 l with
   | some v=>if aH n v=true∧((ey m1 ((Nt p.1).flatMap eR)).take n).all (aI n)=true then some (v,(ey m1 ((Nt p.1).flatMap eR)).take n) else none
   | none=>none
  | none=>none
 | none=>none
def yR (n:Nat):List (V×List ba)→Option (List (V×List ba))
 | []=>some []
 | p :: r=>match WL n p with
  | some q=>match yR n r with
   | some s=>some (q :: s)
   | none=>none
  | none=>none
theorem yS {n:Nat}:∀ {l l':List (V×List ba)},yR n l=some l'→∀ p∈l,∃ q∈l',WL n p=some q
 | [],_,_,p,h=>by cases h
 | a :: r,l',h,p,hp=>by
  unfold yR at h
  split at h
  ·rename_i q hq
   split at h
   ·rename_i s hs
    cases h
    rcases cp.1 hp with rfl | hp
    ·exact⟨q,bJ ..,hq⟩
    obtain⟨q',h1,h2⟩:=yS hs p hp
    exact⟨q',bh _ h1,h2⟩
   cases h
  cases h
theorem dR.yE {P:Program} {f:FuncId} {vs:List V} {mem:List ba} {R R':V→List ba→Prop} (h:dR P f vs mem R)
  (step:∀ r m,R r m→∃ v' m2,R' v' (m2.take mem.length)∧aH mem.length v'=true∧(m2.take mem.length).all (aI mem.length)=true ∧
   ∀ (E:Env) (w:World) (x:Value),cU E w { tmps := #[],defers:=[] } { fr:=[],mem:=m }→cK E r x→∃ E2,cU E2 w { tmps := #[],defers:=[] } { fr:=[],mem:=m2 }∧gE E w E2 w∧cK E2 v' x):dR P f vs mem R':=by
 refine⟨h.1,fun E w xs hs hx=>(h.2 E w xs hs hx).mono ?_⟩;rintro e w' ⟨E',x,r,m,rfl,hR,gD,oY,mm⟩;obtain⟨v',m2,hR',hv,hm,st⟩:=step r m hR;obtain⟨E2,s2,V2,MD⟩:=st E' w' x oY mm;have he:=gD.trans V2;have hc:=s2.cut (n:=mem.length) rfl hm;refine⟨E2.cut mem.length,x,v',m2.take mem.length,rfl,hR',⟨⟨he.le.F,fun k v t hk=>?_⟩,fun k v g e c hk=>?_,he.F,he.os,he.tape,he.output,he.size,he.heap⟩,hc,iU MD hv⟩;·(have:k<mem.length:=by (rcases bW k mem.length with bX | jw);(·exact bX);rw [hs.top k jw v] at hk; cases hk);exact (if_pos this).trans (he.le.cj _ _ _ hk)
 have:E2.cj k v=some (g,e,c):=by by_cases la:k<mem.length;(·exact ((if_pos la).symm.trans hk:E2.cj k v=_));have h2:(E2.cut mem.length).cj k v=none:=if_neg la;rw [h2] at hk; cases hk
 exact he.cj _ _ _ _ _ this
theorem dR.DR {P:Program} {f:FuncId} {vs:List V} {mem:List ba} {l l':List (V×List ba)} (h:dR P f vs mem fun r m=>(r,m)∈l) (hp:yR mem.length l=some l'):dR P f vs mem fun r m=>(r,m)∈dedup l':=by
 refine h.yE fun r m hR=>?_;obtain⟨q,hq,ht⟩:=yS hp _ hR;unfold WL at ht;dsimp only at ht;split at ht;·rename_i m1 h1;split at ht;(·rename_i l hl;split at ht;(·rename_i v hv;split at ht;(·rename_i hc;cases ht;refine⟨v,_,rz hq,hc.1,hc.2,fun E w x hs mm=>?_⟩;obtain⟨E1,s1,ev1⟩:=Bf h1 hs;obtain⟨E2,s2,V2,r2⟩:=s1.freeze hl;exact⟨E2,s2,ev1.trans V2,aaK (mm.mono ev1.le) r2 hv⟩);cases ht);cases ht);cases ht
 cases ht
def Nu (n:Nat) (x:Option (List (V×List ba))):Option (List (V×List ba)):=match x with
 | some l=>match yR n l with
  | some l'=>some (dedup l')
  | none=>none
 | none=>none
theorem dR.Nu {P:Program} {f:FuncId} {vs:List V} {mem:List ba} {x:Option (List (V×List ba))} (h:∀ l,x=some l→dR P f vs mem fun r m=>(r,m)∈l) {o:List (V×List ba)} (hp:Go.Eng.Nu mem.length x=some o):dR P f vs mem fun r m=>(r,m)∈o:=by
 unfold Go.Eng.Nu at hp;split at hp;·rename_i l;split at hp;(·rename_i l' Y9;cases hp;exact (h l rfl).DR Y9);cases hp
 cases hp
end Go.Eng
end
