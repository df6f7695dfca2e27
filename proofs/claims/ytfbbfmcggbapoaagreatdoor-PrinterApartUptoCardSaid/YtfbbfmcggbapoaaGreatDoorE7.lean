import Derived.Test.YtfbbfmcggbapoaaGreatDoorE6
import Derived.Lib.AppendStr
import Derived.Laws.AppendOwn
import Derived.Lib.UnsafeStr
open Array renaming getElem?_modify→atD,getElem?_toList→dJ,length_toList→fA,toArray_toList→cr
open Bool renaming and_eq_true→aJ,and_self→nX,and_true→aU,false_eq_true→bu,not_false→a8,not_true→bG,true_and→a6
open Int renaming natCast_nonneg→fP,toNat_natCast→ru
open List renaming all_cons→cI,all_eq_true→aN,all_nil→dM,append_assoc→al,append_nil→ah,cons_append→aw,drop_succ_cons→atK,drop_zero→xU,ext_getElem?→dC,find?_eq_none→auL,flatMap_cons→ab,flatMap_nil→ag,foldl_cons→o3,foldl_nil→atH,getD_eq_getElem?_getD→ey,getElem?_append→n6,getElem?_append_left→bh,getElem?_append_right→aX,getElem?_cons_succ→cO,getElem?_cons_zero→aF,getElem?_drop→auG,getElem?_eq_getElem→au,getElem?_eq_none→cH,getElem?_eq_some_iff→aA,getElem?_map→aq,getElem?_range→auc,getElem?_set→bR,getElem?_set_ne→cD,getElem?_set_self→eJ,getElem?_take→jV,getElem?_take_of_lt→jf,getElem?_toArray→auS,head?_cons→aut,length_append→ae,length_cons→af,length_drop→e8,length_map→ax,length_nil→ai,length_take→lg,map_append→fF,map_cons→bm,map_nil→iK,mem_cons→b8,mem_map→cQ,mem_of_getElem?→aE,mem_range→atJ,nil_append→aC,not_mem_nil→ef,range'_succ→at3,range_eq_range'→auf,set_cons_succ→mb,set_cons_zero→ma,set_set→asm,take_length→az,take_succ_cons→y5,take_zero→xV
open Nat renaming add_sub_cancel_left→dQ,add_zero→jW,le_refl→ay,lt_irrefl→apq,lt_of_lt_of_le→qJ,lt_or_ge→bS,mul_one→rq,sub_self→eI,sub_zero→asl,zero_add→dL,zero_le→ck
open Option renaming bind_some→at2,map_eq_some_iff→aY,map_none→atX,map_some→b9
open Option.some renaming injEq→aB
set_option linter.all false
section
namespace Go.Eng
variable [ba]
section
variable {P:Program} {tt:Table} {ρ:Option Nat} {n0:Nat} {st:St} {Q:Exit→St→Prop}
def U9 (P:Program) (f:FuncId) (vs:List V) (st:St) (dst:Option Tmp) (Q:St→Prop):Prop :=
 ∃ R,jh P f vs st.mem R∧∀ v m',R v m'→Q ({ st with mem:=m' }.put dst v)
def ZK (P:Program) (f:FuncId) (vs:List V) (st:St) (dst:Option Tmp) (Q:St→Prop):Prop:=Lh P f vs st dst Q∨U9 P f vs st dst Q
def ZL (P:Program) (tt:Table) (key:Nat) (o:Oper) (st:St) (Q:St→Prop):Prop :=
 match o.op with
 | .call c=>match c.callee with
  | .value f=>match c6 (st.eval f) (c.args.toList.map st.eval) with
   | some (g,vs)=>ZK P g vs st o.dst Q
   | none=>False
  | .builtin .append=>match c.args.toList.map st.eval with
   | [s,x]=>match eM tt st.mem c.argTypes.toList s x with
    | some (size,rH,rows)=>Q ({ st with mem:=(ew st.mem key size rows rH).1 }.put o.dst (ew st.mem key size rows rH).2)
    | none=>x9 tt st c.argTypes.toList s x o.dst Q
   | _=>False
  | _=>kP P tt key o st Q
 | _=>kP P tt key o st Q
def Qx (P:Program) (tt:Table) (gl:List (Nat×Nat)) (all:Array Oper):List Oper→St→(St→Prop)→Prop
 | [],st,Q=>Q st
 | o :: r,st,Q=>match th gl all st.fr o with
  | some true=>ZL P tt st.mem.length o st fun st'=>Qx P tt gl all r st' Q
  | some false=>Qx P tt gl all r (st.put o.dst (.sc undef)) Q
  | none=>False
theorem Jf {ts:List TypeId} {s x:V} {dst:Option Tmp} {A B:St→Prop} (h:x9 tt st ts s x dst A) (ur:∀ s,A s→B s):x9 tt st ts s x dst B:=by
 unfold x9 at h ⊢;split at h;·exact fun o mv h1 h2=>ur _ (h o mv h1 h2)
 exact h
attribute [irreducible] Qx
end
end Go.Eng
end
section
namespace Go.Eng
variable [ba]
inductive Tk where
 | a
 | b
def tk:Tk:=.b
theorem aeT {α:Type} {a b:α} (h:a=b):a=b:=h
theorem kW {a b:Prop} (h:a=b):a=b:=h
def bq {α:Type} (_:Tk) (o:Option α) (K:α→Prop):Prop:=match o with
 | some v=>K v
 | none=>False
theorem ZM {α:Type} {k:Tk} {o:Option α} {K:α→Prop}:bq k o K=match o with|some v=>K v|none=>False:=kW rfl
theorem kG {α:Type} {k:Tk} {o:Option α} {K:α→Prop}:bq k o K↔∃ v,o=some v∧K v:=by cases o with|none=>exact⟨fun h=>h.elim,fun ⟨_,h,_⟩=>by cases h⟩|some v=>exact⟨fun h=>⟨v,rfl,h⟩,fun ⟨_,e,h⟩=>by cases e;exact h⟩
def nq {α:Type} (_:Tk) (o:Option α) (A:α→Prop) (B:Prop):Prop:=match o with
 | some v=>A v
 | none=>B
theorem ZN {α:Type} {k:Tk} {o:Option α} {A:α→Prop} {B:Prop}:nq k o A B=match o with|some v=>A v|none=>B:=kW rfl
theorem vO {α:Type} {k:Tk} {v:α} {A:α→Prop} {B:Prop}:nq k (some v) A B=A v:=rfl
theorem vP {α:Type} {k:Tk} {A:α→Prop} {B:Prop}:nq k none A B=B:=rfl
section
variable {m:Bool} {P:Program} {tt:Table} {st:St} {Q:St→Prop}
def si (_:Tk) (m:Bool) (P:Program) (f:FuncId) (vs:List V) (o:Option (List V)) (keys:List (Nat×Nat)) (st:St) (dst:Option Tmp) (Q:St→Prop):Prop :=
 (∃ vs' r,o=some vs'∧bJ P f vs' r∧Q ({ st with mem:=gQ st.mem keys r }.put dst r)) ∨
 (∃ r bI,bo P f vs st.mem r bI∧Q ({ st with mem:=bI }.put dst r)) ∨
 (m=true∧∃ R,jh P f vs st.mem R∧∀ r bI,R r bI→Q ({ st with mem:=bI }.put dst r)) ∨
 (∃ r,rL P f vs r∧Q (st.put dst r))
def aeU (_:Tk) (m:Bool) (P:Program) (k:Nat) (vs:List V) (st:St) (dst:Option Tmp) (Q:St→Prop):Prop :=
 (∃ b bI,Ih P k vs st.mem b bI∧Q ({ st with mem:=bI }.put dst (.sc (.bool b)))) ∨
 (m=true∧∃ R,ME P k vs st.mem R∧∀ b bI,R b bI→Q ({ st with mem:=bI }.put dst (.sc (.bool b))))
def apV (_:Tk) (m:Bool) (r:Option (Nat×Nat×Nat×Nat×List V×List V)) (st:St) (dst:Option Tmp) (Q:St→Prop):Prop:=m=true∧match r with
 | some (size,b,v,l,rs,xs)=>∀ (o:Nat) (mv:List V),mv.drop o=rs++xs→o+(l+xs.length)=mv.length→Q ({ st with mem:=st.mem.set b (.rows (v+1) size mv) }.put dst (.ms b (v+1) o (l+xs.length)))
 | none=>False
def nxV (_:Tk) (m:Bool) (st:St) (dst:Option Tmp) (it:V) (str:Bool) (Q:St→Prop):Prop:=m=true∧vi st dst it str Q
def niV (_:Tk) (m:Bool) (n:Nat) (op:BinOp) (st:St) (dst:Option Tmp) (Q:St→Prop):Prop :=
 m=true∧∀ b:Bool,(n≠0→b=false)→Q (st.put dst (.sc (.bool (qh op b))))
def Va (tt:Table) (T:TypeId) (len:Nat) (parts:List (Nat×Operand)) (st:St) (key:Nat):Option (List bf) :=
 match w6 tt T len parts st.eval with
 | some (size,rs)=>some (da st.mem key (.rows 0 size rs))
 | none=>match Us tt T len parts st with
  | some (size,rs)=>some (da (gu st.mem (DZ st.eval parts)) key (.rows 0 size rs))
  | none=>none
def En (tt:Table) (mem:List bf) (T:TypeId) (p x:V):Option (List bf) :=
 match mJ tt mem T p x with
 | some m=>some m
 | none=>D0 tt mem T p x
def nL (m:Bool) (P:Program) (tt:Table) (key:Nat) (o:Oper) (st:St) (Q:St→Prop):Prop :=
 match o.op with
 | .alloc T=>bq tk (tt T) fun i=>Q ({ st with mem:=da st.mem key (.box (i.zero.map V.sc)) }.put o.dst (.ptr key 0))
 | .box _ x=>bq tk (lr (st.eval x)) fun cs=>Q ({ st with mem:=da st.mem key (.box cs) }.put o.dst (.ptr key 0))
 | .build T parts=>bq tk (mL P tt T parts.toList st.eval) fun v=>Q (st.put o.dst v)
 | .buildSlice T len parts=>bq tk (Va tt T len parts.toList st key) fun mem=>Q ({ st with mem:=mem }.put o.dst (.ms key 0 0 len))
 | .store T p x=>bq tk (En tt st.mem T (st.eval p) (st.eval x)) fun mem=>Q ({ st with mem:=mem }.put o.dst (.sc undef))
 | .call { callee:=.builtin .append,args:=xs,argTypes:=ts }=>match xs.toList.map st.eval with
  | [s,x]=>nq tk (eM tt st.mem ts.toList s x) (fun p=>Q ({ st with mem:=(ew st.mem key p.1 p.2.2 p.2.1).1 }.put o.dst (ew st.mem key p.1 p.2.2 p.2.1).2)) (apV tk m (oh tt st.mem ts.toList s x) st o.dst Q)
  | _=>False
 | .call { callee:=.value f,args:=xs,.. }=>match st.eval f with
  | .jK k=>aeU tk m P k (xs.toList.map st.eval) st o.dst Q
  | fv=>bq tk (c6 fv (xs.toList.map st.eval)) fun p=>si tk m P p.1 p.2 (ij st.mem p.2) (p.2.flatMap gq) st o.dst Q
 | .makeSlice T l c=>bq tk (x7 tt T (st.eval l) (st.eval c)) fun p=>Q ({ st with mem:=da st.mem key (.rows 0 p.1 p.2.1) }.put o.dst (.ms key 0 0 p.2.1.length))
 | .makeMap _ none=>Q ({ st with mem:=da st.mem key (.map [] 0) }.put o.dst (.mp key))
 | .mapUpdate T d k x=>bq tk (dB P st.mem T (st.eval d) (st.eval k) (st.eval x)) fun mem=>Q ({ st with mem:=mem }.put o.dst (.sc undef))
 | .insert T d k x=>bq tk (dB P st.mem T (st.eval d) (st.eval k) (st.eval x)) fun mem=>Q ({ st with mem:=mem }.put o.dst (.sc undef))
 | .mapEntry T d k=>bq tk (w7 P st.mem T (st.eval d) (st.eval k)) fun p=>Q ({ st with mem:=p.1 }.put o.dst p.2)
 | .entryStore _ d s x=>bq tk (w8 st.mem (st.eval d) (st.eval s) (st.eval x)) fun mem=>Q ({ st with mem:=mem }.put o.dst (.sc undef))
 | .call { callee:=.builtin .delete,args:=xs,argTypes:=ts }=>bq tk (tb P st.mem ts (xs.toList.map st.eval)) fun mem=>Q ({ st with mem:=mem }.put o.dst (.sc (.tuple #[])))
 | .range T x=>bq tk (pn P st.mem T (st.eval x)) fun B=>Q ({ st with mem:=da st.mem key B }.put o.dst (.ptr key 0))
 | .next it str=>nxV tk m st o.dst (st.eval it) str Q
 | .binOp op T x y _=>nq tk (oO tt op T (st.eval x) (st.eval y)) (fun n=>niV tk m n op st o.dst Q) (bq tk (iq P tt st o) fun v=>Q (st.put o.dst v))
 | _=>bq tk (iq P tt st o) fun v=>Q (st.put o.dst v)
theorem ti {α:Type} {k:Tk} {o:Option α} {A B:α→Prop} (h:bq k o A) (ur:∀ v,A v→B v):bq k o B:=by cases o with|none=>exact h|some v=>exact ur v h
theorem Jg {dst:Option Tmp} {it:V} {str:Bool} {A B:St→Prop} (h:vi st dst it str A) (ur:∀ s,A s→B s):vi st dst it str B:=by
 unfold vi at h ⊢;split at h;·split at h;(·split at h;(·exact⟨h.1,h.2.1,fun e=>ur _ (h.2.2.1 e),fun e he=>ur _ (h.2.2.2 e he)⟩);exact h);(·refine⟨h.1,?_⟩;have:=h.2;split at this;(·rename_i hp;rw [if_pos hp];exact ur _ this);rename_i hp;rw [if_neg hp];exact ur _ this);(·exact⟨h.1,ur _ h.2⟩);exact h
 exact h
theorem Jh {key:Nat} {o:Oper} {A B:St→Prop} (h:nL m P tt key o st A) (ur:∀ s,A s→B s):nL m P tt key o st B:=by
 have app:∀ {ts:List TypeId} {s x:V},nq tk (eM tt st.mem ts s x) (fun p=>A ({ st with mem:=(ew st.mem key p.1 p.2.2 p.2.1).1 }.put o.dst (ew st.mem key p.1 p.2.2 p.2.1).2)) (apV tk m (oh tt st.mem ts s x) st o.dst A) →
   nq tk (eM tt st.mem ts s x) (fun p=>B ({ st with mem:=(ew st.mem key p.1 p.2.2 p.2.1).1 }.put o.dst (ew st.mem key p.1 p.2.2 p.2.1).2)) (apV tk m (oh tt st.mem ts s x) st o.dst B):=fun {ts s x} h=>by
  cases ha:eM tt st.mem ts s x with
  | some p=>rw [ha,vO] at h;exact ur _ h
  | none=>rw [ha,vP] at h;exact⟨h.1,Jf (show x9 tt st ts s x o.dst A from h.2) ur⟩
 have cv:∀ {f:FuncId} {vs:List V} {p:Option (List V)} {keys:List (Nat×Nat)},si tk m P f vs p keys st o.dst A→si tk m P f vs p keys st o.dst B:=fun h=>by (rcases h with ⟨vs',r,h1,h2,h3⟩|⟨r,m',h1,h2⟩|⟨hm,R,h1,h2⟩|⟨r,h1,h2⟩);(·exact .inl ⟨vs',r,h1,h2,ur _ h3⟩);(·exact .inr (.inl ⟨r,m',h1,ur _ h2⟩));(·exact .inr (.inr (.inl ⟨hm,R,h1,fun r m' h=>ur _ (h2 r m' h)⟩)));exact .inr (.inr (.inr ⟨r,h1,ur _ h2⟩))
 obtain⟨dst,op,type,pos,after,guard⟩:=o;cases op
 case call c =>
  obtain⟨callee,args,ats⟩:=c
  cases callee
  case value f =>
   simp only [nL] at h ⊢
   split at h
   ·rcases h with ⟨b,m',h1,h2⟩|⟨hm,R,h1,h2⟩
    ·exact .inl ⟨b,m',h1,ur _ h2⟩
    exact .inr ⟨hm,R,h1,fun b m' h=>ur _ (h2 b m' h)⟩
   exact ti h fun v hv=>cv hv
  case builtin b =>
   cases b
   case append =>
    simp only [nL] at h ⊢
    split at h
    ·exact app h
    exact h
   all_goals (simp only [nL] at h ⊢;exact ti h fun v hv=>ur _ hv)
  all_goals (simp only [nL] at h ⊢;exact ti h fun v hv=>ur _ hv)
 case makeMap T l =>
  cases l with
  | none=>exact ur _ h
  | some l=>simp only [nL] at h ⊢;exact ti h fun v hv=>ur _ hv
 case next it str=>exact⟨h.1,Jg h.2 ur⟩
 case binOp op T x y yt =>
  simp only [nL] at h ⊢
  cases hn:oO tt op T (st.eval x) (st.eval y) with
  | some n =>
   rw [hn,vO] at h
   exact⟨h.1,fun b hb=>ur _ (h.2 b hb)⟩
  | none=>rw [hn,vP] at h;exact ti h fun v hv=>ur _ hv
 all_goals (simp only [nL] at h ⊢;exact ti h fun v hv=>ur _ hv)
def XC (m:Bool) (P:Program) (tt:Table) (key:Nat) (o:Oper) (st:St) (Q:St→Prop):Prop:=match m with
 | true=>cY P tt key o st Q
 | false=>∃ s,Q s∧∀ K:St→Prop,K s→cY P tt key o st K
theorem j6 {key:Nat} {o:Oper} (s:St) (h:Q s) (hk:∀ K:St→Prop,K s→cY P tt key o st K):XC m P tt key o st Q:=by
 cases m;·exact⟨s,h,hk⟩
 exact hk Q h
theorem Qy {f:FuncId} {vs:List V} {dst:Option Tmp} {k:Tk} (h:si k m P f vs (ij st.mem vs) (vs.flatMap gq) st dst Q):(m=true∧x8 P f vs st dst Q)∨∃ s,Q s∧∀ K:St→Prop,K s→x8 P f vs st dst K:=by
 rcases h with ⟨vs',r,h1,h2,h3⟩|⟨r,m',h1,h2⟩|⟨hm,R,h1,h2⟩|⟨r,h1,h2⟩
 ·exact .inr ⟨_,h3,fun K hK=>.inl ⟨vs',r,h1,h2,hK⟩⟩
 ·exact .inr ⟨_,h2,fun K hK=>.inr (.inl ⟨r,m',h1,hK⟩)⟩
 ·exact .inl ⟨hm,.inr (.inr (.inl ⟨R,h1,h2⟩))⟩
 exact .inr ⟨_,h2,fun K hK=>.inr (.inr (.inr ⟨r,h1,hK⟩))⟩
theorem Qz {key:Nat} {o:Oper} (h:nL m P tt key o st Q):XC m P tt key o st Q:=by
 unfold nL at h;split at h;all_goals try (rename_i jv;simp only [kG] at h;obtain⟨v,h1,h2⟩:=h;refine j6 _ h2 fun K hK=>?_;unfold cY;rw [jv];dsimp only;rw [h1];exact hK)
 ·rename_i jv;simp only [kG] at h;obtain⟨mem,h1,h2⟩:=h;refine j6 _ h2 fun K hK=>?_;unfold cY;rw [jv];dsimp only;unfold Va at h1;split at h1;(·rename_i hl;cases h1;rw [hl];exact hK);rename_i hl;rw [hl];split at h1;(·rename_i hl;cases h1;dsimp only;rw [hl];exact hK);cases h1
 ·rename_i jv;simp only [kG] at h;obtain⟨mem,h1,h2⟩:=h;refine j6 _ h2 fun K hK=>?_;unfold cY;rw [jv];dsimp only;unfold En at h1;split at h1;(·rename_i hl;cases h1;rw [hl];exact hK);rename_i hl;rw [hl];dsimp only;rw [h1];exact hK
 ·rename_i jv;split at h;(·rename_i s x Uu;cases ha:eM tt st.mem _ s x with|some p =>rw [ha,vO] at h;refine j6 _ h fun K hK=>?_;unfold cY;rw [jv];dsimp only;rw [Uu];dsimp only;rw [ha];exact hK|none =>rw [ha,vP] at h;obtain⟨rfl,h⟩:=h;show cY P tt key o st Q;unfold cY;rw [jv];dsimp only;rw [Uu];dsimp only;rw [ha];exact h);exact h.elim
 ·rename_i jv;split at h;(·rename_i k hk;(rcases h with ⟨b,m',h1,h2⟩|⟨rfl,R,h1,h2⟩);(·refine j6 _ h2 fun K hK=>?_;unfold cY;rw [jv];dsimp only;rw [hk];exact .inl ⟨b,m',h1,hK⟩);show cY P tt key o st Q;unfold cY;rw [jv];dsimp only;rw [hk];exact .inr ⟨R,h1,h2⟩);rename_i hk;simp only [kG] at h;obtain⟨⟨g,vs⟩,h1,h2⟩:=h;(have aeV:∀ K:St→Prop,x8 P g vs st o.dst K→cY P tt key o st K:=fun K hK=>by unfold cY;rw [jv];dsimp only;split;(·rename_i k hy;exact (hk k hy).elim);rw [h1];exact hK);(rcases Qy h2 with ⟨rfl,h3⟩|⟨s,h3,h4⟩);(·exact aeV Q h3);exact j6 s h3 fun K hK=>aeV K (h4 K hK)
 ·rename_i jv;exact j6 _ h fun K hK=>by unfold cY;rw [jv];exact hK
 ·rename_i jv;obtain⟨rfl,h⟩:=h;show cY P tt key o st Q;unfold cY;rw [jv];exact h
 ·rename_i op T x y yt jv;cases hn:oO tt op T (st.eval x) (st.eval y) with|some n =>rw [hn,vO] at h;obtain⟨rfl,h⟩:=h;show cY P tt key o st Q;unfold cY;rw [jv];dsimp only;rw [hn];exact h|none =>rw [hn,vP,kG] at h;obtain⟨v,h1,h2⟩:=h;exact j6 _ h2 fun K hK=>by unfold cY;rw [jv];dsimp only;rw [hn];dsimp only;rw [h1];exact hK
 rw [kG] at h;obtain⟨v,h1,h2⟩:=h;refine j6 _ h2 fun K hK=>?_;unfold cY;split
 all_goals first
  | (rw [h1];exact hK)
  | (exfalso;solve_by_elim)
end
end Go.Eng
end
section
namespace Go.Eng
variable [ba]
section
variable {P:Program} {ρ:Option Nat} {n0:Nat} {c:Code} {st:St} {Q:Exit→St→Prop}
end
end Go.Eng
end
section
namespace Go.Eng
variable [ba]
def lk (t:Nat):List (Nat×V)→V
 | []=>.undef
 | p :: ws=>if p.1=t then p.2 else lk t ws
def W (n:Nat) (ws:List (Nat×V)):List V:=(List.range n).map fun i=>lk i ws
theorem AL (n:Nat) (ws:List (Nat×V)) (t:Nat):(W n ws)[t]?=if t<n then some (lk t ws) else none:=by
 unfold W;rw [aq];by_cases h:t<n;·rw [if_pos h,auc h];rfl
 rw [if_neg h,cH (by simp;omega)];rfl
theorem ZO (n:Nat) (ws:List (Nat×V)) (t:Nat):(W n ws).getD t .undef=if t<n then lk t ws else .undef:=by rw [ey,AL];split <;> rfl
theorem sj (n:Nat) (ws:List (Nat×V)):(W n ws).length=n:=by simp [W]
theorem XD (n:Nat) (ws:List (Nat×V)) (d:Nat) (v:V):(W n ws).set d v=W n ((d,v) :: ws):=by
 apply dC;intro i;rw [bR,AL,AL,sj];simp only [lk];by_cases h:d=i;·subst h;simp
 simp [h]
def M4 (o9:List (Nat×V)):List (Nat×V)→Prop
 | []=>True
 | p :: r=>lk p.1 o9=p.2∧M4 o9 r
theorem Li {o9:List (Nat×V)}:∀ {ws:List (Nat×V)},M4 o9 ws→∀ i,lk i ws = .undef∨lk i ws=lk i o9
 | [],_,i=>.inl rfl
 | p :: r,h,i=>by
  simp only [lk]
  by_cases e:p.1=i
  ·subst e;rw [if_pos rfl];exact .inr h.1.symm
  rw [if_neg e];exact Li h.2 i
theorem Vb {E:Env} {n:Nat} {o9 ws:List (Nat×V)} (h:M4 o9 ws) {xs:List Value} (hr:cU E (W n o9) xs):cU E (W n ws) xs:=by
 refine⟨by rw [← hr.1,sj,sj],fun i v x hv hx=>?_⟩;rw [AL] at hv;split at hv;·rename_i hi;cases hv;(rcases Li h i with e|e);(·rw [e];exact .undef _ _);rw [e];exact hr.2 i _ x (by rw [AL,if_pos hi]) hx
 cases hv
def QA (k:Nat) (ws:List (Nat×V)):Bool:=ws.all fun p=>aI k p.2
theorem aeW {k n:Nat} {ws:List (Nat×V)} (h:QA k ws=true):(W n ws).all (aI k)=true:=by rw [aN];intro v hv;unfold W at hv;obtain⟨i,-,rfl⟩:=cQ.1 hv;clear hv;induction ws with|nil=>rfl|cons p r ih =>unfold QA at h ih;rw [cI,aJ] at h;simp only [lk];split;(·exact h.1);exact ih h.2
def X (_:Tk) (m:Bool) (P:Program) (ρ:Option Nat) (n0:Nat) (c:Code) (st:St) (Q:Exit→St→Prop):Prop:=match m with
 | true=>dS P ρ n0 c st Q
 | false=>Ex P ρ n0 c st Q
section
variable {k_:Tk} {m:Bool} {P:Program} {tt:Table} {sp:List Nat} {ρ:Option Nat} {n0:Nat} {st:St} {Q:Exit→St→Prop} {n:Nat} {ws o9:List (Nat×V)} {mem lC:List bf}
theorem X.mono {c:Code} {Q2:Exit→St→Prop} (h:X k_ m P ρ n0 c st Q) (hq:∀ e s,Q e s→Q2 e s):X k_ m P ρ n0 c st Q2:=by
 cases m;·exact Ex.mono h hq
 exact dS.mono h hq
theorem C2 {x y:Code} (h:X k_ m P ρ n0 x st (gS (fun st'=>X k_ m P ρ n0 y st' Q) Q)):X k_ m P ρ n0 (.seq x y) st Q:=by
 cases m;·exact AI h
 exact bc h
theorem Vc {id:Nat} {c:Code} (h:X k_ m P ρ n0 c st (jN id Q)):X k_ m P ρ n0 (.block id c) st Q:=by
 cases m;·exact AJ h
 exact bC h
theorem QB {c:Code} {st':St} (hw:∀ E w a,c5 E w a st→c5 E w a st') (h:X k_ m P ρ n0 c st' Q):X k_ m P ρ n0 c st Q:=by
 cases m;·obtain⟨e,s,hq,h⟩:=h;exact⟨e,s,hq,fun Q' h'=>rQ hw (h Q' h')⟩
 exact rQ hw h
theorem ZP {c:Code} (k:Nat) (hn:n0≤k) (hf:st.fr.all (aI k)=true) (hm:(st.mem.take k).all (aL k)=true) (h:X k_ m P ρ n0 c { st with mem:=st.mem.take k } Q):X k_ m P ρ n0 c st Q:=by
 cases m;·obtain⟨e,s,hq,h⟩:=h;exact⟨e,s,hq,fun Q' h'=>Ai k [] hn hf hm (h Q' h')⟩
 exact Ai k [] hn hf hm h
def xp (n0 k n:Nat) (ws:List (Nat×V)) (mem:List bf) (st:St):Prop :=
 ∃ o9 lC,st=⟨W n o9,lC⟩∧n0≤k∧M4 o9 ws∧QA k ws=true∧mem.all (aL k)=true∧lC.take k=mem
theorem eU {k:Nat} (h0:n0≤k) (h1:M4 o9 ws∧QA k ws=true∧mem.all (aL k)=true∧lC.take k=mem):xp n0 k n ws mem ⟨W n o9,lC⟩:=⟨o9,lC,rfl,h0,h1⟩
theorem Ji {c:Code} {k:Nat} (hl:xp n0 k n ws mem st) (h:X k_ m P ρ n0 c ⟨W n ws,mem⟩ Q):X k_ m P ρ n0 c st Q:=by obtain⟨o9,lC,rfl,h0,h1,h2,h3,h4⟩:=hl;subst h4;exact QB (st':=⟨W n ws,lC⟩) (fun E w a hs=>⟨hs.F,hs.lt,hs.mem,hs.top,hs.dI,hs.apart,Vb h1 hs.fr⟩) (ZP k h0 (aeW h2) h3 h)
def gate (_:Tk) (b:Bool) (d:Nat) (st:St) (f:Bool→St→Prop):Prop:=∀ b',b=b'→f b' { st with fr:=st.fr.set d (.sc (.bool b')) }
theorem ZQ {d:Nat} {f:Bool→St→Prop}:gate k_ true d st f=f true { st with fr:=st.fr.set d (.sc (.bool true)) }:=propext ⟨fun h=>h _ rfl,fun h b' e=>by subst e;exact h⟩
theorem ZR {d:Nat} {f:Bool→St→Prop}:gate k_ false d st f=f false { st with fr:=st.fr.set d (.sc (.bool false)) }:=propext ⟨fun h=>h _ rfl,fun h b' e=>by subst e;exact h⟩
theorem cC {b:Bool} {d:Nat} {f:Bool→St→Prop} (h1:b=true→f true { st with fr:=st.fr.set d (.sc (.bool true)) }) (h2:b=false→f false { st with fr:=st.fr.set d (.sc (.bool false)) }):gate k_ b d st f:=by intro b' e;cases b' with|true=>exact h1 e|false=>exact h2 e
theorem Lj {b:Bool} {d:Nat} {f:Bool→St→Prop} (hd:st.fr[d]?=some (.sc (.bool b))∨st.fr.getD d .undef = .sc (.bool b)) (h:gate k_ b d st f):f b st:=by
 have:=h b rfl;have e:st.fr.set d (.sc (.bool b))=st.fr:=by (rcases hd with hd|hd);(·exact rZ hd);rw [ey] at hd;cases hg:st.fr[d]? with|none=>rw [hg] at hd;cases hd|some v=>rw [hg] at hd;cases hd;exact rZ hg
 rw [e] at this;exact this
def Eo (_:Tk) (v:Option V) (d:Nat) (want:Bool) (st:St) (yes no:St→Prop):Prop:=match v with
 | some (.sc (.bool b))=>gate tk b d st fun b s=>match b==want with|true=>yes s|false=>no s
 | some (.sc _)=>no st
 | some _=>False
 | none=>no st
def yr:List Oper→Nat→Option Tmp
 | [],_=>none
 | o :: _,0=>o.dst
 | _ :: r,n+1=>yr r n
theorem Vd {o:Oper} {r:List Oper}:yr (o :: r) 0=o.dst:=rfl
theorem Lk {o:Oper} {r:List Oper} {n:Nat}:yr (o :: r) (n+1)=yr r n:=rfl
theorem GC:∀ (l:List Oper) (j:Nat),yr l j=(l[j]?).bind (·.dst)
 | [],j=>by simp [yr]
 | o :: r,0=>rfl
 | o :: r,j+1=>by rw [Lk,GC r j,cO]
def gd (all:List Oper) (o:Oper) (st:St) (yes no:St→Prop):Prop:=match o.guard with
 | none=>yes st
 | some (j,want)=>match yr all j with
  | none=>no st
  | some d=>Eo tk st.fr[d]? d want st yes no
theorem XE {all:Array Oper} {o:Oper} {yes no:St→Prop} (h:gd all.toList o st yes no):(fC all st.fr o=some true∧yes st)∨(fC all st.fr o=some false∧no st):=by
 unfold gd at h;unfold fC;split at h;·rename_i hg;rw [hg];exact .inl ⟨rfl,h⟩
 rename_i j want hg;rw [hg];dsimp only;rw [GC,dJ] at h;cases hd:(all[j]?).bind (·.dst) with|none=>rw [hd] at h;exact .inr ⟨rfl,h⟩|some d =>rw [hd] at h;dsimp only at h ⊢;unfold Eo at h;split at h;(·rename_i b hb;have h:=Lj (.inl hb) h;rw [hb];dsimp only;cases hc:b==want with|true=>rw [hc] at h;exact .inl ⟨rfl,h⟩|false=>rw [hc] at h;exact .inr ⟨rfl,h⟩);(·rename_i x hx hb;rw [hb];cases x with|bool b=>exact absurd rfl (hx b)|_=>exact .inr ⟨rfl,h⟩);(·exact h.elim);rename_i hb;rw [hb];exact .inr ⟨rfl,h⟩
def tF (m:Bool) (P:Program) (tt:Table) (all:List Oper):List Oper→St→(St→Prop)→Prop
 | [],st,Q=>Q st
 | o :: r,st,Q=>gd all o st (fun s=>nL m P tt s.mem.length o s fun s=>tF m P tt all r s Q) (fun s=>tF m P tt all r (s.put o.dst (.sc undef)) Q)
theorem ZS {all:List Oper} {Q:St→Prop}:tF m P tt all [] ⟨W n ws,mem⟩ Q=Q ⟨W n ws,mem⟩:=kW rfl
theorem ZT {all:List Oper} {o:Oper} {r:List Oper} {Q:St→Prop}:tF m P tt all (o :: r) ⟨W n ws,mem⟩ Q=gd all o ⟨W n ws,mem⟩ (fun s=>nL m P tt s.mem.length o s fun s=>tF m P tt all r s Q) (fun s=>tF m P tt all r (s.put o.dst (.sc undef)) Q):=kW rfl
def aeX (m:Bool) (P:Program) (tt:Table) (all:Array Oper) (l:List Oper) (st:St) (Q:St→Prop):Prop:=match m with
 | true=>eV P tt all l st Q
 | false=>∃ s,Q s∧∀ K:St→Prop,K s→eV P tt all l st K
theorem Ep {all:Array Oper} {Q:St→Prop}:∀ (l:List Oper) (st:St),tF m P tt all.toList l st Q→aeX m P tt all l st Q
 | [],st,h=>by
  cases m with
  | true=>show eV P tt all [] st Q;rw [eV];exact h
  | false=>exact⟨st,h,fun K hK=>by rw [eV];exact hK⟩
 | o :: r,st,h=>by
  rw [tF] at h
  rcases XE h with ⟨hw,h⟩|⟨hw,h⟩
  ·have h:=Qz (Jh (B:=fun s=>aeX m P tt all r s Q) h fun s hs=>Ep r s hs)
   cases m with
   | true =>
    show eV P tt all (o :: r) st Q
    rw [eV,hw]
    exact h
   | false =>
    obtain⟨s1,h1,h2⟩:=h
    obtain⟨s2,h3,h4⟩:=h1
    exact⟨s2,h3,fun K hK=>by rw [eV,hw];exact h2 _ (h4 K hK)⟩
  have h:=Ep r _ h
  cases m with
  | true =>
   show eV P tt all (o :: r) st Q
   rw [eV,hw];exact h
  | false =>
   obtain⟨s2,h3,h4⟩:=h
   exact⟨s2,h3,fun K hK=>by rw [eV,hw];exact h4 K hK⟩
theorem AM (ht:TT P tt) {id:Nat} {ops:Array Oper} (h:tF m P tt ops.toList ops.toList st (Q .normal)):X k_ m P ρ n0 (.region id ops false) st Q:=by have h:=Ep _ _ h;cases m with|true=>exact l7 ht h|false =>obtain⟨s,h1,h2⟩:=h;exact⟨.normal,s,h1,fun Q' h'=>l7 ht (h2 _ h')⟩
def Ll (c:Operand) (st:St) (f:Bool→St→Prop):Prop:=match st.eval c with
 | .sc (.bool b)=>match c with
  | .tmp t=>gate tk b t st f
  | _=>f b st
 | _=>False
def QC (i:Nat):List Nat→Bool
 | []=>false
 | a :: r=>if a=i then true else QC i r
def ky:Code→Nat
 | .cond (.tmp t) _ _=>10000+t
 | .block i _=>20000+i
 | .seq _ _=>30000
 | .region i _ _=>i
 | _=>40000
def vc (m:Bool) (P:Program) (tt:Table) (sp:List Nat) (ρ:Option Nat) (n0:Nat):Code→St→(Exit→St→Prop)→Prop
 | .seq x y,st,Q=>match x with
  | .region id ops false=>match QC id sp with
   | false=>tF m P tt ops.toList ops.toList st fun s=>vc m P tt sp ρ n0 y s Q
   | true=>X tk m P ρ n0 (.seq (.region id ops false) y) st Q
  | .skip=>vc m P tt sp ρ n0 y st Q
  | _=>match QC (ky x) sp with
   | false=>vc m P tt sp ρ n0 x st (gS (fun s=>vc m P tt sp ρ n0 y s Q) Q)
   | true=>X tk m P ρ n0 (.seq x y) st Q
 | .region id ops false,st,Q=>match QC id sp with
  | false=>tF m P tt ops.toList ops.toList st (Q .normal)
  | true=>X tk m P ρ n0 (.region id ops false) st Q
 | .cond c x y,st,Q=>Ll c st fun b s=>match b with|true=>vc m P tt sp ρ n0 x s Q|false=>vc m P tt sp ρ n0 y s Q
 | .block id c,st,Q=>vc m P tt sp ρ n0 c st (jN id Q)
 | .skip,st,Q=>Q .normal st
 | .ret,st,Q=>Q .ret st
 | .exit id,st,Q=>Q (.exit id) st
 | c,st,Q=>X tk m P ρ n0 c st Q
theorem vx (ht:TT P tt):∀ {c:Code} {st:St} {Q:Exit→St→Prop},vc m P tt sp ρ n0 c st Q→X k_ m P ρ n0 c st Q:=by intro c;induction c with|seq x y ihx ihy =>(intro st Q h;unfold vc at h;split at h;(·split at h;(·refine C2 ((AM (Q:=gS (fun s=>vc m P tt sp ρ n0 y s Q) Q) ht h).mono fun e s h=>?_);cases e with|normal=>exact ihy h|_=>exact h);exact h);(·have h:=ihy h;cases m;(·exact AI (Em h));exact bc (bZ h));split at h;(·refine C2 ((ihx h).mono fun e s h=>?_);cases e with|normal=>exact ihy h|_=>exact h);exact h)|region id ops mixed =>intro st Q h;cases mixed;(·unfold vc at h;split at h;(·exact AM ht h);exact h);unfold vc at h;exact h|cond c x y ihx ihy =>intro st Q h;unfold vc at h;unfold Ll at h;split at h;(·rename_i b hb;(have h:X k_ m P ρ n0 (if b=true then x else y) st Q:=by split at h;(·rename_i t;have h:=Lj (.inr hb) h;cases b;(·exact ihy h);exact ihx h);cases b;(·exact ihy h);exact ihx h);cases m;(·exact Lg hb h);exact aO hb h);exact h.elim|block id c ih=>intro st Q h;unfold vc at h;exact Vc (ih h)|skip =>intro st Q h;unfold vc at h;cases m;(·exact Em h);exact bZ h|ret =>intro st Q h;unfold vc at h;cases m;(·exact Qq h);exact bE h|exit id =>intro st Q h;unfold vc at h;cases m;(·exact Lf h);exact dK h|_=>intro st Q h;unfold vc at h;exact h
section
variable {x y:Code} {id:Nat} {ops:Array Oper} {c:Operand}
theorem Jj {v:Option V} {d:Nat} {want:Bool} {yes no:St→Prop} {k:Tk}:Eo k v d want st yes no=match v with
  | some (.sc (.bool b))=>gate tk b d st fun b s=>match b==want with|true=>yes s|false=>no s
  | some (.sc _)=>no st
  | some _=>False
  | none=>no st:=kW rfl
def sV:=@nL
theorem M5 {key:Nat} {o:Oper} {Q:St→Prop}:nL m P tt key o ⟨W n ws,mem⟩ Q=sV m P tt key o ⟨W n ws,mem⟩ Q:=kW rfl
theorem ZU {key:Nat} {o:Oper} {Q:St→Prop}:sV m P tt key o st Q=match o.op with
   | .alloc T=>bq tk (tt T) fun i=>Q ({ st with mem:=da st.mem key (.box (i.zero.map V.sc)) }.put o.dst (.ptr key 0))
   | .box _ x=>bq tk (lr (st.eval x)) fun cs=>Q ({ st with mem:=da st.mem key (.box cs) }.put o.dst (.ptr key 0))
   | .build T parts=>bq tk (mL P tt T parts.toList st.eval) fun v=>Q (st.put o.dst v)
   | .buildSlice T len parts=>bq tk (Va tt T len parts.toList st key) fun mem=>Q ({ st with mem:=mem }.put o.dst (.ms key 0 0 len))
   | .store T p x=>bq tk (En tt st.mem T (st.eval p) (st.eval x)) fun mem=>Q ({ st with mem:=mem }.put o.dst (.sc undef))
   | .call { callee:=.builtin .append,args:=xs,argTypes:=ts }=>match xs.toList.map st.eval with
    | [s,x]=>nq tk (eM tt st.mem ts.toList s x) (fun p=>Q ({ st with mem:=(ew st.mem key p.1 p.2.2 p.2.1).1 }.put o.dst (ew st.mem key p.1 p.2.2 p.2.1).2)) (apV tk m (oh tt st.mem ts.toList s x) st o.dst Q)
    | _=>False
   | .call { callee:=.value f,args:=xs,.. }=>match st.eval f with
    | .jK k=>aeU tk m P k (xs.toList.map st.eval) st o.dst Q
    | fv=>bq tk (c6 fv (xs.toList.map st.eval)) fun p=>si tk m P p.1 p.2 (ij st.mem p.2) (p.2.flatMap gq) st o.dst Q
   | .makeSlice T l c=>bq tk (x7 tt T (st.eval l) (st.eval c)) fun p=>Q ({ st with mem:=da st.mem key (.rows 0 p.1 p.2.1) }.put o.dst (.ms key 0 0 p.2.1.length))
   | .makeMap _ none=>Q ({ st with mem:=da st.mem key (.map [] 0) }.put o.dst (.mp key))
   | .mapUpdate T d k x=>bq tk (dB P st.mem T (st.eval d) (st.eval k) (st.eval x)) fun mem=>Q ({ st with mem:=mem }.put o.dst (.sc undef))
   | .insert T d k x=>bq tk (dB P st.mem T (st.eval d) (st.eval k) (st.eval x)) fun mem=>Q ({ st with mem:=mem }.put o.dst (.sc undef))
   | .mapEntry T d k=>bq tk (w7 P st.mem T (st.eval d) (st.eval k)) fun p=>Q ({ st with mem:=p.1 }.put o.dst p.2)
   | .entryStore _ d s x=>bq tk (w8 st.mem (st.eval d) (st.eval s) (st.eval x)) fun mem=>Q ({ st with mem:=mem }.put o.dst (.sc undef))
   | .call { callee:=.builtin .delete,args:=xs,argTypes:=ts }=>bq tk (tb P st.mem ts (xs.toList.map st.eval)) fun mem=>Q ({ st with mem:=mem }.put o.dst (.sc (.tuple #[])))
   | .range T x=>bq tk (pn P st.mem T (st.eval x)) fun B=>Q ({ st with mem:=da st.mem key B }.put o.dst (.ptr key 0))
   | .next it str=>nxV tk m st o.dst (st.eval it) str Q
   | .binOp op T x y _=>nq tk (oO tt op T (st.eval x) (st.eval y)) (fun n=>niV tk m n op st o.dst Q) (bq tk (iq P tt st o) fun v=>Q (st.put o.dst v))
   | _=>bq tk (iq P tt st o) fun v=>Q (st.put o.dst v):=kW rfl
theorem ZV {all:List Oper} {o:Oper} {yes no:St→Prop}:gd all o ⟨W n ws,mem⟩ yes no=match o.guard with
  | none=>yes ⟨W n ws,mem⟩
  | some (j,want)=>match yr all j with
   | none=>no ⟨W n ws,mem⟩
   | some d=>Eo tk (W n ws)[d]? d want ⟨W n ws,mem⟩ yes no:=kW rfl
theorem M6 {f:Bool→St→Prop}:Ll c st f=match st.eval c with
  | .sc (.bool b)=>match c with
   | .tmp t=>gate tk b t st f
   | _=>f b st
  | _=>False:=kW rfl
theorem aeY:vc m P tt sp ρ n0 (.seq (.region id ops false) y) ⟨W n ws,mem⟩ Q=match QC id sp with
  | false=>tF m P tt ops.toList ops.toList ⟨W n ws,mem⟩ fun s=>vc m P tt sp ρ n0 y s Q
  | true=>X tk m P ρ n0 (.seq (.region id ops false) y) ⟨W n ws,mem⟩ Q:=kW rfl
theorem aeZ:vc m P tt sp ρ n0 (.seq (.region id ops true) y) ⟨W n ws,mem⟩ Q=match QC id sp with
  | false=>vc m P tt sp ρ n0 (.region id ops true) ⟨W n ws,mem⟩ (gS (fun s=>vc m P tt sp ρ n0 y s Q) Q)
  | true=>X tk m P ρ n0 (.seq (.region id ops true) y) ⟨W n ws,mem⟩ Q:=kW rfl
theorem ae0 {x1:Code}:vc m P tt sp ρ n0 (.seq (.seq x x1) y) ⟨W n ws,mem⟩ Q=match QC 30000 sp with
  | false=>vc m P tt sp ρ n0 (.seq x x1) ⟨W n ws,mem⟩ (gS (fun s=>vc m P tt sp ρ n0 y s Q) Q)
  | true=>X tk m P ρ n0 (.seq (.seq x x1) y) ⟨W n ws,mem⟩ Q:=kW rfl
theorem ae1 {x1:Code} {t:Nat}:vc m P tt sp ρ n0 (.seq (.cond (.tmp t) x x1) y) ⟨W n ws,mem⟩ Q=match QC (10000+t) sp with
  | false=>vc m P tt sp ρ n0 (.cond (.tmp t) x x1) ⟨W n ws,mem⟩ (gS (fun s=>vc m P tt sp ρ n0 y s Q) Q)
  | true=>X tk m P ρ n0 (.seq (.cond (.tmp t) x x1) y) ⟨W n ws,mem⟩ Q:=kW rfl
theorem ae2:vc m P tt sp ρ n0 (.seq (.block id x) y) ⟨W n ws,mem⟩ Q=match QC (20000+id) sp with
  | false=>vc m P tt sp ρ n0 (.block id x) ⟨W n ws,mem⟩ (gS (fun s=>vc m P tt sp ρ n0 y s Q) Q)
  | true=>X tk m P ρ n0 (.seq (.block id x) y) ⟨W n ws,mem⟩ Q:=kW rfl
theorem ak0:vc m P tt sp ρ n0 (.region id ops false) ⟨W n ws,mem⟩ Q=match QC id sp with
  | false=>tF m P tt ops.toList ops.toList ⟨W n ws,mem⟩ (Q .normal)
  | true=>X tk m P ρ n0 (.region id ops false) ⟨W n ws,mem⟩ Q:=kW rfl
theorem ak1:vc m P tt sp ρ n0 (.region id ops true) ⟨W n ws,mem⟩ Q=X tk m P ρ n0 (.region id ops true) ⟨W n ws,mem⟩ Q:=kW rfl
theorem ak2:vc m P tt sp ρ n0 (.cond c x y) ⟨W n ws,mem⟩ Q=Ll c ⟨W n ws,mem⟩ fun b s=>match b with|true=>vc m P tt sp ρ n0 x s Q|false=>vc m P tt sp ρ n0 y s Q:=kW rfl
theorem ak3:vc m P tt sp ρ n0 (.block id x) ⟨W n ws,mem⟩ Q=vc m P tt sp ρ n0 x ⟨W n ws,mem⟩ (jN id Q):=kW rfl
theorem ak4:vc m P tt sp ρ n0 .skip ⟨W n ws,mem⟩ Q=Q .normal ⟨W n ws,mem⟩:=kW rfl
theorem ak5:vc m P tt sp ρ n0 .ret ⟨W n ws,mem⟩ Q=Q .ret ⟨W n ws,mem⟩:=kW rfl
theorem ak6:vc m P tt sp ρ n0 (.exit id) ⟨W n ws,mem⟩ Q=Q (.exit id) ⟨W n ws,mem⟩:=kW rfl
theorem ak7:vc m P tt sp ρ n0 (.loop x) ⟨W n ws,mem⟩ Q=X tk m P ρ n0 (.loop x) ⟨W n ws,mem⟩ Q:=kW rfl
theorem ak8 {f:St→Prop}:gS f Q .normal st=f st:=kW rfl
theorem ak9 {f:St→Prop}:gS f Q .ret st=Q .ret st:=kW rfl
theorem ala {f:St→Prop} {j:Nat}:gS f Q (.exit j) st=Q (.exit j) st:=kW rfl
theorem alb {j:Nat}:jN j Q .normal st=Q .normal st:=kW rfl
theorem alc {j:Nat}:jN j Q .ret st=Q .ret st:=kW rfl
theorem ald {i j:Nat}:jN i Q (.exit j) st=if j=i then Q .normal st else Q (.exit j) st:=kW rfl
end
attribute [irreducible] vc
end
end Go.Eng
end
section
namespace Go.Eng
variable [ba]
section
variable {k_:Tk} {m:Bool} {P:Program} {tt:Table} {ρ:Option Nat} {n0:Nat} {st:St} {Q:Exit→St→Prop} {n:Nat} {ws o9:List (Nat×V)} {mem lC:List bf}
theorem GD (ht:TT P tt) {sp:List Nat} {y:Code} (e:Exit) (s:St) (h:gS (fun s=>vc m P tt sp ρ n0 y s Q) Q e s):gS (fun s=>X k_ m P ρ n0 y s Q) Q e s:=by cases e with|normal=>exact vx (k_:=k_) ht h|_=>exact h
theorem sq (ht:TT P tt) (sp:List Nat) {x y:Code} (h:vc m P tt sp ρ n0 x st (gS (fun s=>vc m P tt sp ρ n0 y s Q) Q)):X k_ m P ρ n0 (.seq x y) st Q:=C2 ((vx ht h).mono (GD ht))
theorem yP (ht:TT P tt) {id:Nat} {ops:Array Oper} (h:tF m P tt ops.toList ops.toList st (Q .normal)):X k_ m P ρ n0 (.region id ops false) st Q:=AM ht h
theorem qv {c:Code} {k j:Nat} (hl:xp n0 k n ws mem st) (h:lx P ρ n0 c j ⟨W n ws,mem⟩ Q):lx P ρ n0 c j st Q:=by cases j with|zero=>exact h.elim|succ j=>exact Ji (k_:=.b) (m:=true) hl h
theorem ZW {α:Type} (F:α→List (Nat×V)) (M:α→List bf) (μ:α→Nat) (Inv:α→Prop) (a0:α) (k:Nat) {c:Code} (h0:xp n0 k n (F a0) (M a0) st) (hi:Inv a0)
  (step:∀ a,Inv a→X k_ m P ρ n0 c ⟨W n (F a),M a⟩ (gS (fun s=>∃ a',Inv a'∧μ a'<μ a∧xp n0 k n (F a') (M a') s) Q)):X k_ m P ρ n0 (.loop c) st Q:=by cases m with|true =>((have key:∀ (j:Nat) (a:α),Inv a→μ a=j→lx P ρ n0 c (j+1) ⟨W n (F a),M a⟩ Q:=by intro j;induction j using Nat.strongRecOn with|_ j ih =>intro a hi hj;refine dS.mono (step a hi) fun e s h=>?_;cases e with|normal =>obtain⟨a',h1,h2,h3⟩:=h;exact qv h3 (uB (by omega) (ih _ (by omega) a' h1 rfl))|_=>exact h);exact rP _ (qv h0 (key _ a0 hi rfl)))|false =>(have key:∀ (j:Nat) (a:α),Inv a→μ a=j→∃ (e:Exit) (s:St),Q e s∧∀ Q':Exit→St→Prop,Q' e s→∃ i,lx P ρ n0 c i ⟨W n (F a),M a⟩ Q':=by intro j;induction j using Nat.strongRecOn with|_ j ih =>intro a hi hj;obtain⟨e,s,hq,h⟩:=step a hi;cases e with|normal =>obtain⟨a',h1,h2,h3⟩:=hq;obtain⟨e2,s2,mi,h5⟩:=ih _ (by omega) a' h1 rfl;refine⟨e2,s2,mi,fun Q' h'=>?_⟩;obtain⟨i,h6⟩:=h5 Q' h';exact⟨i+1,h _ (qv h3 h6)⟩|_=>exact⟨_,s,hq,fun Q' h'=>⟨1,h (gS (fun st'=>lx P ρ n0 c 0 st' Q') Q') h'⟩⟩);obtain⟨e,s,hq,h⟩:=key _ a0 hi rfl;refine⟨e,s,hq,fun Q' h'=>?_⟩;obtain⟨j,hj⟩:=h Q' h';exact rP j (qv h0 hj)
theorem nM (ht:TT P tt) (sp:List Nat) {α:Type} (F:α→List (Nat×V)) (M:α→List bf) (μ:α→Nat) (Inv:α→Prop) (a0:α) (k:Nat) {c:Code} (h0:xp n0 k n (F a0) (M a0) st) (hi:Inv a0)
  (step:∀ a,Inv a→∀ K:St→Prop,(∀ s,(∃ a',Inv a'∧μ a'<μ a∧xp n0 k n (F a') (M a') s)→K s)→vc m P tt sp ρ n0 c ⟨W n (F a),M a⟩ (gS K Q)):X k_ m P ρ n0 (.loop c) st Q:=ZW F M μ Inv a0 k h0 hi fun a h=>vx ht (step a h _ fun _ h=>h)
def pk (ws:List (Nat×V)):List Nat→List (Nat×V)
 | []=>[]
 | k :: r=>(k,lk k ws) :: pk ws r
def zk:List Nat→List V→List (Nat×V)→List (Nat×V)
 | t :: ts,v :: vs,r=>(t,v) :: zk ts vs r
 | _,_,r=>r
theorem ZX {ks:List Nat}:M4 ws (pk ws ks):=by induction ks with|nil=>trivial|cons k r ih=>exact⟨rfl,ih⟩
theorem GF {k:Nat} {p:Nat×V}:QA k (p :: ws)=(aI k p.2&&QA k ws):=aeT rfl
theorem Lm {k:Nat}:QA k []=true:=aeT rfl
theorem ZY (ht:TT P tt) (sp:List Nat) (ts:List Nat) (T5:List V) (k:Nat) (ks:List Nat) (μ:List V→Nat) (Inv:List V→Prop) {c:Code} (hn:n0≤k) (h0:M4 o9 (zk ts T5 (pk o9 ks))∧QA k (zk ts T5 (pk o9 ks))=true∧(lC.take k).all (aL k)=true) (hi:Inv T5)
  (step:∀ vs,Inv vs→∀ K:St→Prop,(∀ s,(∃ vs',Inv vs'∧μ vs'<μ vs∧xp n0 k n (zk ts vs' (pk o9 ks)) (lC.take k) s)→K s)→vc m P tt sp ρ n0 c ⟨W n (zk ts vs (pk o9 ks)),lC.take k⟩ (gS K Q)):X k_ m P ρ n0 (.loop c) ⟨W n o9,lC⟩ Q :=
 nM ht sp (fun vs=>zk ts vs (pk o9 ks)) (fun _=>lC.take k) μ Inv T5 k (eU hn ⟨h0.1,h0.2.1,h0.2.2,rfl⟩) hi step
def lS (ws:List (Nat×V)):List Nat→List V
 | []=>[]
 | t :: r=>lk t ws :: lS ws r
theorem Er:∀ {ts:List Nat} {r:List (Nat×V)},M4 ws r→M4 ws (zk ts (lS ws ts) r)
 | [],r,h=>h
 | t :: ts,r,h=>⟨rfl,Er h⟩
theorem iz (ht:TT P tt) (sp:List Nat) (ts:List Nat) (k:Nat) (ks:List Nat) (μ:List V→Nat) (Inv:List V→Prop) {c:Code} (hn:n0≤k) (h0:QA k (zk ts (lS o9 ts) (pk o9 ks))=true∧(lC.take k).all (aL k)=true) (hi:Inv (lS o9 ts))
  (step:∀ vs,Inv vs→∀ K:St→Prop,(∀ s,(∃ vs',Inv vs'∧μ vs'<μ vs∧xp n0 k n (zk ts vs' (pk o9 ks)) (lC.take k) s)→K s)→vc m P tt sp ρ n0 c ⟨W n (zk ts vs (pk o9 ks)),lC.take k⟩ (gS K Q)):X k_ m P ρ n0 (.loop c) ⟨W n o9,lC⟩ Q :=
 ZY ht sp ts (lS o9 ts) k ks μ Inv hn ⟨Er ZX,h0⟩ hi step
theorem oU {ts ks:List Nat} {k j:Nat} {Inv:List V→Prop} {μ:List V→Nat} {T6:List (Nat×V)} {QD:List bf} (hn:n0≤k) (h:M4 T6 (pk o9 ks)∧QA k (zk ts (lS T6 ts) (pk o9 ks))=true∧(lC.take k).all (aL k)=true∧QD.take k=lC.take k) (hi:Inv (lS T6 ts)) (hm:μ (lS T6 ts)<j) :
  ∃ vs',Inv vs'∧μ vs'<j∧xp n0 k n (zk ts vs' (pk o9 ks)) (lC.take k) ⟨W n T6,QD⟩:=⟨_,hi,hm,eU hn ⟨Er h.1,h.2⟩⟩
theorem mN {ts ks:List Nat} {k:Nat} {Inv:List V→Prop} {T6:List (Nat×V)} {QD:List bf} (hn:n0≤k) (h:M4 T6 (pk o9 ks)∧QA k (zk ts (lS T6 ts) (pk o9 ks))=true∧(lC.take k).all (aL k)=true∧QD.take k=lC.take k) (hi:Inv (lS T6 ts)) :
  ∃ vs',Inv vs'∧xp n0 k n (zk ts vs' (pk o9 ks)) (lC.take k) ⟨W n T6,QD⟩:=⟨_,hi,eU hn ⟨Er h.1,h.2⟩⟩
theorem mC (ht:TT P tt) (sp:List Nat) (ts:List Nat) (k:Nat) (ks:List Nat) (Inv:List V→Prop) {x y:Code}
  (h1:∀ K:St→Prop,(∀ s,(∃ vs,Inv vs∧xp n0 k n (zk ts vs (pk o9 ks)) (lC.take k) s)→K s)→vc m P tt sp ρ n0 x ⟨W n o9,lC⟩ (gS K Q))
  (h2:∀ vs,Inv vs→vc m P tt sp ρ n0 y ⟨W n (zk ts vs (pk o9 ks)),lC.take k⟩ Q):X k_ m P ρ n0 (.seq x y) ⟨W n o9,lC⟩ Q:=by refine C2 ((vx ht (h1 _ fun _ h=>h)).mono fun e s h=>?_);cases e with|normal =>obtain⟨vs,hv,hl⟩:=h;exact Ji (k_:=k_) hl (vx ht (h2 vs hv))|_=>exact h
theorem sk (ht:TT P tt) (sp:List Nat) {α:Type} (F:α→List (Nat×V)) (M:α→List bf) (k:Nat) (Inv:α→Prop) {x y:Code}
  (h1:∀ K:St→Prop,(∀ s,(∃ a,Inv a∧xp n0 k n (F a) (M a) s)→K s)→vc m P tt sp ρ n0 x st (gS K Q))
  (h2:∀ a,Inv a→vc m P tt sp ρ n0 y ⟨W n (F a),M a⟩ Q):X k_ m P ρ n0 (.seq x y) st Q:=by refine C2 ((vx ht (h1 _ fun _ h=>h)).mono fun e s h=>?_);cases e with|normal =>obtain⟨a,hv,hl⟩:=h;exact Ji (k_:=k_) hl (vx ht (h2 a hv))|_=>exact h
def QE (_:Tk) (P:Program) (f:FuncId) (o:Option (List V)) (st:St) (dst:Option Tmp) (Q:St→Prop):Prop:=∃ vs' r,o=some vs'∧D6 P f vs' r∧Q (st.put dst r)
def ZZ (_:Tk) (P:Program) (f:FuncId) (o:Option (List V)) (st:St) (key:Nat) (dst:Option Tmp) (Q:St→Prop):Prop:=∃ vs' e rs,o=some vs'∧Ak P f vs' e rs∧Q (Al st key dst e rs)
def QF (_:Tk) (P:Program) (f:FuncId) (vs:List V) (o:Option (List V)) (keys:List (Nat×Nat)) (st:St) (dst:Option Tmp) (Q:St→Prop):Prop:=(∃ vs' r,o=some vs'∧bJ P f vs' r∧Q ({ st with mem:=gQ st.mem keys r }.put dst r))∨∃ r m',bo P f vs st.mem r m'∧Q ({ st with mem:=m' }.put dst r)
def Z0 (_:Tk) (fl:Bool) (P:Program) (f:FuncId) (vs:List V) (k:Nat) (st:St) (dst:Option Tmp) (Q:St→Prop):Prop:=PM fl P f vs k st dst Q
def QG (P:Program) (tt:Table) (o:Oper) (Ck st:St) (Q:St→Prop):Prop :=
 match o.op with
 | .call { callee:=.value f,args:=xs,.. }=>bq tk (c6 (Ck.eval f) (xs.toList.map Ck.eval)) fun p=>QE tk P p.1 (ij [] p.2) st o.dst Q
 | _=>bq tk (yO P tt o Ck) fun v=>Q (st.put o.dst v)
def aaa (P:Program) (o:Oper) (key:Nat) (st:St) (Q:St→Prop):Prop :=
 match o.op with
 | .call { callee:=.value f,args:=xs,.. }=>bq tk (c6 (st.eval f) (xs.toList.map st.eval)) fun p=>ZZ tk P p.1 (ij [] p.2) st key o.dst Q
 | _=>False
def zG (P:Program) (o:Oper) (st:St) (Q:St→Prop):Prop :=
 match o.op with
 | .call { callee:=.value f,args:=xs,.. }=>bq tk (c6 (st.eval f) (xs.toList.map st.eval)) fun p=>QF tk P p.1 p.2 (ij st.mem p.2) (p.2.flatMap gq) st o.dst Q
 | _=>False
def eG (fl:Bool) (P:Program) (tt:Table) (o:Oper) (k:Nat) (st:St) (Q:St→Prop):Prop :=
 match o.op with
 | .call { callee:=.value f,args:=xs,.. }=>bq tk (c6 (st.eval f) (xs.toList.map st.eval)) fun p=>Z0 tk fl P p.1 p.2 k st o.dst Q
 | _=>bq tk (rb tt k o st) fun mem=>Q ({ st with mem:=mem }.put o.dst (.sc undef))
def QH (P:Program) (tt:Table) (base:Nat) (o:Oper) (p:Pl) (st:St) (Q:St→Prop):Prop:=match p.cls with
 | .n=>QG P tt o { st with mem:=[] } st Q
 | .r=>QG P tt o { st with mem:=eg (p.mask.map (base + ·)++p.abs) st.mem } st Q
 | .a=>isHole st.mem (base+p.key)=true∧nq tk (gv tt o (base+p.key) st) (fun q=>Q ({ st with mem:=st.mem.set (base+p.key) q.1 }.put o.dst q.2)) (aaa P o (base+p.key) st Q)
 | .w=>isHole st.mem (base+p.key)=true∧bq tk (nY P tt (base+p.key) o st) fun q=>Q ({ st with mem:=q.1 }.put o.dst q.2)
 | .s=>bq tk (rb tt (base+p.key) o st) fun mem=>Q ({ st with mem:=mem }.put o.dst (.sc undef))
 | .b=>bq tk (nJ tt o { st with mem:=eg (p.mask.map (base + ·)) st.mem }) fun v=>Q (st.put o.dst v)
 | .z=>zG P o st Q
 | .e=>eG (!p.mask.isEmpty) P tt o p.key st Q
theorem aab {all:Array Oper} {base:Nat} {o:Oper} {p:Pl} {Q:St→Prop} (hw:fC all st.fr o=some true) (h:QH P tt base o p st Q):fq P tt all base o p st Q:=by
 have hv:∀ {Ck:St},QG P tt o Ck st Q→oS P tt o Ck st Q:=fun {Ck} h=>by unfold QG at h;unfold oS;split at h;(·rename_i f xs ts jv;rw [jv];dsimp only;rw [kG] at h;obtain⟨⟨g,vs⟩,h1,h2⟩:=h;rw [h1];exact h2);rename_i jv;split;(·rename_i f xs ts aac;exact (jv f xs ts aac).elim);rw [kG] at h;obtain⟨v,h1,h2⟩:=h;rw [h1];exact h2
 unfold QH at h;unfold fq;rw [hw];dsimp only;split at h <;> (rename_i hc;rw [hc];dsimp only);·exact hv h
 ·exact hv h
 ·refine⟨h.1,?_⟩;have h:=h.2;cases hn:gv tt o (base+p.key) st with|some q=>rw [hn,vO] at h;exact h|none =>rw [hn,vP] at h;dsimp only;unfold aaa at h;unfold uC;split at h;(·rename_i jv;rw [jv];dsimp only;rw [kG] at h;obtain⟨⟨g,vs⟩,h1,h2⟩:=h;rw [h1];exact h2);exact h.elim
 ·refine⟨h.1,?_⟩;have h:=h.2;rw [kG] at h;obtain⟨q,h1,h2⟩:=h;rw [h1];exact h2
 ·rw [kG] at h;obtain⟨q,h1,h2⟩:=h;rw [h1];exact h2
 ·rw [kG] at h;obtain⟨q,h1,h2⟩:=h;rw [h1];exact h2
 ·unfold zG at h;unfold oo;split at h;(·rename_i jv;rw [jv];dsimp only;rw [kG] at h;obtain⟨⟨g,vs⟩,h1,h2⟩:=h;rw [h1];exact h2);exact h.elim
 unfold eG at h;unfold vt;split at h;·rename_i jv;rw [jv];dsimp only;rw [kG] at h;obtain⟨⟨g,vs⟩,h1,h2⟩:=h;rw [h1];exact h2
 rename_i jv;rw [kG] at h;obtain⟨m,h1,h2⟩:=h;split;·rename_i f xs ts aac;exact (jv _ _ _ aac).elim
 rw [h1];exact h2
def GG (P:Program) (tt:Table) (all:List Oper) (base:Nat):List Oper→List Pl→St→(St→Prop)→Prop
 | [],_,st,K=>K st
 | o :: r,p :: ps,st,K=>gd all o st (fun st=>QH P tt base o p st fun st'=>GG P tt all base r ps st' K) (fun st=>GG P tt all base r ps (st.put o.dst (.sc undef)) K)
 | _ :: _,[],_,_=>False
theorem aad {all:List Oper} {base:Nat} {ps:List Pl} {K:St→Prop}:GG P tt all base [] ps ⟨W n ws,mem⟩ K=K ⟨W n ws,mem⟩:=kW rfl
theorem aae {all:List Oper} {base:Nat} {o:Oper} {r:List Oper} {p:Pl} {ps:List Pl} {K:St→Prop}:GG P tt all base (o :: r) (p :: ps) ⟨W n ws,mem⟩ K=gd all o ⟨W n ws,mem⟩ (fun st=>QH P tt base o p st fun st'=>GG P tt all base r ps st' K) (fun st=>GG P tt all base r ps (st.put o.dst (.sc undef)) K):=kW rfl
theorem zp {all:Array Oper} {base:Nat} {Q:St→Prop}:∀ (l:List Oper) (ps:List Pl) (st:St),GG P tt all.toList base l ps st Q→runM P tt all base l ps st Q
 | [],ps,st,h=>h
 | o :: r,[],st,h=>h.elim
 | o :: r,p :: ps,st,h=>by
  rw [runM]
  rcases XE (show gd all.toList o st _ _ from h) with ⟨hw,h⟩|⟨hw,h⟩
  ·have h:=aab hw h
   by_cases hz:p.cls = .z
   ·unfold fq at h ⊢
    rw [hw,hz] at h ⊢
    exact Am h fun s hs=>zp r ps s hs
   obtain⟨v,m,h1,h2⟩:=(jm hz).1 h
   exact (jm hz).2 ⟨v,m,h1,zp r ps _ h2⟩
  unfold fq
  rw [hw]
  exact zp r ps _ h
theorem ga (ht:TT P tt) (hm:P.follows .mixedOrders=true) (plan:List Pl) (j:Nat) {id:Nat} {ops:Array Oper} (jH:yi ops plan=true) (h:GG P tt ops.toList st.mem.length ops.toList plan { st with mem:=st.mem++List.replicate j .hole } (Q .normal)):X k_ m P ρ n0 (.region id ops true) st Q:=by
 have h:=zp _ _ _ h;cases m;·obtain⟨s,h1,h2⟩:=zo _ _ _ h;exact⟨.normal,s,h1,fun Q' h'=>pD ht hm plan j jH (h2 _ h')⟩
 exact pD ht hm plan j jH h
section
variable {k:Tk} {f:FuncId} {vs vs':List V} {o:Option (List V)} {keys:List (Nat×Nat)} {dst:Option Tmp} {Q:St→Prop}
theorem cF {R:V→Prop} (hr:∃ v,R v∧bJ P f vs' v) (h:∀ v,R v→Q ({ st with mem:=gQ st.mem keys v }.put dst v)):si k m P f vs (some vs') keys st dst Q:=by obtain⟨v,h1,h2⟩:=hr;exact .inl ⟨vs',v,rfl,h2,h v h1⟩
theorem cN {R:V→Prop} (hr:∃ v,R v∧rL P f vs v) (h:∀ v,R v→Q (st.put dst v)):si k m P f vs o keys st dst Q:=by obtain⟨v,h1,h2⟩:=hr;exact .inr (.inr (.inr ⟨v,h2,h v h1⟩))
theorem cW {R:V→List bf→Prop} (hr:∃ v m',R v m'∧bo P f vs st.mem v m') (h:∀ v m',R v m'→Q ({ st with mem:=m' }.put dst v)):si k m P f vs o keys st dst Q:=by obtain⟨v,m',h1,h2⟩:=hr;exact .inr (.inl ⟨v,m',h2,h v m' h1⟩)
theorem cS {R:V→Prop} (hr:∃ v,R v∧bo P f vs st.mem v st.mem) (h:∀ v,R v→Q (st.put dst v)):si k m P f vs o keys st dst Q:=by obtain⟨v,h1,h2⟩:=hr;exact .inr (.inl ⟨v,_,h2,h v h1⟩)
theorem cG {R:V→Prop} (hr:∃ v,R v∧bJ P f vs' v) (h:∀ v,R v→Q (st.put dst v)):QE k P f (some vs') st dst Q:=by obtain⟨v,h1,h2⟩:=hr;exact⟨vs',v,rfl,.inl h2,h v h1⟩
theorem xq {R:V→List bf→Prop} {o:Option (List V)} (hr:∃ v m',R v m'∧bo P f vs st.mem v m') (h:∀ v m',R v m'→Q ({ st with mem:=m' }.put dst v)):QF k P f vs o keys st dst Q:=by obtain⟨v,m',h1,h2⟩:=hr;exact .inr ⟨v,m',h2,h v m' h1⟩
end
def Cm:Nat→List V→List (Nat×V)
 | i,v :: vs=>(i,v) :: Cm (i+1) vs
 | _,[]=>[]
theorem Ln:∀ (vs:List V) (i t:Nat),lk t (Cm i vs)=if i≤t then vs.getD (t-i) .undef else .undef
 | [],i,t=>by simp [Cm,lk]
 | v :: vs,i,t=>by
  simp only [Cm,lk]
  rw [Ln vs (i+1) t]
  by_cases h:i=t
  ·subst h;simp
  rw [if_neg h]
  by_cases h2:i+1≤t
  ·rw [if_pos h2,if_pos (by omega),show t-i=(t-(i+1))+1 by omega];simp
  rw [if_neg h2,if_neg (by omega)]
theorem Lo {fn:Func} {args:List V} {c:Code} (hn:fn.ntmps=n) (hl:args.length≤n) (h:X k_ m P ρ n0 c ⟨W n (Cm 0 args),mem⟩ Q):X k_ m P ρ n0 c (cK fn args mem) Q:=by
 refine QB (st':=⟨W n (Cm 0 args),mem⟩) (fun E w a hs=>⟨hs.F,hs.lt,hs.mem,hs.top,hs.dI,hs.apart,?_⟩) h;have hr:=hs.fr;simp only [cK,hn] at hr;refine⟨by rw [← hr.1,sj,ae,List.length_replicate];omega,fun i v x hv hx=>?_⟩;rw [AL] at hv;split at hv;·rename_i hi;cases hv;rw [Ln,if_pos (ck _),asl,ey];cases ha:args[i]? with|none=>exact .undef _ _|some v=>exact hr.2 i v x (by rw [bh (aA.1 ha).1];exact ha) hx
 cases hv
def aaf (R:V→Prop) (o:Option V):Prop:=∃ r,R r∧o=some r
theorem M7 {R:V→Prop} {v:V}:aaf R (some v)=R v:=propext ⟨fun ⟨_,h,e⟩=>by cases e;exact h,fun h=>⟨v,h,rfl⟩⟩
def ae3 (R:V→Prop) (tt:Table) (rs:Array ResultVar) (e:Exit) (s:St):Prop:=(e = .ret∨e = .normal)∧aaf R (qZ tt rs s)
theorem QI {R:V→Prop} {rs:Array ResultVar}:ae3 R tt rs .ret ⟨W n ws,mem⟩=aaf R (qZ tt rs ⟨W n ws,mem⟩):=propext ⟨fun h=>h.2,fun h=>⟨.inl rfl,h⟩⟩
def Ve (R:V→List bf→Prop) (k:Nat) (o:Option V) (mem:List bf):Prop:=∃ r,R r mem∧o=some r∧aI k r=true∧mem.all (aL k)=true
theorem M8 {R:V→List bf→Prop} {k:Nat} {v:V}:Ve R k (some v) mem=(R v mem∧aI k v=true∧mem.all (aL k)=true):=propext ⟨fun ⟨_,h,e,h2⟩=>by cases e;exact⟨h,h2⟩,fun ⟨h,h2⟩=>⟨v,h,rfl,h2⟩⟩
def Vf (R:V→List bf→Prop) (k:Nat) (tt:Table) (rs:Array ResultVar) (e:Exit) (s:St):Prop:=(e = .ret∨e = .normal)∧Ve R k (oQ tt rs s) (s.mem.take k)
theorem QJ {R:V→List bf→Prop} {k:Nat} {rs:Array ResultVar}:Vf R k tt rs .ret ⟨W n ws,mem⟩=Ve R k (oQ tt rs ⟨W n ws,mem⟩) (mem.take k):=propext ⟨fun h=>h.2,fun h=>⟨.inl rfl,h⟩⟩
theorem M9 {R:V→List bf→Prop} {k:Nat} {rs:Array ResultVar}:Vf R k tt rs .normal ⟨W n ws,mem⟩=Ve R k (oQ tt rs ⟨W n ws,mem⟩) (mem.take k):=propext ⟨fun h=>h.2,fun h=>⟨.inr rfl,h⟩⟩
end
section
variable {P:Program} {tt:Table} {f:FuncId} {fn:Func} {body:Code} {args:List V}
theorem jq (ht:TT P tt) (sp:List Nat) (n:Nat) (rs:List ResultVar) {R:V→Prop} (hf:P.funcs[f]?=some fn) (hb:fn.body=some body)
  (fS:∀ (xs:Array Value) (w:World),(callFunc f xs).run P w = .ok (.enter f xs) w) (hn:fn.ntmps=n∧fn.results=rs.toArray∧args.length≤n)
  (h:∀ K:V→Prop,(∀ v,R v→K v)→vc false P tt sp none 0 body ⟨W n (Cm 0 args),[]⟩ (ae3 K tt rs.toArray)):∃ r,R r∧bJ P f args r:=by have h:=h R fun _ h=>h;obtain⟨e,s,⟨h1,r,hr,h2⟩,h3⟩:=Lo (m:=false) hn.1 hn.2.2 (vx (k_:=.b) ht h);exact⟨r,hr,iN ht hf hb fS (h3 _ ⟨h1,by rw [hn.2.1];exact h2⟩)⟩
theorem uJ (ht:TT P tt) (sp:List Nat) (n:Nat) (rs:List ResultVar) {R:V→List bf→Prop} {mem:List bf} (k:Nat) (hk:mem.length≤k) (hf:P.funcs[f]?=some fn) (hb:fn.body=some body)
  (fS:∀ (xs:Array Value) (w:World),(callFunc f xs).run P w = .ok (.enter f xs) w) (hn:fn.ntmps=n∧fn.results=rs.toArray∧args.length≤n)
  (h:∀ K:V→List bf→Prop,(∀ v m',R v m'→K v m')→vc false P tt sp none mem.length body ⟨W n (Cm 0 args),mem⟩ (Vf K k tt rs.toArray)):∃ r m',R r m'∧bo P f args mem r m':=by have h:=h R fun _ _ h=>h;obtain⟨e,s,⟨h1,r,hr,h2,h4⟩,h5⟩:=Lo (m:=false) hn.1 hn.2.2 (vx (k_:=.b) ht h);exact⟨r,_,hr,nI ht k hk hf hb fS (h5 _ ⟨h1,by rw [hn.2.1];exact h2,h4.1,h4.2,rfl⟩)⟩
theorem Na (ht:TT P tt) (sp:List Nat) (n:Nat) (rs:List ResultVar) {R:V→Prop} {mem:List bf} (hf:P.funcs[f]?=some fn) (hb:fn.body=some body)
  (fS:∀ (xs:Array Value) (w:World),(callFunc f xs).run P w = .ok (.enter f xs) w) (hn:fn.ntmps=n∧fn.results=rs.toArray∧args.length≤n)
  (h:∀ K:V→List bf→Prop,(∀ v m',R v∧m'=mem→K v m')→vc false P tt sp none mem.length body ⟨W n (Cm 0 args),mem⟩ (Vf K mem.length tt rs.toArray)):∃ r,R r∧bo P f args mem r mem:=by obtain⟨r,m',⟨hr,rfl⟩,h⟩:=uJ ht sp n rs (R:=fun r m'=>R r∧m'=mem) mem.length (ay _) hf hb fS hn h;exact⟨r,hr,h⟩
end
end Go.Eng
end
section
namespace Go.Eng
variable [ba]
open Go.RowKit (Below)
mutual
def kX (σ:Nat→Nat):V→V
 | .undef=>.undef
 | .sc v=>.sc v
 | .agg cs=>.agg (tG σ cs)
 | .slice rows=>.slice rows
 | .ms b v s l=>.ms (σ b) v s l
 | .ptr b o=>.ptr (σ b) o
 | .gJ b v i o=>.gJ (σ b) v i o
 | .eY cs=>.eY cs
 | .ia f first cap=>.ia f (tG σ first) (tG σ cap)
 | .dR vs=>.dR (tG σ vs)
 | .jK b=>.jK (σ b)
 | .mp b=>.mp (σ b)
 | .gn=>.gn
 | .full rows=>.full rows
def tG (σ:Nat→Nat):List V→List V
 | []=>[]
 | c :: r=>kX σ c :: tG σ r
end
theorem gU (σ:Nat→Nat):∀ l:List V,tG σ l=l.map (kX σ)
 | []=>rfl
 | c :: r=>by rw [tG,gU σ r];rfl
def Co (σ:Nat→Nat):bf→bf
 | .box cs=>.box (tG σ cs)
 | .loop s p fr ps a b=>.loop s p (tG σ fr) ps a b
 | .map dx c=>.map (dx.map fun e=>(e.1,e.2.1,kX σ e.2.2)) c
 | .jg m since seen last=>.jg (σ m) since seen last
 | .nk T kb v l=>.nk T (σ kb) v l
 | B=>B
theorem GH (σ:Nat→Nat) (B:bf):(Co σ B).dI=B.dI:=by cases B <;> rfl
theorem cT.Jk {E:Env} {v:V} {x:Value} (h:cT E v x):∀ {n:Nat} {σ:Nat→Nat} {E2:Env},aI n v=true→(∀ ad y,E.F ad=some y→E2.F ad=some y)→(∀ k v t,k<n→E.cn k v=some t→E2.cn (σ k) v=some t)→cT E2 (kX σ v) x:=by induction h with|undef=>intros;exact .undef _ _|sc=>intros;exact .sc _ _|slice E rows a cap uj ad xf ha lR hz hF h1 hR ih =>intro n σ E2 hb ju hk;exact .slice _ _ _ _ uj ad xf ha lR hz (fun i row j c hi hj=>ju _ _ (hF i row j c hi hj)) h1 fun i row j c hi hj=>(hR i row j c hi hj).mono ⟨ju,fun _ _ _ h=>by cases h⟩|ms E b v s l g e c a cap fg hl h0 u0 =>intro n σ E2 hb ju hk;exact .ms _ _ _ _ _ g e c _ _ (hk _ _ _ (by simpa [aI] using hb) fg) hl h0 u0|iv=>intros;exact .iv _ _ _ _|ptr E b o g e c fg =>intro n σ E2 hb ju hk;exact .ptr _ _ _ g e c (hk _ _ _ (by simpa [aI] using hb) fg)|jK E b l e c fg =>intro n σ E2 hb ju hk;exact .jK _ _ l e c (hk _ _ _ (by simpa [aI] using hb) fg)|mp E b l e c fg =>intro n σ E2 hb ju hk;exact .mp _ _ l e c (hk _ _ _ (by simpa [aI] using hb) fg)|gJ E b v i o g e c fg =>intro n σ E2 hb ju hk;exact .gJ _ _ _ _ _ g e c (hk _ _ _ (by simpa [aI] using hb) fg)|eY E cs ad xf hF hR ih =>intro n σ E2 hb ju hk;exact .eY _ _ _ xf (fun j c hj=>ju _ _ (hF j c hj)) fun j c hj=>(hR j c hj).mono ⟨ju,fun _ _ _ h=>by cases h⟩|gn=>intros;exact .gn _|full E rows a h ih =>intro n σ E2 hb ju hk;exact .full _ _ _ (ih (n:=n) (σ:=σ) rfl ju hk)|agg E cs xs hl hh ih =>intro n σ E2 hb ju hk;rw [aI,fM] at hb;rw [kX,gU];refine .agg _ _ _ (by rw [ax];exact hl) fun i c x hc hx=>?_;rw [aq,aY] at hc;obtain⟨c0,Fl,rfl⟩:=hc;exact ih i c0 x Fl hx (aN.1 hb c0 (aE Fl)) ju hk|dR E cs xs hl hh ih =>intro n σ E2 hb ju hk;rw [aI,fM] at hb;rw [kX,gU];refine .dR _ _ _ (by rw [ax];exact hl) fun i c x hc hx=>?_;rw [aq,aY] at hc;obtain⟨c0,Fl,rfl⟩:=hc;exact ih i c0 x Fl hx (aN.1 hb c0 (aE Fl)) ju hk|ia E f first cap xs ys hx hy h1 h2 YB Fg =>intro n σ E2 hb ju hk;rw [aI,fM,fM,aJ] at hb;rw [kX,gU,gU];refine .ia _ _ _ _ _ _ (by rw [ax];exact hx) (by rw [ax];exact hy) (fun i c x hc hx=>?_) fun i c x hc hx=>?_;(·rw [aq,aY] at hc;obtain⟨c0,Fl,rfl⟩:=hc;exact YB i c0 x Fl hx (aN.1 hb.1 c0 (aE Fl)) ju hk);rw [aq,aY] at hc;obtain⟨c0,Fl,rfl⟩:=hc;exact Fg i c0 x Fl hx (aN.1 hb.2 c0 (aE Fl)) ju hk
theorem cT.vQ {E:Env} {u:V} {x:Value} (h:cT E u x):∀ {v:V} {n:Nat} {σ:Nat→Nat} {E2:Env},u=kX σ v→aI n v=true→(∀ ad y,E.F ad=some y→E2.F ad=some y)→(∀ k v t,k<n→E.cn (σ k) v=some t→E2.cn k v=some t)→cT E2 v x:=by induction h with|undef =>intro v n σ E2 he hb ju hk;cases v <;> simp only [kX,reduceCtorEq] at he;exact .undef _ _|sc =>intro v n σ E2 he hb ju hk;cases v <;> simp only [kX,reduceCtorEq,V.sc.injEq] at he;subst he;exact .sc _ _|slice E rows a cap uj ad xf ha lR hz hF h1 hR ih =>intro v n σ E2 he hb ju hk;cases v <;> simp only [kX,reduceCtorEq,V.slice.injEq] at he;subst he;exact .slice _ _ _ _ uj ad xf ha lR hz (fun i row j c hi hj=>ju _ _ (hF i row j c hi hj)) h1 fun i row j c hi hj=>(hR i row j c hi hj).mono ⟨ju,fun _ _ _ h=>by cases h⟩|ms E b v s l g e c a cap fg hl h0 u0 =>intro v n σ E2 he hb ju hk;cases v <;> simp only [kX,reduceCtorEq,V.ms.injEq] at he;obtain⟨rfl,rfl,rfl,rfl⟩:=he;exact .ms _ _ _ _ _ g e c _ _ (hk _ _ _ (by simpa [aI] using hb) fg) hl h0 u0|iv =>intro v n σ E2 he hb ju hk;cases v <;> simp only [kX,reduceCtorEq,V.ms.injEq] at he;obtain⟨rfl,rfl,rfl,rfl⟩:=he;exact .iv _ _ _ _|ptr E b o g e c fg =>intro v n σ E2 he hb ju hk;cases v <;> simp only [kX,reduceCtorEq,V.ptr.injEq] at he;obtain⟨rfl,rfl⟩:=he;exact .ptr _ _ _ g e c (hk _ _ _ (by simpa [aI] using hb) fg)|jK E b l e c fg =>intro v n σ E2 he hb ju hk;cases v <;> simp only [kX,reduceCtorEq,V.jK.injEq] at he;subst he;exact .jK _ _ l e c (hk _ _ _ (by simpa [aI] using hb) fg)|mp E b l e c fg =>intro v n σ E2 he hb ju hk;cases v <;> simp only [kX,reduceCtorEq,V.mp.injEq] at he;subst he;exact .mp _ _ l e c (hk _ _ _ (by simpa [aI] using hb) fg)|gJ E b v i o g e c fg =>intro v n σ E2 he hb ju hk;cases v <;> simp only [kX,reduceCtorEq,V.gJ.injEq] at he;obtain⟨rfl,rfl,rfl,rfl⟩:=he;exact .gJ _ _ _ _ _ g e c (hk _ _ _ (by simpa [aI] using hb) fg)|eY E cs ad xf hF hR ih =>intro v n σ E2 he hb ju hk;cases v <;> simp only [kX,reduceCtorEq,V.eY.injEq] at he;subst he;exact .eY _ _ _ xf (fun j c hj=>ju _ _ (hF j c hj)) fun j c hj=>(hR j c hj).mono ⟨ju,fun _ _ _ h=>by cases h⟩|full E rows a h ih =>intro v n σ E2 he hb ju hk;cases v <;> simp only [kX,reduceCtorEq,V.full.injEq] at he;subst he;exact .full _ _ _ (ih (v:=.slice rows) (n:=n) (σ:=σ) rfl rfl ju hk)|gn =>intro v n σ E2 he hb ju hk;cases v <;> simp only [kX,reduceCtorEq] at he;exact .gn _|agg E cs xs hl hh ih =>intro v n σ E2 he hb ju hk;cases v <;> simp only [kX,reduceCtorEq,V.agg.injEq] at he;subst he;rw [aI,fM] at hb;rw [gU,ax] at hl;refine .agg _ _ _ hl fun i c x hc hx=>?_;exact ih i (kX σ c) x (by rw [gU,aq,hc];rfl) hx rfl (aN.1 hb c (aE hc)) ju hk|dR E cs xs hl hh ih =>intro v n σ E2 he hb ju hk;cases v <;> simp only [kX,reduceCtorEq,V.dR.injEq] at he;subst he;rw [aI,fM] at hb;rw [gU,ax] at hl;refine .dR _ _ _ hl fun i c x hc hx=>?_;exact ih i (kX σ c) x (by rw [gU,aq,hc];rfl) hx rfl (aN.1 hb c (aE hc)) ju hk|ia E f first cap xs ys hx hy h1 h2 YB Fg =>intro v n σ E2 he hb ju hk;cases v <;> simp only [kX,reduceCtorEq,V.ia.injEq] at he;obtain⟨rfl,rfl,rfl⟩:=he;rw [aI,fM,fM,aJ] at hb;rw [gU,ax] at hx hy;refine .ia _ _ _ _ _ _ hx hy (fun i c x hc hx=>?_) fun i c x hc hx=>?_;(·exact YB i (kX σ c) x (by rw [gU,aq,hc];rfl) hx rfl (aN.1 hb.1 c (aE hc)) ju hk);exact Fg i (kX σ c) x (by rw [gU,aq,hc];rfl) hx rfl (aN.1 hb.2 c (aE hc)) ju hk
theorem cU.Jk {E E2:Env} {vs:List V} {xs:List Value} {n:Nat} {σ:Nat→Nat} (h:cU E vs xs) (hb:vs.all (aI n)=true) (hF:∀ ad y,E.F ad=some y→E2.F ad=some y) (hk:∀ k v t,k<n→E.cn k v=some t→E2.cn (σ k) v=some t):cU E2 (tG σ vs) xs:=by rw [gU];refine⟨by rw [ax];exact h.1,fun i v x hv hx=>?_⟩;rw [aq,aY] at hv;obtain⟨c,hc,rfl⟩:=hv;exact (h.2 i c x hc hx).Jk (aN.1 hb c (aE hc)) hF hk
theorem cU.vQ {E E2:Env} {vs:List V} {xs:List Value} {n:Nat} {σ:Nat→Nat} (h:cU E (tG σ vs) xs) (hb:vs.all (aI n)=true) (hF:∀ ad y,E.F ad=some y→E2.F ad=some y) (hk:∀ k v t,k<n→E.cn (σ k) v=some t→E2.cn k v=some t):cU E2 vs xs:=by rw [gU] at h;refine⟨by have:=h.1;rwa [ax] at this,fun i v x hv hx=>?_⟩;exact (h.2 i (kX σ v) x (by rw [aq,hv];rfl) hx).vQ rfl (aN.1 hb v (aE hv)) hF hk
theorem kc.Jk {E E2:Env} {w w2:World} {k:Nat} {B:bf} {n:Nat} {σ:Nat→Nat} (h:kc E w k B) (gM:k<n) (hb:aL n B=true) (hF:E2.F=E.F) (hk:∀ k v,k<n→E2.cn (σ k) v=E.cn k v) (hw:w2.heap=w.heap):kc E2 w2 (σ k) (Co σ B):=by
 have FU:∀ ad y,E.F ad=some y→E2.F ad=some y:=fun ad y h=>by rw [hF];exact h
 have ib:∀ k v t,k<n→E.cn k v=some t→E2.cn (σ k) v=some t:=fun k v t hn h=>by rw [hk k v hn];exact h
 have hp:E2.pure=E.pure:=Env.Mt hF rfl;cases B with|hole=>(exact fun v=>by rw [hk k v gM];exact h v)|dead=>trivial|box cs =>obtain⟨g,T,xs,h1,h2,h3,h4⟩:=h;exact⟨g,T,xs,ib _ _ _ gM h1,by rw [hw];exact h2,h3.Jk hb FU ib,fun o=>by rw [hF];exact h4 o⟩|rows v e rs =>((rcases h with ⟨h1,h2⟩|⟨g,T,xs,c,h1,h2,h3,h4,h5,h6⟩);(·exact .inl ⟨h1,by rw [hk k v gM];exact h2⟩);exact .inr ⟨g,T,xs,c,ib _ _ _ gM h1,by rw [hw];exact h2,h3,h4,by rw [hp];exact h5,fun o=>by rw [hF];exact h6 o⟩)|rv v e rs =>((rcases h with ⟨h1,h2⟩|⟨g,c,h1,h2,h3⟩);(·exact .inl ⟨h1,by rw [hk k v gM];exact h2⟩);exact .inr ⟨g,c,ib _ _ _ gM h1,h2,by rw [hp,hF];exact h3⟩)|loop s nc fr params assign body =>obtain⟨l,fn,tmps,db,h1,h2,h3,h4⟩:=h;exact⟨l,fn,tmps,db,ib _ _ _ gM h1,by rw [hw];exact h2,h3.Jk hb FU ib,fun o=>by rw [hF];exact h4 o⟩|map dx clock =>obtain⟨g,es,h1,h2,h3,h4⟩:=h;refine⟨g,es,ib _ _ _ gM h1,by rw [hw];exact h2,⟨by rw [ax];exact h3.1,fun i kb e j2 he=>?_⟩,fun o=>by rw [hF];exact h4 o⟩;rw [aq,aY] at j2;obtain⟨q,hq,rfl⟩:=j2;obtain⟨p1,p2,p3⟩:=h3.2 i q e hq he;exact⟨p1,p2,p3.Jk (aN.1 hb q (aE hq)) FU ib⟩|jg m since seen last =>obtain⟨g,gm,e,c,h1,h2,h3,h4⟩:=h;exact⟨g,gm,e,c,ib _ _ _ gM h1,ib _ _ _ (by simpa [aL] using hb) h2,by rw [hw];exact h3,fun o=>by rw [hF];exact h4 o⟩|nk T kb v l =>obtain⟨g,T',p,s,h1,h2,h3,h4,h5⟩:=h;exact⟨g,T',p,s,ib _ _ _ gM h1,by rw [hw];exact h2,h3,h4.Jk (n:=n) (by simpa [aL,aI] using hb) FU ib,fun o=>by rw [hF];exact h5 o⟩|n7 T v O =>((rcases h with ⟨h1,h2⟩|⟨g,cur,c,h1,h2,h3,h4,h5,h6⟩);(·exact .inl ⟨h1,by rw [hk k v gM];exact h2⟩);exact .inr ⟨g,cur,c,ib _ _ _ gM h1,by rw [hw];exact h2,h3,h4,h5,fun o=>by rw [hF];exact h6 o⟩)|mX s pos =>obtain⟨g,h1,h2,h3⟩:=h;exact⟨g,ib _ _ _ gM h1,by rw [hw];exact h2,fun o=>by rw [hF];exact h3 o⟩|nC =>obtain⟨g,h1,h2,h3⟩:=h;exact⟨g,ib _ _ _ gM h1,by rw [hw];exact h2,fun o=>by rw [hF];exact h3 o⟩
theorem kc.vQ {E E2:Env} {w:World} {k:Nat} {B:bf} {n:Nat} {σ:Nat→Nat} (h:kc E w (σ k) (Co σ B)) (gM:k<n) (hb:aL n B=true) (hF:E2.F=E.F) (hk:∀ k v,k<n→E2.cn k v=E.cn (σ k) v):kc E2 w k B:=by
 have FU:∀ ad y,E.F ad=some y→E2.F ad=some y:=fun ad y h=>by rw [hF];exact h
 have ib:∀ k v t,k<n→E.cn (σ k) v=some t→E2.cn k v=some t:=fun k v t hn h=>by rw [hk k v hn];exact h
 have hp:E2.pure=E.pure:=Env.Mt hF rfl;cases B with|hole=>(exact fun v=>by rw [hk k v gM];exact h v)|dead=>trivial|box cs =>obtain⟨g,T,xs,h1,h2,h3,h4⟩:=h;exact⟨g,T,xs,ib _ _ _ gM h1,h2,h3.vQ hb FU ib,fun o=>by rw [hF];exact h4 o⟩|rows v e rs =>((rcases h with ⟨h1,h2⟩|⟨g,T,xs,c,h1,h2,h3,h4,h5,h6⟩);(·exact .inl ⟨h1,by rw [hk k v gM];exact h2⟩);exact .inr ⟨g,T,xs,c,ib _ _ _ gM h1,h2,h3,h4,by rw [hp];exact h5,fun o=>by rw [hF];exact h6 o⟩)|rv v e rs =>((rcases h with ⟨h1,h2⟩|⟨g,c,h1,h2,h3⟩);(·exact .inl ⟨h1,by rw [hk k v gM];exact h2⟩);exact .inr ⟨g,c,ib _ _ _ gM h1,h2,by rw [hp,hF];exact h3⟩)|loop s nc fr params assign body =>obtain⟨l,fn,tmps,db,h1,h2,h3,h4⟩:=h;exact⟨l,fn,tmps,db,ib _ _ _ gM h1,h2,h3.vQ hb FU ib,fun o=>by rw [hF];exact h4 o⟩|map dx clock =>obtain⟨g,es,h1,h2,h3,h4⟩:=h;refine⟨g,es,ib _ _ _ gM h1,h2,⟨by have:=h3.1;rwa [ax] at this,fun i q e hq he=>?_⟩,fun o=>by rw [hF];exact h4 o⟩;obtain⟨p1,p2,p3⟩:=h3.2 i _ e (by rw [aq,hq];rfl) he;exact⟨p1,p2,p3.vQ rfl (aN.1 hb q (aE hq)) FU ib⟩|jg m since seen last =>obtain⟨g,gm,e,c,h1,h2,h3,h4⟩:=h;exact⟨g,gm,e,c,ib _ _ _ gM h1,ib _ _ _ (by simpa [aL] using hb) h2,h3,fun o=>by rw [hF];exact h4 o⟩|nk T kb v l =>obtain⟨g,T',p,s,h1,h2,h3,h4,h5⟩:=h;exact⟨g,T',p,s,ib _ _ _ gM h1,h2,h3,cT.vQ h4 (v:=.ms kb v 0 l) (n:=n) rfl (by simpa [aL,aI] using hb) FU ib,fun o=>by rw [hF];exact h5 o⟩|n7 T v O =>((rcases h with ⟨h1,h2⟩|⟨g,cur,c,h1,h2,h3,h4,h5,h6⟩);(·exact .inl ⟨h1,by rw [hk k v gM];exact h2⟩);exact .inr ⟨g,cur,c,ib _ _ _ gM h1,h2,h3,h4,h5,fun o=>by rw [hF];exact h6 o⟩)|mX s pos =>obtain⟨g,h1,h2,h3⟩:=h;exact⟨g,ib _ _ _ gM h1,h2,fun o=>by rw [hF];exact h3 o⟩|nC =>obtain⟨g,h1,h2,h3⟩:=h;exact⟨g,ib _ _ _ gM h1,h2,fun o=>by rw [hF];exact h3 o⟩
def sn (σ:Nat→Nat):Nat→List bf→List bf→List bf
 | _,[],M=>M
 | i,B :: r,M=>sn σ (i+1) r (M.set (σ i) (Co σ B))
def GI (σ:Nat→Nat) (n:Nat) (bI M:List bf):List bf:=sn σ 0 (bI.take n) M++(bI.drop n).map (Co σ)
theorem jr (σ:Nat→Nat):∀ (l:List bf) (i:Nat) (M:List bf),(sn σ i l M).length=M.length
 | [],_,_=>rfl
 | B :: r,i,M=>by rw [sn,jr σ r];simp
theorem xr (σ:Nat→Nat):∀ (l:List bf) (i:Nat) (M:List bf) (k:Nat),(∀ j,i≤j→j<i+l.length→σ j≠k)→(sn σ i l M)[k]?=M[k]?
 | [],_,_,_,_=>rfl
 | B :: r,i,M,k,h=>by
  rw [sn,xr σ r (i+1) _ k fun j h1 h2=>h j (by omega) (by simp;omega),cD (h i (ay _) (by simp))]
theorem C3 (σ:Nat→Nat):∀ (l:List bf) (i:Nat) (M:List bf) (j:Nat) (B:bf),(∀ a b,i≤a→a<i+l.length→i≤b→b<i+l.length→σ a=σ b→a=b)→i≤j→l[j-i]?=some B→σ j<M.length→(sn σ i l M)[σ j]?=some (Co σ B)
 | [],_,_,_,_,_,_,h,_=>by simp at h
 | C :: r,i,M,j,B,Nb,Ig,h,bQ=>by
  rw [sn]
  by_cases hj:j=i
  ·subst hj
   rw [eI] at h;cases h
   rw [xr σ r (j+1) _ (σ j) fun a h1 h2 e=>by have:=Nb a j (by omega) (by simp;omega) (ay _) (by simp) e;omega]
   rw [bR];simp [bQ]
  refine C3 σ r (i+1) _ j B (fun a b h1 h2 h3 h4=>Nb a b (by omega) (by simp;omega) (by omega) (by simp;omega)) (by omega) ?_ (by simpa using bQ)
  rw [show j-i=(j-(i+1))+1 by omega] at h
  simpa using h
theorem bo.Jk {P:Program} {f:FuncId} {vs:List V} {r:V} {mem bI:List bf} (h:bo P f vs mem r bI) (M:List bf) (σ:Nat→Nat) (n:Nat) (hn:n=mem.length) (hv:vs.all (aI n)=true) (hm:mem.all (aL n)=true) (hr:aI bI.length r=true)
  (hm':bI.all (aL bI.length)=true) (hlen:n≤bI.length) (hσ:∀ i B,mem[i]?=some B→M[σ i]?=some (Co σ B)) (Nb:∀ i j,i<n→j<n→σ i=σ j→i=j) (oL:∀ j,n≤j→σ j=M.length+(j-n)) :
  bo P f (tG σ vs) M (kX σ r) (GI σ n bI M):=by
 subst hn;have hold:∀ i,i<mem.length→σ i<M.length:=fun i hi=>(aA.1 (hσ i _ (au hi))).1;have hL:(GI σ mem.length bI M).length=M.length+(bI.length-mem.length):=by unfold GI;rw [ae,jr,ax,e8]
 have PV:∀ i B,bI[i]?=some B→(GI σ mem.length bI M)[σ i]?=some (Co σ B):=fun i B hi=>by unfold GI;(rcases bS i mem.length with bQ|jL);(·rw [bh (by rw [jr];exact hold i bQ)];refine C3 σ _ 0 M i B (fun a b _ h2 _ h4 he=>?_) (ck _) (by rw [asl,jf bQ];exact hi) (hold i bQ);rw [lg] at h2 h4;exact Nb a b (by omega) (by omega) he);rw [oL i jL,aX (by rw [jr];omega),jr,dQ,aq,auG,show mem.length+(i-mem.length)=i by omega,hi];rfl
 have dy:∀ k,k<M.length→(∀ i,i<mem.length→σ i≠k)→(GI σ mem.length bI M)[k]?=M[k]?:=fun k hk h=>by unfold GI;rw [bh (by rw [jr];exact hk)];exact xr σ _ 0 M k fun j _ h2=>h j (by rw [lg] at h2;omega)
 generalize GI σ mem.length bI M=M' at hL PV dy;refine⟨h.1,fun E w xs hs hx=>?_⟩;have hE0:∀ k v,k<mem.length→(⟨E.F,fun k v=>if k<mem.length then E.cn (σ k) v else none,E.gl⟩:Env).cn k v=E.cn (σ k) v:=fun k v hk=>if_pos hk;have aag:∀ k v,mem.length≤k→(⟨E.F,fun k v=>if k<mem.length then E.cn (σ k) v else none,E.gl⟩:Env).cn k v=none:=fun k v hk=>if_neg (by omega);have Jl:(⟨E.F,fun k v=>if k<mem.length then E.cn (σ k) v else none,E.gl⟩:Env).F=E.F:=rfl;generalize (⟨E.F,fun k v=>if k<mem.length then E.cn (σ k) v else none,E.gl⟩:Env)=E0 at hE0 aag Jl;have oI:∀ k v t,E0.cn k v=some t→k<mem.length∧E.cn (σ k) v=some t:=fun k v t h=>by (rcases bS k mem.length with hk|hk);(·exact⟨hk,by rw [← hE0 k v hk];exact h⟩);rw [aag k v hk] at h;cases h
 have IF:c5 E0 w { tmps := #[],defers:=[] } { fr:=[],mem:=mem } :=
  ⟨fun ad y hy=>hs.F ad y (by rw [← Jl];exact hy),fun k v g e c hk=>hs.lt _ _ _ _ _ (oI _ _ _ hk).2,
   fun k B hk=>(hs.mem _ _ (hσ k B hk)).vQ (aA.1 hk).1 (aN.1 hm B (aE hk)) Jl hE0,
   fun k hk v=>aag k v hk,fun k B hk v hv=>by
    rw [hE0 k v (aA.1 hk).1]
    exact hs.dI _ _ (hσ k B hk) v (by rw [GH];exact hv),
   fun k k' v v' g e c e' c' h1 h2=>by
    obtain⟨p1,p2⟩:=oI _ _ _ h1
    obtain⟨q1,q2⟩:=oI _ _ _ h2
    exact Nb k k' p1 q1 (hs.apart _ _ _ _ _ _ _ _ _ p2 q2),.nil _⟩
 have KG:cU E0 vs xs.toList:=hx.vQ hv (fun ad y hy=>by rw [Jl];exact hy) fun k v t hk h=>by rw [hE0 k v hk];exact h
 refine (h.2 E0 w xs IF KG).mono ?_;rintro en w1 ⟨E1,x,rfl,fK,pY,za⟩;have hA0:∀ i v,i<mem.length→(⟨E1.F,fun K v=>match (List.range mem.length).find? (fun i=>σ i==K) with|some i=>E1.cn i v|none=>if K<M.length then E.cn K v else E1.cn (K-M.length+mem.length) v,E1.gl⟩:Env).cn (σ i) v=E1.cn i v:=fun i v hi=>by show (match (List.range mem.length).find? (fun j=>σ j==σ i) with|some i=>E1.cn i v|none=>_)=_;(have:(List.range mem.length).find? (fun j=>σ j==σ i)=some i:=by cases hf:(List.range mem.length).find? (fun j=>σ j==σ i) with|none =>have:=auL.1 hf i (atJ.2 hi);simp at this|some j =>have h1:=List.find?_some hf;have h2:=atJ.1 (List.mem_of_find?_eq_some hf);rw [Nb j i h2 hi (by simpa using h1)]);rw [this]
 have ud:∀ K,(∀ i,i<mem.length→σ i≠K)→(List.range mem.length).find? (fun i=>σ i==K)=none:=fun K h=>auL.2 fun i hi=>by have:=h i (atJ.1 hi);simpa using this
 have hB:∀ K v,K<M.length→(∀ i,i<mem.length→σ i≠K)→(⟨E1.F,fun K v=>match (List.range mem.length).find? (fun i=>σ i==K) with|some i=>E1.cn i v|none=>if K<M.length then E.cn K v else E1.cn (K-M.length+mem.length) v,E1.gl⟩:Env).cn K v=E.cn K v:=fun K v hK h=>by show (match (List.range mem.length).find? (fun j=>σ j==K) with|some i=>E1.cn i v|none=>_)=_;rw [ud K h];exact if_pos hK
 have Fh:∀ i v,mem.length≤i→(⟨E1.F,fun K v=>match (List.range mem.length).find? (fun i=>σ i==K) with|some i=>E1.cn i v|none=>if K<M.length then E.cn K v else E1.cn (K-M.length+mem.length) v,E1.gl⟩:Env).cn (σ i) v=E1.cn i v:=fun i v hi=>by show (match (List.range mem.length).find? (fun j=>σ j==σ i) with|some i=>E1.cn i v|none=>_)=_;have nV:=oL i hi;rw [ud (σ i) fun j hj e=>by have:=hold j hj;omega];show (if σ i<M.length then E.cn (σ i) v else E1.cn (σ i-M.length+mem.length) v)=_;rw [if_neg (by omega),nV,show M.length+(i-mem.length)-M.length+mem.length=i by omega]
 have Jm:(⟨E1.F,fun K v=>match (List.range mem.length).find? (fun i=>σ i==K) with|some i=>E1.cn i v|none=>if K<M.length then E.cn K v else E1.cn (K-M.length+mem.length) v,E1.gl⟩:Env).F=E1.F:=rfl;generalize (⟨E1.F,fun K v=>match (List.range mem.length).find? (fun i=>σ i==K) with|some i=>E1.cn i v|none=>if K<M.length then E.cn K v else E1.cn (K-M.length+mem.length) v,E1.gl⟩:Env)=E2 at hA0 hB Fh Jm;have hA:∀ i v,E2.cn (σ i) v=E1.cn i v:=fun i v=>by (rcases bS i mem.length with hi|hi);(·exact hA0 i v hi);exact Fh i v hi
 have cl:∀ K,(∃ i,K=σ i)∨(K<M.length∧∀ i,i<mem.length→σ i≠K):=fun K=>by (rcases bS K M.length with hK|hK);(·by_cases h:∃ i,i<mem.length∧σ i=K;(·obtain⟨i,-,hi⟩:=h;exact .inl ⟨i,hi.symm⟩);exact .inr ⟨hK,fun i hi e=>h ⟨i,hi,e⟩⟩);exact .inl ⟨K-M.length+mem.length,by rw [oL _ (by omega)];omega⟩
 have Ae:∀ K v g e c,(∀ i,i<mem.length→σ i≠K)→E.cn K v=some (g,e,c)→∀ k0 v0 e0 c0,E0.cn k0 v0≠some (g,e0,c0):=fun K v g e c hK hb k0 v0 e0 c0 h=>by obtain⟨h1,h2⟩:=oI _ _ _ h;exact hK k0 h1 (hs.apart _ _ _ _ _ _ _ _ _ h2 hb)
 have hle:E.le E2:=⟨fun ad y hy=>by rw [Jm];exact fK.le.F _ _ (by rw [Jl];exact hy),fun K v t hk=>by (rcases cl K with ⟨i,rfl⟩|⟨hK,vR⟩);(·rw [hA i v];(rcases bS i mem.length with hi|hi);(·exact fK.le.cn _ _ _ (by rw [hE0 i v hi];exact hk));rw [hs.top (σ i) (by rw [oL i hi];dsimp only;omega) v] at hk;cases hk);rw [hB K v hK vR];exact hk⟩;refine⟨E2,x,rfl,⟨hle,fun K v g e c hk=>?_,fun ad y hy=>?_,fK.os,fK.tape,fK.output,fK.size,fun b hb dy=>fK.heap b hb fun k v e c h=>dy _ _ _ _ (oI _ _ _ h).2⟩, ⟨fun ad y hy=>pY.F _ _ (by rw [← Jm];exact hy),fun K v g e c hk=>?_,fun K B hk=>?_,fun K hk v=>?_,fun K B hk v hv=>?_,fun K K' v v' g e1 c1 e2 c2 h5 h6=>?_,.nil _⟩,za.Jk hr (fun ad y hy=>by rw [Jm];exact hy) fun k v t _ hk=>by rw [hA];exact hk⟩;·(rcases cl K with ⟨i,rfl⟩|⟨hK,vR⟩);(·rw [hA i v] at hk;(rcases fK.cn _ _ _ _ _ hk with ⟨k0,v0,e0,c0,h⟩|h);(·exact .inl ⟨_,_,_,_,(oI _ _ _ h).2⟩);exact .inr h);rw [hB K v hK vR] at hk;exact .inl ⟨_,_,_,_,hk⟩
 ·rw [Jm] at hy;(rcases fK.F _ _ hy with h|h|⟨k0,v0,e0,c0,h⟩);(·exact .inl (by rw [← Jl];exact h));(·exact .inr (.inl h));exact .inr (.inr ⟨_,_,_,_,(oI _ _ _ h).2⟩)
 ·(rcases cl K with ⟨i,rfl⟩|⟨hK,vR⟩);(·rw [hA i v] at hk;exact pY.lt _ _ _ _ _ hk);rw [hB K v hK vR] at hk;exact qJ (hs.lt _ _ _ _ _ hk) fK.size
 ·(rcases cl K with ⟨i,rfl⟩|⟨hK,vR⟩);(·(have hi:i<bI.length:=by have h1:=(aA.1 hk).1;(rcases bS i mem.length with h2|h2);(·omega);have h3:=oL i h2;dsimp only at h1;omega);have lj:=PV i _ (au hi);rw [hk] at lj;cases lj;exact (pY.mem i _ (au hi)).Jk hi (aN.1 hm' _ (List.getElem_mem hi)) Jm (fun k v _=>hA k v) rfl);dsimp only at hk;rw [dy K hK vR] at hk;refine (hs.mem K B hk).mono hle (fun v hv=>by rw [hB K v hK vR];exact hv) (fun g e c hb=>fK.heap g (hs.lt _ _ _ _ _ hb) fun k0 v0 e0 c0 h=>Ae _ _ _ _ _ vR hb _ _ _ _ h) fun g e c o hb hn=>?_;rw [Jm];cases hy:E1.F ⟨g,o,none⟩ with|none=>rfl|some y =>(rcases fK.F _ _ hy with h|h|⟨k0,v0,e0,c0,h⟩);(·rw [Jl,hn] at h;cases h);(·have:=hs.lt _ _ _ _ _ hb;simp at h;omega);exact absurd h (Ae _ _ _ _ _ vR hb _ _ _ _)
 ·(rcases cl K with ⟨i,rfl⟩|⟨hK,vR⟩);(·rw [hA i v];refine pY.top i ?_ v;dsimp only at hk ⊢;(rcases bS i mem.length with h2|h2);(·have:=hold i h2;omega);have h3:=oL i h2;omega);dsimp only at hk;omega
 ·(rcases cl K with ⟨i,rfl⟩|⟨hK,vR⟩);(·rw [hA i v];(have hi:i<bI.length:=by have h1:=(aA.1 hk).1;(rcases bS i mem.length with h2|h2);(·omega);have h3:=oL i h2;dsimp only at h1;omega);have lj:=PV i _ (au hi);rw [hk] at lj;cases lj;rw [GH] at hv;exact pY.dI i _ (au hi) v hv);rw [hB K v hK vR];dsimp only at hk;rw [dy K hK vR] at hk;exact hs.dI K B hk v hv
 have mixed:∀ i K' v v' g e1 c1 e2 c2,(∀ i,i<mem.length→σ i≠K')→E1.cn i v=some (g,e1,c1)→E.cn K' v'=some (g,e2,c2)→False:=fun i K' v v' g e1 c1 e2 c2 hK' h h'=>by (rcases fK.cn _ _ _ _ _ h with ⟨k0,v0,e0,c0,h0⟩|h0);(·exact absurd h0 (Ae _ _ _ _ _ hK' h' _ _ _ _));have:=hs.lt _ _ _ _ _ h';omega
 rcases cl K with ⟨i,rfl⟩|⟨hK,aah⟩ <;> rcases cl K' with ⟨j,rfl⟩|⟨hK',aai⟩
 ·rw [hA] at h5 h6;rw [pY.apart _ _ _ _ _ _ _ _ _ h5 h6]
 ·rw [hA] at h5;rw [hB K' _ hK' aai] at h6;exact (mixed _ _ _ _ _ _ _ _ _ aai h5 h6).elim
 ·rw [hB K _ hK aah] at h5;rw [hA] at h6;exact (mixed _ _ _ _ _ _ _ _ _ aah h6 h5).elim
 rw [hB K _ hK aah] at h5;rw [hB K' _ hK' aai] at h6;exact hs.apart _ _ _ _ _ _ _ _ _ h5 h6
end Go.Eng
end
section
namespace Go.Eng
variable [ba]
section
variable {P:Program} {ρ:Option Nat} {n0:Nat} {c:Code} {st:St} {Q:Exit→St→Prop}
end
end Go.Eng
end
section
namespace Go.Eng
variable [ba]
section
variable {P:Program} {ρ:Option Nat} {n0:Nat} {Q:Exit→St→Prop} {c:Code} {st:St}
end
end Go.Eng
end
section
namespace Go.Eng
variable [ba]
section
variable {k_:Tk} {m:Bool} {P:Program} {ρ:Option Nat} {n0:Nat} {st:St} {Q:Exit→St→Prop} {n:Nat} {ws:List (Nat×V)} {mem:List bf} {c:Code}
end
end Go.Eng
end
section
namespace Go.Proofs.YtfbbfmcggbapoaaGreatDoor
open Go.Eng
set_option maxHeartbeats 4000000
set_option maxRecDepth 100000
attribute [go_sem] eV cY fC iq St.eval St.put kf lr DK cI dM aU a6 nX Value.oneCell' if_true if_false da af ai apq aC aw ah ma mb List.getD_cons_zero List.getD_cons_succ w6 jz n8 rF s9 iK bm Nat.zero_mul Dx Ui fieldAt pd jl xU atK y5 xV aF cO aut dL jW ck ay true_and and_true and_self eM ix rowsOf ew bu DD Y2 Y3 Y4 Y5 Y6 Y7 Y8 Y9 Za Zb Zc Pf Uz UA fP nD indexAt zS KH DF w4 ru V.cells Fu DA YC c6 b9 atX at2 List.size_toArray auS beq_self_eq_true decide_true decide_false bG a8 oO rN qh mJ j1 lu Un ph rowOf lZ ne_eq not_true_eq_false not_false_eq_true mL mw vl V.sc.injEq Value.bool.injEq vF ab ag gq j5 aet aeu UI UJ UK KF tt3 tt4 tt5 tt9 akz akA akB akC akD akE akF akG akH akI akJ akK akL akM akN akO akP akQ akR akS aeE aeF aeG Qg Xw Xx aeH aeI AF aeJ aeK List.toList_toArray List.append_eq zX Pn Iy WJ nJ eK oo vt x9 oh sd kP Lh fE th gT Qp ZC U3 uG xm Ii ij l0 gP eN runM fq oS yO gv nY rb isHole eg F3 bf.dI uC ZO AL XD sj lk M4 GF Lm pk zk lS gu FT o3 atH Cm aI aV aL ZQ ZR ZS ZT Va En niV QG aaa zG eG QH aad aae Al QC aeY aeZ ae0 ae1 ae2 ak0 ak1 ak2 ak3 ak4 ak5 ak6 ak7 ak8 ak9 ala alb alc ald QI M7 QJ M9 M8 qZ oQ qY uz Iz List.replicate az rG uk
attribute [go_sem ↓] Jj M6 ZV M5 ZU ZM ZN Vd Lk
attribute [go_sem] reduceIte Nat.reduceAdd Nat.reduceLT Nat.reduceLeDiff Nat.reduceMul Nat.reduceEqDiff Nat.reduceSub reduceCtorEq
attribute [go_sem] pN pR ql jC
end Go.Proofs.YtfbbfmcggbapoaaGreatDoor
end
section
namespace Go.Eng
variable [ba]
theorem c5.AN {E:Env} {w:World} {a:Act} {st:St} (hs:c5 E w a st) {b:Nat} {B B':bf} (hm:st.mem[b]?=some B) (Ul:B'.dI=B.dI) (hB:kc E w b B'):c5 E w a { st with mem:=st.mem.set b B' }:=by
 have bQ:b<st.mem.length:=(aA.1 hm).1;refine⟨hs.F,hs.lt,fun k B1 hk=>?_,fun k hk=>hs.top k (by simpa using hk),fun k B1 hk v hv=>?_,hs.apart,hs.fr⟩;·dsimp only at hk;rw [bR] at hk;split at hk;(·rename_i fg;subst fg;cases hk;exact hB);exact hs.mem k B1 hk
 dsimp only at hk;rw [bR] at hk;split at hk;·rename_i fg;subst fg;cases hk;exact hs.dI _ B hm v (by rw [← Ul];exact hv)
 exact hs.dI k B1 hk v hv
theorem c5.snoc {E:Env} {w:World} {a:Act} {st:St} (hs:c5 E w a st) {B:bf} (hB:kc E w st.mem.length B):c5 E w a { st with mem:=st.mem++[B] }:=by
 refine⟨hs.F,hs.lt,fun k B1 hk=>?_,fun k hk=>hs.top k (by dsimp only at hk;rw [ae] at hk;simp at hk;omega),fun k B1 hk v hv=>?_,hs.apart,hs.fr⟩;·dsimp only at hk;rw [n6] at hk;split at hk;(·exact hs.mem k B1 hk);rename_i jL;(have:k-st.mem.length=0:=by have:=(aA.1 hk).1;simpa using this);rw [this] at hk;cases hk;(have:k=st.mem.length:=by omega);subst this;exact hB
 dsimp only at hk;rw [n6] at hk;split at hk;·exact hs.dI k B1 hk v hv
 rename_i jL;exact hs.top k (by omega) v
def kY (O:List UInt8):List V:=O.map fun b=>.sc (.int .u8 (b.toNat:Int))
theorem lD (O:List UInt8):(kY O).length=O.length:=ax _
theorem AO {E:Env} {w:World} {k v:Nat} {T:TypeId} {O:List UInt8} (h:kc E w k (.n7 T v O)):kc E w k (.rows v 1 (kY O)):=by
 rcases h with ⟨rfl,h⟩|⟨g,cur,c,h1,h2,h3,h4,h5,h6⟩
 ·exact .inl ⟨rfl,h⟩
 refine .inr ⟨g,T,cur,c,h1,h2,by rw [h3,rq],by rw [lD];exact h4.1,fun i row hi=>?_,h6⟩;unfold kY at hi;rw [aq] at hi;cases hb:O[i]? with|none=>rw [hb] at hi;cases hi|some b =>rw [hb] at hi;cases hi;refine⟨rfl,fun j c hj=>?_⟩;cases j with|succ j=>simp [V.cells] at hj|zero =>simp only [V.cells,aF,aB] at hj;subst hj;exact⟨_,by dsimp only;rw [rq,jW];exact h5 i b hb,rfl,.sc _ _⟩
theorem GJ {E:Env} {w:World} {k v:Nat} {T:TypeId} {O:List UInt8} (h:kc E w k (.rows v 1 (kY O))) (hT:∀ g c,E.cn k v=some (g,1,c)→∃ cur,w.heap[g]?=some (.cells cur T (0,0))∧cur.size≤maxLen):kc E w k (.n7 T v O):=by
 rcases h with ⟨h,h0⟩|⟨g,T',cur,c,h1,h2,h3,h4,h5,h6⟩
 ·exact .inl ⟨by simpa [kY] using h,h0⟩
 obtain⟨aqn,h7,h8⟩:=hT g c h1;rw [h2] at h7;cases h7;rw [rq] at h3;refine .inr ⟨g,cur,c,h1,h2,h3,⟨by rw [lD] at h4;exact h4,by omega⟩,fun j b hb=>?_,h6⟩;obtain⟨-,h9⟩:=h5 j (.sc (.int .u8 (b.toNat:Int))) (by unfold kY;rw [aq,hb];rfl);obtain⟨x,hx,-,hr⟩:=h9 0 (.sc (.int .u8 (b.toNat:Int))) rfl;dsimp only at hx;rw [rq,jW] at hx;rw [hx,eT hr]
theorem yu (s:ByteArray):(jB s).length=s.size:=by unfold jB;rw [ax,fA];rfl
theorem Vg (O:List UInt8) (s:ByteArray):kY O++jB s=kY (O++s.data.toList):=by unfold kY jB;rw [fF]
theorem cT.uK {E:Env} {k v n:Nat} {x:Value} (h:cT E (.ms k v 0 n) x):(n=0∧x = .slice none 0 0)∨∃ g e c,x = .slice (some ⟨g,0,none⟩) n c∧E.cn k v=some (g,e,c)∧n≤c:=by
 generalize hm:V.ms k v 0 n=m at h;cases h <;> first|(cases hm;done)|skip
 ·cases hm;rename_i g e c a cap hb h0 hl hc;obtain⟨rfl,rfl⟩:=h0 rfl;exact .inr ⟨g,e,_,rfl,hb,hc.1⟩
 cases hm;exact .inl ⟨rfl,rfl⟩
theorem Es {E:Env} {w:World} {k v:Nat} {T:TypeId} {O:List UInt8} {x:Value} (h:kc E w k (.n7 T v O)) (hr:cT E (.ms k v 0 O.length) x):w.ownsRow 0 T 1 x O.length (Lib.byteCells O):=by
 refine⟨by rw [Lib.byteCells_length,rq],?_⟩;rcases hr.uK with ⟨h0,rfl⟩|⟨g,e,c,rfl,hb,hc⟩
 ·exact .inl ⟨rfl,h0⟩
 rcases h with ⟨rfl,h⟩|⟨g',cur,c',h1,h2,h3,h4,h5,h6⟩
 ·rw [h] at hb;cases hb
 rw [h1] at hb;cases hb;refine .inr ⟨g,c,cur,rfl,ck _,h2,h4.1,h4.2,by rw [h3,rq],?_⟩;rw [rq];apply dC;intro j;rw [jV];split;·rename_i hj;have hb:=au hj;have h7:=h5 j _ hb;rw [dJ,h7];simp [Lib.byteCells,hb]
 rename_i hj;rw [cH];rw [Lib.byteCells_length];omega
theorem c5.aaj {P:Program} {tt:Table} (ht:TT P tt) {E:Env} {w:World} {a:Act} {st:St} (hs:c5 E w a st) {k v:Nat} {t e u ty:TypeId} {O:List UInt8} {s:ByteArray} {sv:Value} {it iu:Ti}
  (hT:tt t=some it) (he:it.elem=some e) (hE:tt e=some { size:=1,agg:=false,zero:=[.int .u8 0],bytes:=1 }) (hi:∃ i,P.info? e=some i∧i.zero=some (.int .u8 0)∧i.size=1∧i.bytes=1) (hU:tt u=some iu) (hu1:iu.elem=none) (hu2:uk iu.zero=true) (hu3:iu.agg=false)
  (hm:st.mem[k]?=some (.n7 e v O)) (hsv:cT E (.ms k v 0 O.length) sv) (h0:0<s.size) (hlen:O.length+s.size≤34359738368) :
  ∃ v' w' E',(Builtin.append_ #[t,u] ty #[sv,.string s]).run P w = .ok v' w'∧c5 E' w' a { st with mem:=st.mem.set k (.n7 e (v+1) (O++s.data.toList)) }∧gK E w E' w'∧cT E' (.ms k (v+1) 0 (O.length+s.size)) v':=by
 have bQ:k<st.mem.length:=(aA.1 hm).1;have GK:=hs.mem k _ hm;have sr:=Es GK hsv;have nV:=hs.AN hm (B':=.rows v 1 (kY O)) rfl (AO GK);have aal:eM tt (st.mem.set k (.rows v 1 (kY O))) [t,u] (.ms k v 0 O.length) (.sc (.string s))=some (1,some (k,v),kY O++jB s):=by (have h1:(kY O).length+(jB s).length≤34359738368:=by rw [lD,yu];exact hlen);(have h2:ix (st.mem.set k (.rows v 1 (kY O))) 1 (.ms k v 0 O.length)=some (some (k,v),kY O):=by simp only [ix,eJ bQ,lD,and_self,if_true]);(have h3:rG tt (st.mem.set k (.rows v 1 (kY O))) u 1 (.sc (.string s))=some (jB s):=by simp only [rG,hU,hu1,hu2,hu3,and_self,if_true]);simp only [eM,hT,he,hE,h2,h3,h1,if_true,zX];rfl
 obtain⟨v',w',E',eQ,sZ,fK,j4⟩:=oM ht nV (ts := #[t,u]) (ty:=ty) (key:=st.mem.length) (.inr (by simp)) hsv (.sc _ _) aal;obtain⟨i,wW,OO,Uo,hi4⟩:=hi;obtain⟨d,hd,-,uZ,-⟩:=ht.desc t it hT;have QK:0≤w.heap.size:=ck _;obtain⟨v2,w2,GL,QL,-,-⟩:=Lib.run_append_own_string (P:=P) w 0 t u ty e i (by rw [hd,uZ e he]) (ht.str u iu hU hu2 hu3) wW OO Uo hi4 sv O.length _ sr s (by unfold maxLen;omega) (by omega) QK;rw [eQ] at GL;cases GL;have hn:(kY O++jB s).length=O.length+s.size:=by rw [ae,lD,yu]
 have GM:cT E' (.ms k (v+1) 0 (O.length+s.size)) v':=by have:=j4;simp only [ew,hn] at this;exact this
 refine⟨v',w',E',eQ,?_,fK,GM⟩;have mz:(st.mem.set k (.rows v 1 (kY O))).set k (.rows (v+1) 1 (kY O++jB s))=st.mem.set k (.rows (v+1) 1 (kY (O++s.data.toList))):=by rw [asm,Vg]
 simp only [ew] at sZ;rw [mz] at sZ;have jI:(st.mem.set k (.rows (v+1) 1 (kY (O++s.data.toList))))[k]?=some (.rows (v+1) 1 (kY (O++s.data.toList))):=eJ bQ;have Fk:=sZ.AN jI (B':=.n7 e (v+1) (O++s.data.toList)) rfl (GJ (sZ.mem k _ jI) fun g c hb=>by (rcases GM.uK with ⟨h9,-⟩|⟨g',e',c',rfl,fR,-⟩);(·omega);rw [hb] at fR;cases fR;(rcases QL.2 with ⟨h9,-⟩|⟨g2,alf,aam,h9,-,xe,-,h11,h12,-⟩);(·cases h9);cases h9;exact⟨aam,xe,by omega⟩);dsimp only at Fk;rw [asm] at Fk;exact Fk
theorem c5.Vh {P:Program} {tt:Table} (ht:TT P tt) {E:Env} {w:World} {a:Act} {st:St} (hs:c5 E w a st) {k v:Nat} {t e ty:TypeId} {O:List UInt8} {b:UInt8} {sv:Value} {it:Ti}
  (hT:tt t=some it) (he:it.elem=some e) (hE:tt e=some { size:=1,agg:=false,zero:=[.int .u8 0],bytes:=1 }) (hi:∃ i,P.info? e=some i∧i.zero=some (.int .u8 0)∧i.size=1∧i.bytes=1)
  (hm:st.mem[k]?=some (.n7 e v O)) (hsv:cT E (.ms k v 0 O.length) sv) (hlen:O.length+1≤34359738368) :
  ∃ v' w' E',(Builtin.append_ #[t,t] ty #[sv,.slice (some ⟨w.heap.size,0,none⟩) 1 1]).run P (w.alloc (.cells #[.int .u8 (b.toNat:Int)] e (0,0))) = .ok v' w'∧c5 E' w' a { st with mem:=st.mem.set k (.n7 e (v+1) (O++[b])) }∧gK E w E' w'∧cT E' (.ms k (v+1) 0 (O.length+1)) v':=by
 have bQ:k<st.mem.length:=(aA.1 hm).1;obtain⟨E0,IF,UH,vh⟩:=hs.Gb (xs := #[.int .u8 (b.toNat:Int)]) (rs:=kY [b]) (e:=1) (c:=1) e (by simp [kY]) (fun i row hi=>by cases i with|succ i=>simp [kY] at hi|zero =>simp only [kY,bm,iK,aF,aB] at hi;subst hi;refine⟨rfl,fun j c hj=>?_⟩;cases j with|succ j=>simp [V.cells] at hj|zero =>simp only [V.cells,aF,aB] at hj;subst hj;exact⟨_,rfl,rfl,.sc _ _⟩);have ae5:=hsv.mono UH.le;have GK:=IF.mem k _ hm;have sr:=Es GK ae5;have nV:=IF.AN hm (B':=.rows v 1 (kY O)) rfl (AO GK);have aal:eM tt (st.mem.set k (.rows v 1 (kY O))) [t,t] (.ms k v 0 O.length) (.slice (kY [b]))=some (1,some (k,v),kY O++kY [b]):=by (have h1:(kY O).length+(kY [b]).length≤34359738368:=by rw [lD,lD];exact hlen);(have h2:ix (st.mem.set k (.rows v 1 (kY O))) 1 (.ms k v 0 O.length)=some (some (k,v),kY O):=by simp only [ix,eJ bQ,lD,and_self,if_true]);(have h3:rG tt (st.mem.set k (.rows v 1 (kY O))) t 1 (.slice (kY [b]))=some (kY [b]):=by simp only [rG,hT,he];rfl);simp only [eM,hT,he,hE,h2,h3,h1,if_true,zX];rfl
 obtain⟨v',w',E',eQ,sZ,fK,j4⟩:=oM ht nV (ts := #[t,t]) (ty:=ty) (key:=st.mem.length) (.inr (by simp)) ae5 vh aal;obtain⟨i,wW,OO,Uo,hi4⟩:=hi;obtain⟨d,hd,-,uZ,-⟩:=ht.desc t it hT;have QK:0≤(w.alloc (.cells #[.int .u8 (b.toNat:Int)] e (0,0))).heap.size:=ck _
 obtain⟨v2,w2,GL,QL,-,-⟩:=Go.run_append_own (P:=P) (w:=w.alloc (.cells #[.int .u8 (b.toNat:Int)] e (0,0))) 0 t ty e i (.int .u8 0) 1 1 (by rw [hd,uZ e he]) wW OO Uo hi4 rfl (by omega) sv O.length _ sr ⟨w.heap.size,0,none⟩ 1 1 [.int .u8 (b.toNat:Int)] rfl
  (fun j u hj=>by
   cases j with
   | succ j=>simp at hj
   | zero =>
    simp only [aF,aB] at hj
    subst hj
    exact nd (heap_alloc_new w _) 0) (fun u hu=>by simp only [b8,ef,or_false] at hu;subst hu;rfl) (by unfold maxLen;omega) (by omega) QK
 have hz:(kY [b]).length=1:=rfl;rw [hz] at eQ;rw [eQ] at GL;cases GL;have hn:(kY O++kY [b]).length=O.length+1:=by rw [ae,lD,lD];rfl
 have GM:cT E' (.ms k (v+1) 0 (O.length+1)) v':=by have:=j4;simp only [ew,hn] at this;exact this
 refine⟨v',w',E',eQ,?_,UH.trans fK,GM⟩;have IH:kY O++kY [b]=kY (O++[b]):=by unfold kY;rw [fF]
 have mz:(st.mem.set k (.rows v 1 (kY O))).set k (.rows (v+1) 1 (kY O++kY [b]))=st.mem.set k (.rows (v+1) 1 (kY (O++[b]))):=by rw [asm,IH]
 simp only [ew] at sZ;rw [mz] at sZ;have jI:(st.mem.set k (.rows (v+1) 1 (kY (O++[b]))))[k]?=some (.rows (v+1) 1 (kY (O++[b]))):=eJ bQ;have Fk:=sZ.AN jI (B':=.n7 e (v+1) (O++[b])) rfl (GJ (sZ.mem k _ jI) fun g c hb=>by (rcases GM.uK with ⟨h9,-⟩|⟨g',e',c',rfl,fR,-⟩);(·omega);rw [hb] at fR;cases fR;(rcases QL.2 with ⟨h9,-⟩|⟨g2,alf,aam,h9,-,xe,-,h11,h12,-⟩);(·cases h9);cases h9;exact⟨aam,xe,by omega⟩);dsimp only at Fk;rw [asm] at Fk;exact Fk
theorem c5.fz {E:Env} {w w':World} {a:Act} {st:St} (hs:c5 E w a st) {b v e c g:Nat} {rs:List V} (hm:st.mem[b]?=some (.rv v e rs)) (hb:E.cn b v=some (g,e,c)) (ho:od w w' g) (hF:∀ ad x,w.cell? ad=some x→w'.cell? ad=some x):c5 E w' a st∧gK E w E w':=by
 refine⟨⟨fun ad x hx=>hF ad x (hs.F ad x hx),fun k v g' e' c' hk=>by rw [ho.size];exact hs.lt _ _ _ _ _ hk,fun k B1 hk=>?_,hs.top,hs.dI,hs.apart,hs.fr⟩,
  E.le_refl,fun k v g e c h=>.inl ⟨k,v,e,c,h⟩,fun _ _ h=>.inl h,ho.os,ho.tape,ho.output,by rw [ho.size];exact ay _,fun b' fR dy=>ho.heap b' fun e=>by subst e;exact dy _ _ _ _ hb⟩
 by_cases j2:b=k;·subst j2;rw [hm] at hk;cases hk;exact hs.mem b _ hm
 cases ON:B1.held with|false=>(cases B1 <;> first|exact hs.mem k _ hk|trivial|simp [bf.held] at ON)|true =>refine (hs.mem k B1 hk).mono E.le_refl (fun _ h=>h) (fun g' e' c' fg=>ho.heap _ fun e=>?_) fun _ _ _ _ _ h=>h;subst e;exact j2 (hs.apart _ _ _ _ _ _ _ _ _ hb fg)
theorem c5.aan {E:Env} {w:World} {a:Act} {st:St} (hs:c5 E w a st) {k v:Nat} {T:TypeId} {O:List UInt8} {sv:Value} (hm:st.mem[k]?=some (.n7 T v O)) (h0:O≠[]) (hsv:cT E (.ms k v 0 O.length) sv) :
  ∃ g cap cells E',sv = .slice (some ⟨g,0,none⟩) O.length cap∧cap≠0∧w.shape? g=some (T,cells)∧O.length≤cells∧O.length≤maxLen∧(∀ j x,O[j]?=some x→w.cell? ((⟨g,0,none⟩:Addr).add j)=some (.int .u8 x.toNat)) ∧
   c5 E' (w.drew.freeze ⟨g,0,none⟩ O.length) a { st with mem:=st.mem.set k (.rv v 1 (kY O)) }∧gK E w E' (w.drew.freeze ⟨g,0,none⟩ O.length):=by
 have BU:O.length≠0:=by simpa using h0
 have bQ:k<st.mem.length:=(aA.1 hm).1;have GK:=hs.mem k _ hm;have sr:=Es GK hsv;rcases hsv.uK with ⟨h9,-⟩|⟨g,e,c,rfl,hb,hc⟩
 ·omega
 rcases GK with ⟨h9,-⟩|⟨g',cur,c',h1,h2,h3,h4,h5,h6⟩
 ·exact absurd h9 h0
 rw [h1] at hb;cases hb;have nV:=hs.drew.AN hm (B':=.rows v 1 (kY O)) rfl (AO (hs.drew.mem k _ hm));have jI:(st.mem.set k (.rows v 1 (kY O)))[k]?=some (.rows v 1 (kY O)):=eJ bQ;obtain⟨E',sZ,fK,-⟩:=nV.freeze (vs:=[.ms k v 0 O.length]) (vs':=[.slice (((kY O).drop 0).take O.length)]) (by simp only [ij,l0,eN,jI,lD,dL,ay,and_self,if_true]);have mz:gu (st.mem.set k (.rows v 1 (kY O))) ([V.ms k v 0 O.length].flatMap gq)=st.mem.set k (.rv v 1 (kY O)):=by simp only [ab,ag,gq,j5,ah,gu,o3,atH,FT,jI,if_true,asm]
 dsimp only at sZ;rw [mz] at sZ;have hfz:∀ b,b≠g→(w.drew.freeze ⟨g,0,none⟩ O.length).heap[b]?=w.drew.heap[b]?:=fun b hb=>by unfold World.freeze;rw [if_neg BU];simp only [atD];rw [if_neg (fun e=>hb e.symm)]
 obtain⟨Fk,IG⟩:=sZ.fz (w':=w.drew.freeze ⟨g,0,none⟩ O.length) (b:=k) (eJ bQ) (fK.le.cn _ _ _ h1) ⟨by unfold World.freeze;rw [if_neg BU],by unfold World.freeze;rw [if_neg BU],by unfold World.freeze;rw [if_neg BU],by unfold World.freeze;rw [if_neg BU];simp,hfz⟩ fun ad x hx=>by rw [← hx];by_cases hb:ad.block=g;(·(have h7:(w.drew.freeze ⟨g,0,none⟩ O.length).heap[g]?=some (.cells cur T (0,0+O.length)):=by unfold World.freeze;rw [if_neg BU];simp only [atD,if_true];have h2':w.drew.heap[g]?=some (.cells cur T (0,0)):=h2;rw [h2'];rfl);have h2':w.drew.heap[g]?=some (.cells cur T (0,0)):=h2;simp only [World.cell?,hb,h7,h2']);simp only [World.cell?,hfz _ hb]
 refine⟨g,c,cur.size,E',rfl,by omega,by simp [World.shape?,h2],by omega,by omega,fun j x hx=>?_,Fk,((gK.drew E w).trans fK).trans IG⟩;exact sr.cells (g:=g) rfl j (.int .u8 x.toNat) (by simp [Lib.byteCells,hx])
theorem AP {P:Program} {tt:Table} {ρ:Option Nat} {n0:Nat} {st:St} {Q:Exit→St→Prop} (ht:TT P tt) {id:Nat} {T TE:TypeId} {d:Tmp} {o:Oper} {i:Ti} (ho:o.op = .alloc T) (hd:o.dst=some d) (hg:o.guard=none) (hT:tt T=some i) (hz:i.zero=[.pointer none,.slice none 0 0])
  (h:Q .normal { fr:=st.fr.set d (.ptr st.mem.length 0),mem:=st.mem++[.nk T (st.mem.length+1) 0 0,.n7 TE 0 []] }):dS P ρ n0 (.region id #[o] false) st Q:=fun E0 w0 h0 E w a he hs hm=>by
 obtain⟨dst,op,type,pos,after,guard⟩:=o
 dsimp only at ho hd hg
 subst ho;subst hd;subst hg
 obtain⟨info,wW,-,-,z,YU,CG⟩:=ht.size T i hT
 rw [hz] at CG
 have hzc:z.cells = #[.pointer none,.slice none 0 0]:=by rw [← cr (xs:=z.cells),CG]
 have hk:ir st.mem st.mem.length:=.inr rfl
 have eS:(E.with st.mem.length 0 (w.heap.size,0,0)).cn st.mem.length 0=some (w.heap.size,0,0):=if_pos ⟨rfl,rfl⟩
 obtain⟨h1,h2⟩:=hs.new (obj:=.cells #[.pointer none,.slice none 0 0] T (0,0)) (B:=.nk T (st.mem.length+1) 0 0) (e:=0) (c:=0) hk rfl
  ⟨w.heap.size,T,.pointer none,.slice none 0 0,eS,heap_alloc_new w _,.inl ⟨rfl,rfl⟩,.iv _ _ _ _,fun o=>by
   show E.F _=none
   cases hx:E.F ⟨w.heap.size,o,none⟩ with
   | none=>rfl
   | some x=>have:=World.block_lt_of_cell? w _ (hs.F _ _ hx);simp at this⟩
 have hsm:da st.mem st.mem.length (.nk T (st.mem.length+1) 0 0)=st.mem++[.nk T (st.mem.length+1) 0 0]:=by unfold da;rw [if_neg (apq _)]
 rw [hsm] at h1
 have h3:=h1.snoc (B:=.n7 TE 0 []) (.inl ⟨rfl,h1.top _ (ay _) 0⟩)
 have h4:=h3.put (some d) (v:=.ptr st.mem.length 0) (x:=.pointer (some ⟨w.heap.size,0,none⟩)) (.ptr _ _ _ _ _ _ eS)
 refine wpIn_region ?_
 rw [auf]
 show wpOpsIn (WF ρ) 0 P _ (Uw E0 w0 Q) (List.range' 0 1) a w
 rw [at3,wpOpsIn]
 simp only [auS,aF]
 rw [if_pos (kq hs rfl)]
 refine df (fun c hc=>by cases hc) (v:=.pointer (some ⟨w.heap.size,0,none⟩)) (w':=w.alloc (.cells #[.pointer none,.slice none 0 0] T (0,0))) ?_ ?_
 ·have YV:(zeroValue T).run P w = .ok z w:=by simp [zeroValue,eR wW,YU]
  simp [execOp,Instr.alloc,YV,newVar,newRow,hzc]
 refine⟨_,_,h4,he.trans h2,?_,?_⟩
 ·rw [put_defers];exact hm.PF h2
 simpa [St.put,al] using h
section
variable {k_:Tk} {m:Bool} {P:Program} {tt:Table} {ρ:Option Nat} {n0:Nat} {Q:Exit→St→Prop} {n:Nat} {ws:List (Nat×V)} {mem:List bf}
theorem ae7 (ht:TT P tt) (TE:TypeId) (sp:List Nat) {id:Nat} {T:TypeId} {d:Tmp} {o:Oper} {i:Ti} {y:Code} (ho:o.op = .alloc T) (hd:o.dst=some d) (hg:o.guard=none) (hT:tt T=some i) (hz:i.zero=[.pointer none,.slice none 0 0])
  (h:vc m P tt sp ρ n0 y ⟨W n ((d,.ptr mem.length 0) :: ws),mem++[.nk T (mem.length+1) 0 0,.n7 TE 0 []]⟩ Q):X k_ m P ρ n0 (.seq (.region id #[o] false) y) ⟨W n ws,mem⟩ Q:=by rw [← XD] at h;refine C2 (X.mono (Q:=gS (fun s=>vc m P tt sp ρ n0 y s Q) Q) ?_ (GD ht));cases m with|true=>exact AP ht ho hd hg hT hz h|false=>exact⟨.normal,_,h,fun Q' h'=>AP ht ho hd hg hT hz h'⟩
end
end Go.Eng
end
section
namespace Go.Eng
variable [ba]
open Go.RowKit (Below)
theorem c5.below {E:Env} {w w':World} {a:Act} {st:St} (hs:c5 E w a st) (hb:Below w.heap.size w w'):c5 E w' a st∧gK E w E w':=by
 refine⟨⟨fun ad y hy=>?_,fun k v g e c h=>qJ (hs.lt _ _ _ _ _ h) hb.size,fun k B hk=>?_,hs.top,hs.dI,hs.apart,hs.fr⟩, ⟨E.le_refl,fun k v g e c h=>.inl ⟨k,v,e,c,h⟩,fun _ _ h=>.inl h,hb.os,hb.tape,hb.output,hb.size,fun b bQ _=>hb.block b bQ⟩⟩;·rw [hb.cell (World.block_lt_of_cell? w ad (hs.F ad y hy))];exact hs.F ad y hy
 exact (hs.mem k B hk).mono E.le_refl (fun _ h=>h) (fun g e c h=>hb.block _ (hs.lt _ _ _ _ _ h)) fun _ _ _ _ _ h=>h
end Go.Eng
end
section
namespace Go.Eng
variable [ba]
section
variable {k_:Tk} {m:Bool} {P:Program} {tt:Table} {ρ:Option Nat} {n0:Nat} {st:St} {Q:Exit→St→Prop} {n:Nat} {ws o9:List (Nat×V)} {mem lC:List bf}
inductive aao (P:Program) (tt:Table) (all:Array Oper):List Oper→St→(St→Prop)→Prop
 | fin {l:List Oper} {st:St} {Q:St→Prop} (h:eV P tt all l st Q):aao P tt all l st Q
 | cut {l1 l2:List Oper} {st:St} {Q Z Z':St→Prop} (h1:eV P tt all l1 st Z) (h2:∀ s,Z s→∃ s',Z' s'∧∀ E w a,c5 E w a s→c5 E w a s') (h3:∀ s',Z' s'→aao P tt all l2 s' Q):aao P tt all (l1++l2) st Q
inductive aap (m:Bool) (P:Program) (tt:Table) (all:List Oper):List Oper→St→(St→Prop)→Prop
 | fin {l:List Oper} {st:St} {Q:St→Prop} (h:tF m P tt all l st Q):aap m P tt all l st Q
 | cut {l1 l2:List Oper} {st:St} {Q Z Z':St→Prop} (h1:tF m P tt all l1 st Z) (h2:∀ s,Z s→∃ s',Z' s'∧∀ E w a,c5 E w a s→c5 E w a s') (h3:∀ s',Z' s'→aap m P tt all l2 s' Q):aap m P tt all (l1++l2) st Q
end
end Go.Eng
end
section
namespace Go.Eng
variable [ba]
def C4:List (FuncId×List V×V)→FuncId→List V→Option V
 | [],_,_=>none
 | e :: t,f,vs=>if e.1=f then (if jO e.2.1 vs=true then some e.2.2 else C4 t f vs) else C4 t f vs
theorem bz {P:Program}:qR P (C4 []):=fun f vs r h=>by cases h
theorem iU {P:Program} {f:FuncId} {vs:List V} {r:V} {t:List (FuncId×List V×V)} (h:bJ P f vs r) (ht:qR P (C4 t)):qR P (C4 ((f,vs,r) :: t)):=fun g ws s hs=>by
 unfold C4 at hs;dsimp only at hs;split at hs;·rename_i hf;split at hs;(·rename_i hv;cases hs;rw [← hf,← gg hv];exact h);exact ht g ws s hs
 exact ht g ws s hs
def AQ:List (FuncId×List V×List bf×List (V×List bf))→lA
 | [],_,_,_=>none
 | e :: t,f,vs,mem=>if e.1=f then (if jO e.2.1 vs=true then (if r7 e.2.2.1 mem=true then some e.2.2.2 else AQ t f vs mem) else AQ t f vs mem) else AQ t f vs mem
theorem ny {P:Program}:kg P (AQ []):=fun f vs mem outs h=>by cases h
theorem nN {P:Program} {f:FuncId} {vs:List V} {mem:List bf} {outs:List (V×List bf)} {t:List (FuncId×List V×List bf×List (V×List bf))} (h:jh P f vs mem fun r m=>(r,m)∈outs) (ht:kg P (AQ t)):kg P (AQ ((f,vs,mem,outs) :: t)):=fun g ws m o hs=>by
 unfold AQ at hs;dsimp only at hs;split at hs;·rename_i hf;split at hs;(·rename_i hv;split at hs;(·rename_i hm;cases hs;rw [← hf,← gg hv,← tg hm];exact h);exact ht g ws m o hs);exact ht g ws m o hs
 exact ht g ws m o hs
end Go.Eng
end
section
namespace Go.Eng
variable [ba]
section
variable {k_:Tk} {m:Bool} {P:Program} {ρ:Option Nat} {n0:Nat} {Q:Exit→St→Prop} {n:Nat} {ws:List (Nat×V)} {mem:List bf} {c:Code}
end
end Go.Eng
end
section
namespace Go.Eng
variable [ba]
theorem jh.CZ {P:Program} {f:FuncId} {vs:List V} {mem:List bf} {R R':V→List bf→Prop} (h:jh P f vs mem R)
  (step:∀ r m,R r m→∃ v' m2,R' v' (m2.take mem.length)∧aI mem.length v'=true∧(m2.take mem.length).all (aL mem.length)=true ∧
   ∀ (E:Env) (w:World) (x:Value),c5 E w { tmps := #[],defers:=[] } { fr:=[],mem:=m }→cT E r x→∃ E2,c5 E2 w { tmps := #[],defers:=[] } { fr:=[],mem:=m2 }∧gK E w E2 w∧cT E2 v' x):jh P f vs mem R':=by
 refine⟨h.1,fun E w xs hs hx=>(h.2 E w xs hs hx).mono ?_⟩;rintro e w' ⟨E',x,r,m,rfl,hR,fK,pY,j4⟩;obtain⟨v',m2,hR',hv,hm,st⟩:=step r m hR;obtain⟨E2,s2,ev2,CV⟩:=st E' w' x pY j4;have he:=fK.trans ev2;have hc:=s2.cut (n:=mem.length) rfl hm;refine⟨E2.cut mem.length,x,v',m2.take mem.length,rfl,hR',⟨⟨he.le.F,fun k v t hk=>?_⟩,fun k v g e c hk=>?_,he.F,he.os,he.tape,he.output,he.size,he.heap⟩,hc,gZ CV hv⟩;·(have:k<mem.length:=by (rcases bS k mem.length with bQ|jL);(·exact bQ);rw [hs.top k jL v] at hk;cases hk);exact (if_pos this).trans (he.le.cn _ _ _ hk)
 have:E2.cn k v=some (g,e,c):=by by_cases gM:k<mem.length;(·exact ((if_pos gM).symm.trans hk:E2.cn k v=_));have h2:(E2.cut mem.length).cn k v=none:=if_neg gM;rw [h2] at hk;cases hk
 exact he.cn _ _ _ _ _ this
end Go.Eng
end
