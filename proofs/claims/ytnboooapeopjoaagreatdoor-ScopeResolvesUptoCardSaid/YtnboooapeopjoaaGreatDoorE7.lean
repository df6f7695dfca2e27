import Derived.Test.YtnboooapeopjoaaGreatDoorE6
open Array renaming getElem?_toList→eN
open Bool renaming and_eq_true→aD,and_self→jP,and_true→aF,false_eq_true→bJ,not_false→aE,not_true→aO,true_and→aL
open Int renaming natCast_nonneg→CN,toNat_natCast→ad2
open List renaming all_cons→ct,all_eq_true→aX,all_nil→dO,append_assoc→sf,append_nil→ij,cons_append→ai,drop_eq_nil_of_le→cH,drop_succ_cons→ZR,drop_zero→as5,ext_getElem?→dq,find?_eq_none→atI,flatMap_cons→jx,flatMap_nil→ata,foldl_cons→fq,foldl_nil→as6,getD_eq_getElem?_getD→eU,getElem?_append_left→bx,getElem?_append_right→a6,getElem?_cons_succ→ia,getElem?_cons_zero→ee,getElem?_drop→CM,getElem?_eq_getElem→af,getElem?_eq_none→dN,getElem?_eq_some_iff→aq,getElem?_map→ae,getElem?_range→atN,getElem?_set→bK,getElem?_set_ne→cL,getElem?_take_of_lt→jO,head?_cons→atu,length_append→bc,length_cons→aj,length_drop→ux,length_map→aw,length_nil→aA,length_set→mO,length_take→cn,map_cons→cz,map_nil→bW,mem_cons→dj,mem_cons_of_mem→bE,mem_cons_self→bZ,mem_map→dr,mem_of_getElem?→ay,mem_or_eq_of_mem_set→atl,mem_range→aov,nil_append→ak,range'_succ→atb,range_eq_range'→atf,set_cons_succ→je,set_cons_zero→eD,take_append_drop→ld,take_length→au,take_of_length_le→bu,take_succ_cons→ZQ,take_zero→dV
open Nat renaming add_sub_cancel_left→ef,add_zero→kG,le_refl→ax,lt_irrefl→asL,lt_of_lt_of_le→rL,lt_or_ge→br,sub_self→cI,sub_zero→UW,zero_add→aZ,zero_le→aW
open Option renaming bind_some→l6,map_eq_some_iff→bH,map_none→asK,map_some→aC
set_option linter.all false
section
namespace Go.Eng
variable [bk]
section
variable {P:Program} {tt:Table} {ρ:Option Nat} {n0:Nat} {st:St} {Q:Exit→St→Prop}
def Wk (P:Program) (f:FuncId) (vs:List V) (st:St) (dst:Option Tmp) (Q:St→Prop):Prop :=
 ∃ R,eo P f vs st.mem R∧∀ v m',R v m'→Q ({ st with mem:=m' }.put dst v)
def aa5 (P:Program) (f:FuncId) (vs:List V) (st:St) (dst:Option Tmp) (Q:St→Prop):Prop:=MG P f vs st dst Q∨Wk P f vs st dst Q
def aa6 (P:Program) (tt:Table) (key:Nat) (o:Oper) (st:St) (Q:St→Prop):Prop :=
 match o.op with
 | .call c=>match c.callee with
  | .value f=>match da (st.eval f) (c.args.toList.map st.eval) with
   | some (g,vs)=>aa5 P g vs st o.dst Q
   | none=>False
  | .builtin .append=>match c.args.toList.map st.eval with
   | [s,x]=>match gE tt st.mem c.argTypes.toList s x with
    | some (size,sr,rows)=>Q ({ st with mem:=(fu st.mem key size rows sr).1 }.put o.dst (fu st.mem key size rows sr).2)
    | none=>yL tt st c.argTypes.toList s x o.dst Q
   | _=>False
  | _=>lV P tt key o st Q
 | _=>lV P tt key o st Q
def Q3 (P:Program) (tt:Table) (gl:List (Nat×Nat)) (all:Array Oper):List Oper→St→(St→Prop)→Prop
 | [],st,Q=>Q st
 | o :: r,st,Q=>match tO gl all st.fr o with
  | some true=>aa6 P tt st.mem.length o st fun st'=>Q3 P tt gl all r st' Q
  | some false=>Q3 P tt gl all r (st.put o.dst (.sc undef)) Q
  | none=>False
theorem KK {ts:List TypeId} {s x:V} {dst:Option Tmp} {A B:St→Prop} (h:yL tt st ts s x dst A) (xr:∀ s,A s→B s):yL tt st ts s x dst B:=by
 unfold yL at h ⊢;split at h;·exact fun o nC h1 h2=>xr _ (h o nC h1 h2)
 exact h
attribute [irreducible] Q3
end
end Go.Eng
end
section
namespace Go.Eng
variable [bk]
inductive Tk where
 | a
 | b
def tk:Tk:=.b
theorem afj {α:Type} {a b:α} (h:a=b):a=b:=h
theorem l0 {a b:Prop} (h:a=b):a=b:=h
def bq {α:Type} (_:Tk) (o:Option α) (K:α→Prop):Prop:=match o with
 | some v=>K v
 | none=>False
theorem aa7 {α:Type} {k:Tk} {o:Option α} {K:α→Prop}:bq k o K=match o with|some v=>K v|none=>False:=l0 rfl
theorem lJ {α:Type} {k:Tk} {o:Option α} {K:α→Prop}:bq k o K↔∃ v,o=some v∧K v:=by cases o with|none=>exact⟨fun h=>h.elim,fun ⟨_,h,_⟩=>by cases h⟩|some v=>exact⟨fun h=>⟨v,rfl,h⟩,fun ⟨_,e,h⟩=>by cases e;exact h⟩
def nq {α:Type} (_:Tk) (o:Option α) (A:α→Prop) (B:Prop):Prop:=match o with
 | some v=>A v
 | none=>B
theorem aa8 {α:Type} {k:Tk} {o:Option α} {A:α→Prop} {B:Prop}:nq k o A B=match o with|some v=>A v|none=>B:=l0 rfl
theorem wu {α:Type} {k:Tk} {v:α} {A:α→Prop} {B:Prop}:nq k (some v) A B=A v:=rfl
theorem wx {α:Type} {k:Tk} {A:α→Prop} {B:Prop}:nq k none A B=B:=rfl
section
variable {m:Bool} {P:Program} {tt:Table} {st:St} {Q:St→Prop}
def sW (_:Tk) (m:Bool) (P:Program) (f:FuncId) (vs:List V) (o:Option (List V)) (keys:List (Nat×Nat)) (st:St) (dst:Option Tmp) (Q:St→Prop):Prop :=
 (∃ vs' r,o=some vs'∧cx P f vs' r∧Q ({ st with mem:=gv st.mem keys r }.put dst r)) ∨
 (∃ r bV,bw P f vs st.mem r bV∧Q ({ st with mem:=bV }.put dst r)) ∨
 (m=true∧∃ R,eo P f vs st.mem R∧∀ r bV,R r bV→Q ({ st with mem:=bV }.put dst r)) ∨
 (∃ r,sx P f vs r∧Q (st.put dst r))
def afk (_:Tk) (m:Bool) (P:Program) (k:Nat) (vs:List V) (st:St) (dst:Option Tmp) (Q:St→Prop):Prop :=
 (∃ b bV,JN P k vs st.mem b bV∧Q ({ st with mem:=bV }.put dst (.sc (.bool b)))) ∨
 (m=true∧∃ R,NO P k vs st.mem R∧∀ b bV,R b bV→Q ({ st with mem:=bV }.put dst (.sc (.bool b))))
def apV (_:Tk) (m:Bool) (r:Option (Nat×Nat×Nat×Nat×List V×List V)) (st:St) (dst:Option Tmp) (Q:St→Prop):Prop:=m=true∧match r with
 | some (size,b,v,l,rs,xs)=>∀ (o:Nat) (nC:List V),nC.drop o=rs++xs→o+(l+xs.length)=nC.length→Q ({ st with mem:=st.mem.set b (.rows (v+1) size nC) }.put dst (.ms b (v+1) o (l+xs.length)))
 | none=>False
def nxV (_:Tk) (m:Bool) (st:St) (dst:Option Tmp) (it:V) (str:Bool) (Q:St→Prop):Prop:=m=true∧vS st dst it str Q
def niV (_:Tk) (m:Bool) (n:Nat) (op:BinOp) (st:St) (dst:Option Tmp) (Q:St→Prop):Prop :=
 m=true∧∀ b:Bool,(n≠0→b=false)→Q (st.put dst (.sc (.bool (qY op b))))
def Wl (tt:Table) (T:TypeId) (len:Nat) (parts:List (Nat×Operand)) (st:St) (key:Nat):Option (List bm) :=
 match xG tt T len parts st.eval with
 | some (size,rs)=>some (dn st.mem key (.rows 0 size rs))
 | none=>match Vv tt T len parts st with
  | some (size,rs)=>some (dn (eP st.mem (E4 st.eval parts)) key (.rows 0 size rs))
  | none=>none
def Fw (tt:Table) (mem:List bm) (T:TypeId) (p x:V):Option (List bm) :=
 match nO tt mem T p x with
 | some m=>some m
 | none=>E5 tt mem T p x
def oM (m:Bool) (P:Program) (tt:Table) (key:Nat) (o:Oper) (st:St) (Q:St→Prop):Prop :=
 match o.op with
 | .alloc T=>bq tk (tt T) fun i=>Q ({ st with mem:=dn st.mem key (.box (i.zero.map V.sc)) }.put o.dst (.ptr key 0))
 | .box _ x=>bq tk (mc (st.eval x)) fun cs=>Q ({ st with mem:=dn st.mem key (.box cs) }.put o.dst (.ptr key 0))
 | .build T parts=>bq tk (nP P tt T parts.toList st.eval) fun v=>Q (st.put o.dst v)
 | .buildSlice T len parts=>bq tk (Wl tt T len parts.toList st key) fun mem=>Q ({ st with mem:=mem }.put o.dst (.ms key 0 0 len))
 | .store T p x=>bq tk (Fw tt st.mem T (st.eval p) (st.eval x)) fun mem=>Q ({ st with mem:=mem }.put o.dst (.sc undef))
 | .call { callee:=.builtin .append,args:=xs,argTypes:=ts }=>match xs.toList.map st.eval with
  | [s,x]=>nq tk (gE tt st.mem ts.toList s x) (fun p=>Q ({ st with mem:=(fu st.mem key p.1 p.2.2 p.2.1).1 }.put o.dst (fu st.mem key p.1 p.2.2 p.2.1).2)) (apV tk m (pq tt st.mem ts.toList s x) st o.dst Q)
  | _=>False
 | .call { callee:=.value f,args:=xs,.. }=>match st.eval f with
  | .km k=>afk tk m P k (xs.toList.map st.eval) st o.dst Q
  | fv=>bq tk (da fv (xs.toList.map st.eval)) fun p=>sW tk m P p.1 p.2 (fw st.mem p.2) (p.2.flatMap fg) st o.dst Q
 | .makeSlice T l c=>bq tk (yJ tt T (st.eval l) (st.eval c)) fun p=>Q ({ st with mem:=dn st.mem key (.rows 0 p.1 p.2.1) }.put o.dst (.ms key 0 0 p.2.1.length))
 | .makeMap _ none=>Q ({ st with mem:=dn st.mem key (.map [] 0) }.put o.dst (.mp key))
 | .mapUpdate T d k x=>bq tk (dP P st.mem T (st.eval d) (st.eval k) (st.eval x)) fun mem=>Q ({ st with mem:=mem }.put o.dst (.sc undef))
 | .insert T d k x=>bq tk (dP P st.mem T (st.eval d) (st.eval k) (st.eval x)) fun mem=>Q ({ st with mem:=mem }.put o.dst (.sc undef))
 | .mapEntry T d k=>bq tk (xI P st.mem T (st.eval d) (st.eval k)) fun p=>Q ({ st with mem:=p.1 }.put o.dst p.2)
 | .entryStore _ d s x=>bq tk (xJ st.mem (st.eval d) (st.eval s) (st.eval x)) fun mem=>Q ({ st with mem:=mem }.put o.dst (.sc undef))
 | .call { callee:=.builtin .delete,args:=xs,argTypes:=ts }=>bq tk (tH P st.mem ts (xs.toList.map st.eval)) fun mem=>Q ({ st with mem:=mem }.put o.dst (.sc (.tuple #[])))
 | .range T x=>bq tk (qk P st.mem T (st.eval x)) fun B=>Q ({ st with mem:=dn st.mem key B }.put o.dst (.ptr key 0))
 | .next it str=>nxV tk m st o.dst (st.eval it) str Q
 | .binOp op T x y _=>nq tk (pT tt op T (st.eval x) (st.eval y)) (fun n=>niV tk m n op st o.dst Q) (bq tk (mC P tt st o) fun v=>Q (st.put o.dst v))
 | _=>bq tk (mC P tt st o) fun v=>Q (st.put o.dst v)
theorem tP {α:Type} {k:Tk} {o:Option α} {A B:α→Prop} (h:bq k o A) (xr:∀ v,A v→B v):bq k o B:=by cases o with|none=>exact h|some v=>exact xr v h
theorem KL {dst:Option Tmp} {it:V} {str:Bool} {A B:St→Prop} (h:vS st dst it str A) (xr:∀ s,A s→B s):vS st dst it str B:=by
 unfold vS at h ⊢;split at h;·split at h;(·split at h;(·exact⟨h.1,h.2.1,fun e=>xr _ (h.2.2.1 e),fun e he=>xr _ (h.2.2.2 e he)⟩);exact h);(·refine⟨h.1,?_⟩;have:=h.2;split at this;(·rename_i hp;rw [if_pos hp];exact xr _ this);rename_i hp;rw [if_neg hp];exact xr _ this);(·exact⟨h.1,xr _ h.2⟩);exact h
 exact h
theorem KM {key:Nat} {o:Oper} {A B:St→Prop} (h:oM m P tt key o st A) (xr:∀ s,A s→B s):oM m P tt key o st B:=by
 have app:∀ {ts:List TypeId} {s x:V},nq tk (gE tt st.mem ts s x) (fun p=>A ({ st with mem:=(fu st.mem key p.1 p.2.2 p.2.1).1 }.put o.dst (fu st.mem key p.1 p.2.2 p.2.1).2)) (apV tk m (pq tt st.mem ts s x) st o.dst A) →
   nq tk (gE tt st.mem ts s x) (fun p=>B ({ st with mem:=(fu st.mem key p.1 p.2.2 p.2.1).1 }.put o.dst (fu st.mem key p.1 p.2.2 p.2.1).2)) (apV tk m (pq tt st.mem ts s x) st o.dst B):=fun {ts s x} h=>by
  cases ha:gE tt st.mem ts s x with
  | some p=>rw [ha,wu] at h;exact xr _ h
  | none=>rw [ha,wx] at h;exact⟨h.1,KK (show yL tt st ts s x o.dst A from h.2) xr⟩
 have cv:∀ {f:FuncId} {vs:List V} {p:Option (List V)} {keys:List (Nat×Nat)},sW tk m P f vs p keys st o.dst A→sW tk m P f vs p keys st o.dst B:=fun h=>by (rcases h with ⟨vs',r,h1,h2,h3⟩|⟨r,m',h1,h2⟩|⟨hm,R,h1,h2⟩|⟨r,h1,h2⟩);(·exact .inl ⟨vs',r,h1,h2,xr _ h3⟩);(·exact .inr (.inl ⟨r,m',h1,xr _ h2⟩));(·exact .inr (.inr (.inl ⟨hm,R,h1,fun r m' h=>xr _ (h2 r m' h)⟩)));exact .inr (.inr (.inr ⟨r,h1,xr _ h2⟩))
 obtain⟨dst,op,type,pos,after,guard⟩:=o;cases op
 case call c =>
  obtain⟨callee,args,ats⟩:=c
  cases callee
  case value f =>
   simp only [oM] at h ⊢
   split at h
   ·rcases h with ⟨b,m',h1,h2⟩|⟨hm,R,h1,h2⟩
    ·exact .inl ⟨b,m',h1,xr _ h2⟩
    exact .inr ⟨hm,R,h1,fun b m' h=>xr _ (h2 b m' h)⟩
   exact tP h fun v hv=>cv hv
  case builtin b =>
   cases b
   case append =>
    simp only [oM] at h ⊢
    split at h
    ·exact app h
    exact h
   all_goals (simp only [oM] at h ⊢;exact tP h fun v hv=>xr _ hv)
  all_goals (simp only [oM] at h ⊢;exact tP h fun v hv=>xr _ hv)
 case makeMap T l =>
  cases l with
  | none=>exact xr _ h
  | some l=>simp only [oM] at h ⊢;exact tP h fun v hv=>xr _ hv
 case next it str=>exact⟨h.1,KL h.2 xr⟩
 case binOp op T x y yt =>
  simp only [oM] at h ⊢
  cases hn:pT tt op T (st.eval x) (st.eval y) with
  | some n =>
   rw [hn,wu] at h
   exact⟨h.1,fun b hb=>xr _ (h.2 b hb)⟩
  | none=>rw [hn,wx] at h;exact tP h fun v hv=>xr _ hv
 all_goals (simp only [oM] at h ⊢;exact tP h fun v hv=>xr _ hv)
def YN (m:Bool) (P:Program) (tt:Table) (key:Nat) (o:Oper) (st:St) (Q:St→Prop):Prop:=match m with
 | true=>cR P tt key o st Q
 | false=>∃ s,Q s∧∀ K:St→Prop,K s→cR P tt key o st K
theorem kO {key:Nat} {o:Oper} (s:St) (h:Q s) (hk:∀ K:St→Prop,K s→cR P tt key o st K):YN m P tt key o st Q:=by
 cases m;·exact⟨s,h,hk⟩
 exact hk Q h
theorem Q4 {f:FuncId} {vs:List V} {dst:Option Tmp} {k:Tk} (h:sW k m P f vs (fw st.mem vs) (vs.flatMap fg) st dst Q):(m=true∧yK P f vs st dst Q)∨∃ s,Q s∧∀ K:St→Prop,K s→yK P f vs st dst K:=by
 rcases h with ⟨vs',r,h1,h2,h3⟩|⟨r,m',h1,h2⟩|⟨hm,R,h1,h2⟩|⟨r,h1,h2⟩
 ·exact .inr ⟨_,h3,fun K hK=>.inl ⟨vs',r,h1,h2,hK⟩⟩
 ·exact .inr ⟨_,h2,fun K hK=>.inr (.inl ⟨r,m',h1,hK⟩)⟩
 ·exact .inl ⟨hm,.inr (.inr (.inl ⟨R,h1,h2⟩))⟩
 exact .inr ⟨_,h2,fun K hK=>.inr (.inr (.inr ⟨r,h1,hK⟩))⟩
theorem Q5 {key:Nat} {o:Oper} (h:oM m P tt key o st Q):YN m P tt key o st Q:=by
 unfold oM at h;split at h;all_goals try (rename_i lH;simp only [lJ] at h;obtain⟨v,h1,h2⟩:=h;refine kO _ h2 fun K hK=>?_;unfold cR;rw [lH];dsimp only;rw [h1];exact hK)
 ·rename_i lH;simp only [lJ] at h;obtain⟨mem,h1,h2⟩:=h;refine kO _ h2 fun K hK=>?_;unfold cR;rw [lH];dsimp only;unfold Wl at h1;split at h1;(·rename_i hl;cases h1;rw [hl];exact hK);rename_i hl;rw [hl];split at h1;(·rename_i hl;cases h1;dsimp only;rw [hl];exact hK);cases h1
 ·rename_i lH;simp only [lJ] at h;obtain⟨mem,h1,h2⟩:=h;refine kO _ h2 fun K hK=>?_;unfold cR;rw [lH];dsimp only;unfold Fw at h1;split at h1;(·rename_i hl;cases h1;rw [hl];exact hK);rename_i hl;rw [hl];dsimp only;rw [h1];exact hK
 ·rename_i lH;split at h;(·rename_i s x Vx;cases ha:gE tt st.mem _ s x with|some p =>rw [ha,wu] at h;refine kO _ h fun K hK=>?_;unfold cR;rw [lH];dsimp only;rw [Vx];dsimp only;rw [ha];exact hK|none =>rw [ha,wx] at h;obtain⟨rfl,h⟩:=h;show cR P tt key o st Q;unfold cR;rw [lH];dsimp only;rw [Vx];dsimp only;rw [ha];exact h);exact h.elim
 ·rename_i lH;split at h;(·rename_i k hk;(rcases h with ⟨b,m',h1,h2⟩|⟨rfl,R,h1,h2⟩);(·refine kO _ h2 fun K hK=>?_;unfold cR;rw [lH];dsimp only;rw [hk];exact .inl ⟨b,m',h1,hK⟩);show cR P tt key o st Q;unfold cR;rw [lH];dsimp only;rw [hk];exact .inr ⟨R,h1,h2⟩);rename_i hk;simp only [lJ] at h;obtain⟨⟨g,vs⟩,h1,h2⟩:=h;(have afl:∀ K:St→Prop,yK P g vs st o.dst K→cR P tt key o st K:=fun K hK=>by unfold cR;rw [lH];dsimp only;split;(·rename_i k hy;exact (hk k hy).elim);rw [h1];exact hK);(rcases Q4 h2 with ⟨rfl,h3⟩|⟨s,h3,h4⟩);(·exact afl Q h3);exact kO s h3 fun K hK=>afl K (h4 K hK)
 ·rename_i lH;exact kO _ h fun K hK=>by unfold cR;rw [lH];exact hK
 ·rename_i lH;obtain⟨rfl,h⟩:=h;show cR P tt key o st Q;unfold cR;rw [lH];exact h
 ·rename_i op T x y yt lH;cases hn:pT tt op T (st.eval x) (st.eval y) with|some n =>rw [hn,wu] at h;obtain⟨rfl,h⟩:=h;show cR P tt key o st Q;unfold cR;rw [lH];dsimp only;rw [hn];exact h|none =>rw [hn,wx,lJ] at h;obtain⟨v,h1,h2⟩:=h;exact kO _ h2 fun K hK=>by unfold cR;rw [lH];dsimp only;rw [hn];dsimp only;rw [h1];exact hK
 rw [lJ] at h;obtain⟨v,h1,h2⟩:=h;refine kO _ h2 fun K hK=>?_;unfold cR;split
 all_goals first
  | (rw [h1];exact hK)
  | (exfalso;solve_by_elim)
end
end Go.Eng
end
section
namespace Go.Eng
variable [bk]
section
variable {P:Program} {ρ:Option Nat} {n0:Nat} {c:Code} {st:St} {Q:Exit→St→Prop}
theorem MH {v v':V} (t:Nat) (h0:st.fr[t]?=some v) (hp:gH st.mem v=some v') (h:eg P ρ n0 c { fr:=st.fr.set t v',mem:=eP st.mem (fg v) } Q):eg P ρ n0 c st Q:=fun E0 w0 Q6 E w a he hs Gz=>by
 obtain⟨E',h1,h2,h3⟩:=hs.freeze (vs:=[v]) (vs':=[v']) (by simp only [fw,hp]);obtain⟨x,hx,hr⟩:=hs.fr.get h0;have Gy:=(h3 [x] (cJ.cons hr (.nil _))).2 0 v' x rfl rfl;have e1:[v].flatMap fg=fg v:=by simp
 rw [e1] at h1;have e2:a.tmps.toList.set t x=a.tmps.toList:=by apply dq;intro i;rw [bK];split;(·rename_i hi;subst hi;rw [if_pos (aq.1 hx).1,hx]);rfl
 have h4:cJ E' (st.fr.set t v') a.tmps.toList:=by have:=(cJ.set (n:=t) h1.fr Gy);rwa [e2] at this
 exact h E0 w0 Q6 E' w a (he.trans h2) ⟨h1.F,h1.lt,h1.mem,h1.top,h1.dF,h1.apart,h4⟩ (Gz.NP h2)
theorem aa9 {v v':V} (t:Nat) (h0:st.fr[t]?=some v) (hp:gH st.mem v=some v') (h:Ex P ρ n0 c { fr:=st.fr.set t v',mem:=eP st.mem (fg v) } Q):Ex P ρ n0 c st Q:=by obtain⟨e,s2,hq,h2⟩:=h;exact⟨e,s2,hq,fun Q' h'=>MH t h0 hp (h2 Q' h')⟩
theorem cY.aba {E:Env} {w:World} {a:Act} (hs:cY E w a st) {k j:Nat} {cs:List V} (hk:st.mem[k]?=some (.box cs)) (hj:cs[j]?=some (.sc (.slice none 0 0))) (b v:Nat):cY E w a { st with mem:=st.mem.set k (.box (cs.set j (.ms b v 0 0))) }:=by
 have bR:=(aq.1 hk).1;refine⟨hs.F,hs.lt,fun k' B hB=>?_,fun k' kX=>hs.top k' (by simpa using kX),fun k' B hB v hv=>?_,hs.apart,hs.fr⟩;·rw [bK] at hB;split at hB;(·rename_i he;subst he;cases hB;obtain⟨g,T,xs,hb,hh,hr,hf⟩:=hs.mem k _ hk;refine⟨g,T,xs,hb,hh,?_,hf⟩;obtain⟨x,hx,hrx⟩:=hr.get hj;have hxv:=gP hrx;subst hxv;have:=cJ.set (n:=j) hr (cV.jl E b v 0);rwa [oL hx] at this);exact hs.mem k' B hB
 rw [bK] at hB;split at hB;·rename_i he;subst he;cases hB;exact hs.dF k _ hk v hv
 exact hs.dF k' B hB v hv
end
end Go.Eng
end
section
namespace Go.Eng
variable [bk]
def lk (t:Nat):List (Nat×V)→V
 | []=>.undef
 | p :: ws=>if p.1=t then p.2 else lk t ws
def W (n:Nat) (ws:List (Nat×V)):List V:=(List.range n).map fun i=>lk i ws
theorem wy (n:Nat) (ws:List (Nat×V)) (t:Nat):(W n ws)[t]?=if t<n then some (lk t ws) else none:=by
 unfold W;rw [ae];by_cases h:t<n;·rw [if_pos h,atN h];rfl
 rw [if_neg h,dN (by simp;omega)];rfl
theorem abb (n:Nat) (ws:List (Nat×V)) (t:Nat):(W n ws).getD t .undef=if t<n then lk t ws else .undef:=by rw [eU,wy];split <;> rfl
theorem sX (n:Nat) (ws:List (Nat×V)):(W n ws).length=n:=by simp [W]
theorem MI (n:Nat) (ws:List (Nat×V)) (d:Nat) (v:V):(W n ws).set d v=W n ((d,v) :: ws):=by
 apply dq;intro i;rw [bK,wy,wy,sX];simp only [lk];by_cases h:d=i;·subst h;simp
 simp [h]
def rv (ob:List (Nat×V)):List (Nat×V)→Prop
 | []=>True
 | p :: r=>lk p.1 ob=p.2∧rv ob r
theorem MJ {ob:List (Nat×V)}:∀ {ws:List (Nat×V)},rv ob ws→∀ i,lk i ws = .undef∨lk i ws=lk i ob
 | [],_,i=>.inl rfl
 | p :: r,h,i=>by
  simp only [lk]
  by_cases e:p.1=i
  ·subst e;rw [if_pos rfl];exact .inr h.1.symm
  rw [if_neg e];exact MJ h.2 i
theorem MK {E:Env} {n:Nat} {ob ws:List (Nat×V)} (h:rv ob ws) {xs:List Value} (hr:cJ E (W n ob) xs):cJ E (W n ws) xs:=by
 refine⟨by rw [← hr.1,sX,sX],fun i v x hv hx=>?_⟩;rw [wy] at hv;split at hv;·rename_i hi;cases hv;(rcases MJ h i with e|e);(·rw [e];exact .undef _ _);rw [e];exact hr.2 i _ x (by rw [wy,if_pos hi]) hx
 cases hv
def Q7 (k:Nat) (ws:List (Nat×V)):Bool:=ws.all fun p=>aG k p.2
theorem afm {k n:Nat} {ws:List (Nat×V)} (h:Q7 k ws=true):(W n ws).all (aG k)=true:=by rw [aX];intro v hv;unfold W at hv;obtain⟨i,-,rfl⟩:=dr.1 hv;clear hv;induction ws with|nil=>rfl|cons p r ih =>unfold Q7 at h ih;rw [ct,aD] at h;simp only [lk];split;(·exact h.1);exact ih h.2
def X (_:Tk) (m:Bool) (P:Program) (ρ:Option Nat) (n0:Nat) (c:Code) (st:St) (Q:Exit→St→Prop):Prop:=match m with
 | true=>eg P ρ n0 c st Q
 | false=>Ex P ρ n0 c st Q
section
variable {k_:Tk} {m:Bool} {P:Program} {tt:Table} {sp:List Nat} {ρ:Option Nat} {n0:Nat} {st:St} {Q:Exit→St→Prop} {n:Nat} {ws ob:List (Nat×V)} {mem kh:List bm}
theorem X.mono {c:Code} {Q2:Exit→St→Prop} (h:X k_ m P ρ n0 c st Q) (hq:∀ e s,Q e s→Q2 e s):X k_ m P ρ n0 c st Q2:=by
 cases m;·exact Ex.mono h hq
 exact eg.mono h hq
theorem Bk {x y:Code} (h:X k_ m P ρ n0 x st (ir (fun st'=>X k_ m P ρ n0 y st' Q) Q)):X k_ m P ρ n0 (.seq x y) st Q:=by
 cases m;·exact Bh h
 exact bz h
theorem Wm {id:Nat} {c:Code} (h:X k_ m P ρ n0 c st (ko id Q)):X k_ m P ρ n0 (.block id c) st Q:=by
 cases m;·exact Bi h
 exact bY h
theorem Fx {c:Code} {st':St} (hw:∀ E w a,cY E w a st→cY E w a st') (h:X k_ m P ρ n0 c st' Q):X k_ m P ρ n0 c st Q:=by
 cases m;·obtain⟨e,s,hq,h⟩:=h;exact⟨e,s,hq,fun Q' h'=>sD hw (h Q' h')⟩
 exact sD hw h
theorem abc {c:Code} (k:Nat) (hn:n0≤k) (hf:st.fr.all (aG k)=true) (hm:(st.mem.take k).all (aS k)=true) (h:X k_ m P ρ n0 c { st with mem:=st.mem.take k } Q):X k_ m P ρ n0 c st Q:=by
 cases m;·obtain⟨e,s,hq,h⟩:=h;exact⟨e,s,hq,fun Q' h'=>AW k [] hn hf hm (h Q' h')⟩
 exact AW k [] hn hf hm h
def xX (n0 k n:Nat) (ws:List (Nat×V)) (mem:List bm) (st:St):Prop :=
 ∃ ob kh,st=⟨W n ob,kh⟩∧n0≤k∧rv ob ws∧Q7 k ws=true∧mem.all (aS k)=true∧kh.take k=mem
theorem di {k:Nat} (h0:n0≤k) (h1:rv ob ws∧Q7 k ws=true∧mem.all (aS k)=true∧kh.take k=mem):xX n0 k n ws mem ⟨W n ob,kh⟩:=⟨ob,kh,rfl,h0,h1⟩
theorem KN {c:Code} {k:Nat} (hl:xX n0 k n ws mem st) (h:X k_ m P ρ n0 c ⟨W n ws,mem⟩ Q):X k_ m P ρ n0 c st Q:=by obtain⟨ob,kh,rfl,h0,h1,h2,h3,h4⟩:=hl;subst h4;exact Fx (st':=⟨W n ws,kh⟩) (fun E w a hs=>⟨hs.F,hs.lt,hs.mem,hs.top,hs.dF,hs.apart,MK h1 hs.fr⟩) (abc k h0 (afm h2) h3 h)
def gate (_:Tk) (b:Bool) (d:Nat) (st:St) (f:Bool→St→Prop):Prop:=∀ b',b=b'→f b' { st with fr:=st.fr.set d (.sc (.bool b')) }
theorem abd {d:Nat} {f:Bool→St→Prop}:gate k_ true d st f=f true { st with fr:=st.fr.set d (.sc (.bool true)) }:=propext ⟨fun h=>h _ rfl,fun h b' e=>by subst e;exact h⟩
theorem abe {d:Nat} {f:Bool→St→Prop}:gate k_ false d st f=f false { st with fr:=st.fr.set d (.sc (.bool false)) }:=propext ⟨fun h=>h _ rfl,fun h b' e=>by subst e;exact h⟩
theorem bQ {b:Bool} {d:Nat} {f:Bool→St→Prop} (h1:b=true→f true { st with fr:=st.fr.set d (.sc (.bool true)) }) (h2:b=false→f false { st with fr:=st.fr.set d (.sc (.bool false)) }):gate k_ b d st f:=by intro b' e;cases b' with|true=>exact h1 e|false=>exact h2 e
theorem ML {b:Bool} {d:Nat} {f:Bool→St→Prop} (hd:st.fr[d]?=some (.sc (.bool b))∨st.fr.getD d .undef = .sc (.bool b)) (h:gate k_ b d st f):f b st:=by
 have:=h b rfl;have e:st.fr.set d (.sc (.bool b))=st.fr:=by (rcases hd with hd|hd);(·exact oL hd);rw [eU] at hd;cases hg:st.fr[d]? with|none=>rw [hg] at hd;cases hd|some v=>rw [hg] at hd;cases hd;exact oL hg
 rw [e] at this;exact this
def Fy (_:Tk) (v:Option V) (d:Nat) (want:Bool) (st:St) (yes no:St→Prop):Prop:=match v with
 | some (.sc (.bool b))=>gate tk b d st fun b s=>match b==want with|true=>yes s|false=>no s
 | some (.sc _)=>no st
 | some _=>False
 | none=>no st
def y4:List Oper→Nat→Option Tmp
 | [],_=>none
 | o :: _,0=>o.dst
 | _ :: r,n+1=>y4 r n
theorem Wn {o:Oper} {r:List Oper}:y4 (o :: r) 0=o.dst:=rfl
theorem MM {o:Oper} {r:List Oper} {n:Nat}:y4 (o :: r) (n+1)=y4 r n:=rfl
theorem HR:∀ (l:List Oper) (j:Nat),y4 l j=(l[j]?).bind (·.dst)
 | [],j=>by simp [y4]
 | o :: r,0=>rfl
 | o :: r,j+1=>by rw [MM,HR r j,ia]
def gd (all:List Oper) (o:Oper) (st:St) (yes no:St→Prop):Prop:=match o.guard with
 | none=>yes st
 | some (j,want)=>match y4 all j with
  | none=>no st
  | some d=>Fy tk st.fr[d]? d want st yes no
theorem YO {all:Array Oper} {o:Oper} {yes no:St→Prop} (h:gd all.toList o st yes no):(gi all st.fr o=some true∧yes st)∨(gi all st.fr o=some false∧no st):=by
 unfold gd at h;unfold gi;split at h;·rename_i hg;rw [hg];exact .inl ⟨rfl,h⟩
 rename_i j want hg;rw [hg];dsimp only;rw [HR,eN] at h;cases hd:(all[j]?).bind (·.dst) with|none=>rw [hd] at h;exact .inr ⟨rfl,h⟩|some d =>rw [hd] at h;dsimp only at h ⊢;unfold Fy at h;split at h;(·rename_i b hb;have h:=ML (.inl hb) h;rw [hb];dsimp only;cases hc:b==want with|true=>rw [hc] at h;exact .inl ⟨rfl,h⟩|false=>rw [hc] at h;exact .inr ⟨rfl,h⟩);(·rename_i x hx hb;rw [hb];cases x with|bool b=>exact absurd rfl (hx b)|_=>exact .inr ⟨rfl,h⟩);(·exact h.elim);rename_i hb;rw [hb];exact .inr ⟨rfl,h⟩
def rV (m:Bool) (P:Program) (tt:Table) (all:List Oper):List Oper→St→(St→Prop)→Prop
 | [],st,Q=>Q st
 | o :: r,st,Q=>gd all o st (fun s=>oM m P tt s.mem.length o s fun s=>rV m P tt all r s Q) (fun s=>rV m P tt all r (s.put o.dst (.sc undef)) Q)
theorem abf {all:List Oper} {Q:St→Prop}:rV m P tt all [] ⟨W n ws,mem⟩ Q=Q ⟨W n ws,mem⟩:=l0 rfl
theorem abg {all:List Oper} {o:Oper} {r:List Oper} {Q:St→Prop}:rV m P tt all (o :: r) ⟨W n ws,mem⟩ Q=gd all o ⟨W n ws,mem⟩ (fun s=>oM m P tt s.mem.length o s fun s=>rV m P tt all r s Q) (fun s=>rV m P tt all r (s.put o.dst (.sc undef)) Q):=l0 rfl
def afn (m:Bool) (P:Program) (tt:Table) (all:Array Oper) (l:List Oper) (st:St) (Q:St→Prop):Prop:=match m with
 | true=>fe P tt all l st Q
 | false=>∃ s,Q s∧∀ K:St→Prop,K s→fe P tt all l st K
theorem ry {all:Array Oper} {Q:St→Prop}:∀ (l:List Oper) (st:St),rV m P tt all.toList l st Q→afn m P tt all l st Q
 | [],st,h=>by
  cases m with
  | true=>show fe P tt all [] st Q;rw [fe];exact h
  | false=>exact⟨st,h,fun K hK=>by rw [fe];exact hK⟩
 | o :: r,st,h=>by
  rw [rV] at h
  rcases YO h with ⟨hw,h⟩|⟨hw,h⟩
  ·have h:=Q5 (KM (B:=fun s=>afn m P tt all r s Q) h fun s hs=>ry r s hs)
   cases m with
   | true =>
    show fe P tt all (o :: r) st Q
    rw [fe,hw]
    exact h
   | false =>
    obtain⟨s1,h1,h2⟩:=h
    obtain⟨s2,h3,h4⟩:=h1
    exact⟨s2,h3,fun K hK=>by rw [fe,hw];exact h2 _ (h4 K hK)⟩
  have h:=ry r _ h
  cases m with
  | true =>
   show fe P tt all (o :: r) st Q
   rw [fe,hw];exact h
  | false =>
   obtain⟨s2,h3,h4⟩:=h
   exact⟨s2,h3,fun K hK=>by rw [fe,hw];exact h4 K hK⟩
theorem wz (ht:TT P tt) {id:Nat} {ops:Array Oper} (h:rV m P tt ops.toList ops.toList st (Q .normal)):X k_ m P ρ n0 (.region id ops false) st Q:=by have h:=ry _ _ h;cases m with|true=>exact mT ht h|false =>obtain⟨s,h1,h2⟩:=h;exact⟨.normal,s,h1,fun Q' h'=>mT ht (h2 _ h')⟩
def MN (c:Operand) (st:St) (f:Bool→St→Prop):Prop:=match st.eval c with
 | .sc (.bool b)=>match c with
  | .tmp t=>gate tk b t st f
  | _=>f b st
 | _=>False
def lg (i:Nat):List Nat→Bool
 | []=>false
 | a :: r=>if a=i then true else lg i r
def ky:Code→Nat
 | .cond (.tmp t) _ _=>10000+t
 | .block i _=>20000+i
 | .seq _ _=>30000
 | .region i _ _=>i
 | _=>40000
def vc (m:Bool) (P:Program) (tt:Table) (sp:List Nat) (ρ:Option Nat) (n0:Nat):Code→St→(Exit→St→Prop)→Prop
 | .seq x y,st,Q=>match x with
  | .region id ops false=>match lg id sp with
   | false=>rV m P tt ops.toList ops.toList st fun s=>vc m P tt sp ρ n0 y s Q
   | true=>X tk m P ρ n0 (.seq (.region id ops false) y) st Q
  | .skip=>vc m P tt sp ρ n0 y st Q
  | _=>match lg (ky x) sp with
   | false=>vc m P tt sp ρ n0 x st (ir (fun s=>vc m P tt sp ρ n0 y s Q) Q)
   | true=>X tk m P ρ n0 (.seq x y) st Q
 | .region id ops false,st,Q=>match lg id sp with
  | false=>rV m P tt ops.toList ops.toList st (Q .normal)
  | true=>X tk m P ρ n0 (.region id ops false) st Q
 | .cond c x y,st,Q=>MN c st fun b s=>match b with|true=>vc m P tt sp ρ n0 x s Q|false=>vc m P tt sp ρ n0 y s Q
 | .block id c,st,Q=>vc m P tt sp ρ n0 c st (ko id Q)
 | .skip,st,Q=>Q .normal st
 | .ret,st,Q=>Q .ret st
 | .exit id,st,Q=>Q (.exit id) st
 | c,st,Q=>X tk m P ρ n0 c st Q
theorem vx (ht:TT P tt):∀ {c:Code} {st:St} {Q:Exit→St→Prop},vc m P tt sp ρ n0 c st Q→X k_ m P ρ n0 c st Q:=by intro c;induction c with|seq x y ihx ihy =>(intro st Q h;unfold vc at h;split at h;(·split at h;(·refine Bk ((wz (Q:=ir (fun s=>vc m P tt sp ρ n0 y s Q) Q) ht h).mono fun e s h=>?_);cases e with|normal=>exact ihy h|_=>exact h);exact h);(·have h:=ihy h;cases m;(·exact Bh (Fv h));exact bz (ch h));split at h;(·refine Bk ((ihx h).mono fun e s h=>?_);cases e with|normal=>exact ihy h|_=>exact h);exact h)|region id ops mixed =>intro st Q h;cases mixed;(·unfold vc at h;split at h;(·exact wz ht h);exact h);unfold vc at h;exact h|cond c x y ihx ihy =>intro st Q h;unfold vc at h;unfold MN at h;split at h;(·rename_i b hb;(have h:X k_ m P ρ n0 (if b=true then x else y) st Q:=by split at h;(·rename_i t;have h:=ML (.inr hb) h;cases b;(·exact ihy h);exact ihx h);cases b;(·exact ihy h);exact ihx h);cases m;(·exact MF hb h);exact ba hb h);exact h.elim|block id c ih=>intro st Q h;unfold vc at h;exact Wm (ih h)|skip =>intro st Q h;unfold vc at h;cases m;(·exact Fv h);exact ch h|ret =>intro st Q h;unfold vc at h;cases m;(·exact QV h);exact bX h|exit id =>intro st Q h;unfold vc at h;cases m;(·exact ME h);exact eH h|_=>intro st Q h;unfold vc at h;exact h
section
variable {x y:Code} {id:Nat} {ops:Array Oper} {c:Operand}
theorem KO {v:Option V} {d:Nat} {want:Bool} {yes no:St→Prop} {k:Tk}:Fy k v d want st yes no=match v with
  | some (.sc (.bool b))=>gate tk b d st fun b s=>match b==want with|true=>yes s|false=>no s
  | some (.sc _)=>no st
  | some _=>False
  | none=>no st:=l0 rfl
def sV:=@oM
theorem Ob {key:Nat} {o:Oper} {Q:St→Prop}:oM m P tt key o ⟨W n ws,mem⟩ Q=sV m P tt key o ⟨W n ws,mem⟩ Q:=l0 rfl
theorem abh {key:Nat} {o:Oper} {Q:St→Prop}:sV m P tt key o st Q=match o.op with
   | .alloc T=>bq tk (tt T) fun i=>Q ({ st with mem:=dn st.mem key (.box (i.zero.map V.sc)) }.put o.dst (.ptr key 0))
   | .box _ x=>bq tk (mc (st.eval x)) fun cs=>Q ({ st with mem:=dn st.mem key (.box cs) }.put o.dst (.ptr key 0))
   | .build T parts=>bq tk (nP P tt T parts.toList st.eval) fun v=>Q (st.put o.dst v)
   | .buildSlice T len parts=>bq tk (Wl tt T len parts.toList st key) fun mem=>Q ({ st with mem:=mem }.put o.dst (.ms key 0 0 len))
   | .store T p x=>bq tk (Fw tt st.mem T (st.eval p) (st.eval x)) fun mem=>Q ({ st with mem:=mem }.put o.dst (.sc undef))
   | .call { callee:=.builtin .append,args:=xs,argTypes:=ts }=>match xs.toList.map st.eval with
    | [s,x]=>nq tk (gE tt st.mem ts.toList s x) (fun p=>Q ({ st with mem:=(fu st.mem key p.1 p.2.2 p.2.1).1 }.put o.dst (fu st.mem key p.1 p.2.2 p.2.1).2)) (apV tk m (pq tt st.mem ts.toList s x) st o.dst Q)
    | _=>False
   | .call { callee:=.value f,args:=xs,.. }=>match st.eval f with
    | .km k=>afk tk m P k (xs.toList.map st.eval) st o.dst Q
    | fv=>bq tk (da fv (xs.toList.map st.eval)) fun p=>sW tk m P p.1 p.2 (fw st.mem p.2) (p.2.flatMap fg) st o.dst Q
   | .makeSlice T l c=>bq tk (yJ tt T (st.eval l) (st.eval c)) fun p=>Q ({ st with mem:=dn st.mem key (.rows 0 p.1 p.2.1) }.put o.dst (.ms key 0 0 p.2.1.length))
   | .makeMap _ none=>Q ({ st with mem:=dn st.mem key (.map [] 0) }.put o.dst (.mp key))
   | .mapUpdate T d k x=>bq tk (dP P st.mem T (st.eval d) (st.eval k) (st.eval x)) fun mem=>Q ({ st with mem:=mem }.put o.dst (.sc undef))
   | .insert T d k x=>bq tk (dP P st.mem T (st.eval d) (st.eval k) (st.eval x)) fun mem=>Q ({ st with mem:=mem }.put o.dst (.sc undef))
   | .mapEntry T d k=>bq tk (xI P st.mem T (st.eval d) (st.eval k)) fun p=>Q ({ st with mem:=p.1 }.put o.dst p.2)
   | .entryStore _ d s x=>bq tk (xJ st.mem (st.eval d) (st.eval s) (st.eval x)) fun mem=>Q ({ st with mem:=mem }.put o.dst (.sc undef))
   | .call { callee:=.builtin .delete,args:=xs,argTypes:=ts }=>bq tk (tH P st.mem ts (xs.toList.map st.eval)) fun mem=>Q ({ st with mem:=mem }.put o.dst (.sc (.tuple #[])))
   | .range T x=>bq tk (qk P st.mem T (st.eval x)) fun B=>Q ({ st with mem:=dn st.mem key B }.put o.dst (.ptr key 0))
   | .next it str=>nxV tk m st o.dst (st.eval it) str Q
   | .binOp op T x y _=>nq tk (pT tt op T (st.eval x) (st.eval y)) (fun n=>niV tk m n op st o.dst Q) (bq tk (mC P tt st o) fun v=>Q (st.put o.dst v))
   | _=>bq tk (mC P tt st o) fun v=>Q (st.put o.dst v):=l0 rfl
theorem abi {all:List Oper} {o:Oper} {yes no:St→Prop}:gd all o ⟨W n ws,mem⟩ yes no=match o.guard with
  | none=>yes ⟨W n ws,mem⟩
  | some (j,want)=>match y4 all j with
   | none=>no ⟨W n ws,mem⟩
   | some d=>Fy tk (W n ws)[d]? d want ⟨W n ws,mem⟩ yes no:=l0 rfl
theorem Oc {f:Bool→St→Prop}:MN c st f=match st.eval c with
  | .sc (.bool b)=>match c with
   | .tmp t=>gate tk b t st f
   | _=>f b st
  | _=>False:=l0 rfl
theorem afo:vc m P tt sp ρ n0 (.seq (.region id ops false) y) ⟨W n ws,mem⟩ Q=match lg id sp with
  | false=>rV m P tt ops.toList ops.toList ⟨W n ws,mem⟩ fun s=>vc m P tt sp ρ n0 y s Q
  | true=>X tk m P ρ n0 (.seq (.region id ops false) y) ⟨W n ws,mem⟩ Q:=l0 rfl
theorem afp:vc m P tt sp ρ n0 (.seq (.region id ops true) y) ⟨W n ws,mem⟩ Q=match lg id sp with
  | false=>vc m P tt sp ρ n0 (.region id ops true) ⟨W n ws,mem⟩ (ir (fun s=>vc m P tt sp ρ n0 y s Q) Q)
  | true=>X tk m P ρ n0 (.seq (.region id ops true) y) ⟨W n ws,mem⟩ Q:=l0 rfl
theorem afq {x1:Code}:vc m P tt sp ρ n0 (.seq (.seq x x1) y) ⟨W n ws,mem⟩ Q=match lg 30000 sp with
  | false=>vc m P tt sp ρ n0 (.seq x x1) ⟨W n ws,mem⟩ (ir (fun s=>vc m P tt sp ρ n0 y s Q) Q)
  | true=>X tk m P ρ n0 (.seq (.seq x x1) y) ⟨W n ws,mem⟩ Q:=l0 rfl
theorem afr {x1:Code} {t:Nat}:vc m P tt sp ρ n0 (.seq (.cond (.tmp t) x x1) y) ⟨W n ws,mem⟩ Q=match lg (10000+t) sp with
  | false=>vc m P tt sp ρ n0 (.cond (.tmp t) x x1) ⟨W n ws,mem⟩ (ir (fun s=>vc m P tt sp ρ n0 y s Q) Q)
  | true=>X tk m P ρ n0 (.seq (.cond (.tmp t) x x1) y) ⟨W n ws,mem⟩ Q:=l0 rfl
theorem afs:vc m P tt sp ρ n0 (.seq (.block id x) y) ⟨W n ws,mem⟩ Q=match lg (20000+id) sp with
  | false=>vc m P tt sp ρ n0 (.block id x) ⟨W n ws,mem⟩ (ir (fun s=>vc m P tt sp ρ n0 y s Q) Q)
  | true=>X tk m P ρ n0 (.seq (.block id x) y) ⟨W n ws,mem⟩ Q:=l0 rfl
theorem als:vc m P tt sp ρ n0 (.region id ops false) ⟨W n ws,mem⟩ Q=match lg id sp with
  | false=>rV m P tt ops.toList ops.toList ⟨W n ws,mem⟩ (Q .normal)
  | true=>X tk m P ρ n0 (.region id ops false) ⟨W n ws,mem⟩ Q:=l0 rfl
theorem alu:vc m P tt sp ρ n0 (.region id ops true) ⟨W n ws,mem⟩ Q=X tk m P ρ n0 (.region id ops true) ⟨W n ws,mem⟩ Q:=l0 rfl
theorem alv:vc m P tt sp ρ n0 (.cond c x y) ⟨W n ws,mem⟩ Q=MN c ⟨W n ws,mem⟩ fun b s=>match b with|true=>vc m P tt sp ρ n0 x s Q|false=>vc m P tt sp ρ n0 y s Q:=l0 rfl
theorem alw:vc m P tt sp ρ n0 (.block id x) ⟨W n ws,mem⟩ Q=vc m P tt sp ρ n0 x ⟨W n ws,mem⟩ (ko id Q):=l0 rfl
theorem alx:vc m P tt sp ρ n0 .skip ⟨W n ws,mem⟩ Q=Q .normal ⟨W n ws,mem⟩:=l0 rfl
theorem aly:vc m P tt sp ρ n0 .ret ⟨W n ws,mem⟩ Q=Q .ret ⟨W n ws,mem⟩:=l0 rfl
theorem alz:vc m P tt sp ρ n0 (.exit id) ⟨W n ws,mem⟩ Q=Q (.exit id) ⟨W n ws,mem⟩:=l0 rfl
theorem alA:vc m P tt sp ρ n0 (.loop x) ⟨W n ws,mem⟩ Q=X tk m P ρ n0 (.loop x) ⟨W n ws,mem⟩ Q:=l0 rfl
theorem alB {f:St→Prop}:ir f Q .normal st=f st:=l0 rfl
theorem alC {f:St→Prop}:ir f Q .ret st=Q .ret st:=l0 rfl
theorem alD {f:St→Prop} {j:Nat}:ir f Q (.exit j) st=Q (.exit j) st:=l0 rfl
theorem alE {j:Nat}:ko j Q .normal st=Q .normal st:=l0 rfl
theorem alF {j:Nat}:ko j Q .ret st=Q .ret st:=l0 rfl
theorem alG {i j:Nat}:ko i Q (.exit j) st=if j=i then Q .normal st else Q (.exit j) st:=l0 rfl
end
attribute [irreducible] vc
end
end Go.Eng
end
section
namespace Go.Eng
variable [bk]
section
variable {k_:Tk} {m:Bool} {P:Program} {tt:Table} {ρ:Option Nat} {n0:Nat} {st:St} {Q:Exit→St→Prop} {n:Nat} {ws ob:List (Nat×V)} {mem kh:List bm}
theorem Bl (ht:TT P tt) {sp:List Nat} {y:Code} (e:Exit) (s:St) (h:ir (fun s=>vc m P tt sp ρ n0 y s Q) Q e s):ir (fun s=>X k_ m P ρ n0 y s Q) Q e s:=by cases e with|normal=>exact vx (k_:=k_) ht h|_=>exact h
theorem sq (ht:TT P tt) (sp:List Nat) {x y:Code} (h:vc m P tt sp ρ n0 x st (ir (fun s=>vc m P tt sp ρ n0 y s Q) Q)):X k_ m P ρ n0 (.seq x y) st Q:=Bk ((vx ht h).mono (Bl ht))
theorem JQ (ht:TT P tt) (sp:List Nat) {id:Nat} {ops:Array Oper} {y:Code} (h:rV m P tt ops.toList ops.toList st fun s=>vc m P tt sp ρ n0 y s Q):X k_ m P ρ n0 (.seq (.region id ops false) y) st Q :=
 Bk ((wz (Q:=ir (fun s=>vc m P tt sp ρ n0 y s Q) Q) ht h).mono (Bl ht))
theorem gA (ht:TT P tt) {id:Nat} {ops:Array Oper} (h:rV m P tt ops.toList ops.toList st (Q .normal)):X k_ m P ρ n0 (.region id ops false) st Q:=wz ht h
theorem rz {c:Code} {k j:Nat} (hl:xX n0 k n ws mem st) (h:mg P ρ n0 c j ⟨W n ws,mem⟩ Q):mg P ρ n0 c j st Q:=by cases j with|zero=>exact h.elim|succ j=>exact KN (k_:=.b) (m:=true) hl h
theorem abj {α:Type} (F:α→List (Nat×V)) (M:α→List bm) (μ:α→Nat) (Inv:α→Prop) (a0:α) (k:Nat) {c:Code} (h0:xX n0 k n (F a0) (M a0) st) (hi:Inv a0)
  (step:∀ a,Inv a→X k_ m P ρ n0 c ⟨W n (F a),M a⟩ (ir (fun s=>∃ a',Inv a'∧μ a'<μ a∧xX n0 k n (F a') (M a') s) Q)):X k_ m P ρ n0 (.loop c) st Q:=by cases m with|true =>((have key:∀ (j:Nat) (a:α),Inv a→μ a=j→mg P ρ n0 c (j+1) ⟨W n (F a),M a⟩ Q:=by intro j;induction j using Nat.strongRecOn with|_ j ih =>intro a hi hj;refine eg.mono (step a hi) fun e s h=>?_;cases e with|normal =>obtain⟨a',h1,h2,h3⟩:=h;exact rz h3 (uW (by omega) (ih _ (by omega) a' h1 rfl))|_=>exact h);exact sC _ (rz h0 (key _ a0 hi rfl)))|false =>(have key:∀ (j:Nat) (a:α),Inv a→μ a=j→∃ (e:Exit) (s:St),Q e s∧∀ Q':Exit→St→Prop,Q' e s→∃ i,mg P ρ n0 c i ⟨W n (F a),M a⟩ Q':=by intro j;induction j using Nat.strongRecOn with|_ j ih =>intro a hi hj;obtain⟨e,s,hq,h⟩:=step a hi;cases e with|normal =>obtain⟨a',h1,h2,h3⟩:=hq;obtain⟨e2,s2,U6,h5⟩:=ih _ (by omega) a' h1 rfl;refine⟨e2,s2,U6,fun Q' h'=>?_⟩;obtain⟨i,h6⟩:=h5 Q' h';exact⟨i+1,h _ (rz h3 h6)⟩|_=>exact⟨_,s,hq,fun Q' h'=>⟨1,h (ir (fun st'=>mg P ρ n0 c 0 st' Q') Q') h'⟩⟩);obtain⟨e,s,hq,h⟩:=key _ a0 hi rfl;refine⟨e,s,hq,fun Q' h'=>?_⟩;obtain⟨j,hj⟩:=h Q' h';exact sC j (rz h0 hj)
theorem fK (ht:TT P tt) (sp:List Nat) {α:Type} (F:α→List (Nat×V)) (M:α→List bm) (μ:α→Nat) (Inv:α→Prop) (a0:α) (k:Nat) {c:Code} (h0:xX n0 k n (F a0) (M a0) st) (hi:Inv a0)
  (step:∀ a,Inv a→∀ K:St→Prop,(∀ s,(∃ a',Inv a'∧μ a'<μ a∧xX n0 k n (F a') (M a') s)→K s)→vc m P tt sp ρ n0 c ⟨W n (F a),M a⟩ (ir K Q)):X k_ m P ρ n0 (.loop c) st Q:=abj F M μ Inv a0 k h0 hi fun a h=>vx ht (step a h _ fun _ h=>h)
def pk (ws:List (Nat×V)):List Nat→List (Nat×V)
 | []=>[]
 | k :: r=>(k,lk k ws) :: pk ws r
def zk:List Nat→List V→List (Nat×V)→List (Nat×V)
 | t :: ts,v :: vs,r=>(t,v) :: zk ts vs r
 | _,_,r=>r
theorem abk {ks:List Nat}:rv ws (pk ws ks):=by induction ks with|nil=>trivial|cons k r ih=>exact⟨rfl,ih⟩
theorem er {k:Nat} {p:Nat×V}:Q7 k (p :: ws)=(aG k p.2&&Q7 k ws):=afj rfl
theorem eZ {k:Nat}:Q7 k []=true:=afj rfl
theorem abl (ht:TT P tt) (sp:List Nat) (ts:List Nat) (Ve:List V) (k:Nat) (ks:List Nat) (μ:List V→Nat) (Inv:List V→Prop) {c:Code} (hn:n0≤k) (h0:rv ob (zk ts Ve (pk ob ks))∧Q7 k (zk ts Ve (pk ob ks))=true∧(kh.take k).all (aS k)=true) (hi:Inv Ve)
  (step:∀ vs,Inv vs→∀ K:St→Prop,(∀ s,(∃ vs',Inv vs'∧μ vs'<μ vs∧xX n0 k n (zk ts vs' (pk ob ks)) (kh.take k) s)→K s)→vc m P tt sp ρ n0 c ⟨W n (zk ts vs (pk ob ks)),kh.take k⟩ (ir K Q)):X k_ m P ρ n0 (.loop c) ⟨W n ob,kh⟩ Q :=
 fK ht sp (fun vs=>zk ts vs (pk ob ks)) (fun _=>kh.take k) μ Inv Ve k (di hn ⟨h0.1,h0.2.1,h0.2.2,rfl⟩) hi step
def eE (ws:List (Nat×V)):List Nat→List V
 | []=>[]
 | t :: r=>lk t ws :: eE ws r
theorem Bm:∀ {ts:List Nat} {r:List (Nat×V)},rv ws r→rv ws (zk ts (eE ws ts) r)
 | [],r,h=>h
 | t :: ts,r,h=>⟨rfl,Bm h⟩
theorem cZ (ht:TT P tt) (sp:List Nat) (ts:List Nat) (k:Nat) (ks:List Nat) (μ:List V→Nat) (Inv:List V→Prop) {c:Code} (hn:n0≤k) (h0:Q7 k (zk ts (eE ob ts) (pk ob ks))=true∧(kh.take k).all (aS k)=true) (hi:Inv (eE ob ts))
  (step:∀ vs,Inv vs→∀ K:St→Prop,(∀ s,(∃ vs',Inv vs'∧μ vs'<μ vs∧xX n0 k n (zk ts vs' (pk ob ks)) (kh.take k) s)→K s)→vc m P tt sp ρ n0 c ⟨W n (zk ts vs (pk ob ks)),kh.take k⟩ (ir K Q)):X k_ m P ρ n0 (.loop c) ⟨W n ob,kh⟩ Q :=
 abl ht sp ts (eE ob ts) k ks μ Inv hn ⟨Bm abk,h0⟩ hi step
theorem fR {ts ks:List Nat} {k j:Nat} {Inv:List V→Prop} {μ:List V→Nat} {Fz:List (Nat×V)} {HS:List bm} (hn:n0≤k) (h:rv Fz (pk ob ks)∧Q7 k (zk ts (eE Fz ts) (pk ob ks))=true∧(kh.take k).all (aS k)=true∧HS.take k=kh.take k) (hi:Inv (eE Fz ts)) (hm:μ (eE Fz ts)<j) :
  ∃ vs',Inv vs'∧μ vs'<j∧xX n0 k n (zk ts vs' (pk ob ks)) (kh.take k) ⟨W n Fz,HS⟩:=⟨_,hi,hm,di hn ⟨Bm h.1,h.2⟩⟩
theorem eI {ts ks:List Nat} {k:Nat} {Inv:List V→Prop} {Fz:List (Nat×V)} {HS:List bm} (hn:n0≤k) (h:rv Fz (pk ob ks)∧Q7 k (zk ts (eE Fz ts) (pk ob ks))=true∧(kh.take k).all (aS k)=true∧HS.take k=kh.take k) (hi:Inv (eE Fz ts)) :
  ∃ vs',Inv vs'∧xX n0 k n (zk ts vs' (pk ob ks)) (kh.take k) ⟨W n Fz,HS⟩:=⟨_,hi,di hn ⟨Bm h.1,h.2⟩⟩
theorem dI (ht:TT P tt) (sp:List Nat) (ts:List Nat) (k:Nat) (ks:List Nat) (Inv:List V→Prop) {x y:Code}
  (h1:∀ K:St→Prop,(∀ s,(∃ vs,Inv vs∧xX n0 k n (zk ts vs (pk ob ks)) (kh.take k) s)→K s)→vc m P tt sp ρ n0 x ⟨W n ob,kh⟩ (ir K Q))
  (h2:∀ vs,Inv vs→vc m P tt sp ρ n0 y ⟨W n (zk ts vs (pk ob ks)),kh.take k⟩ Q):X k_ m P ρ n0 (.seq x y) ⟨W n ob,kh⟩ Q:=by refine Bk ((vx ht (h1 _ fun _ h=>h)).mono fun e s h=>?_);cases e with|normal =>obtain⟨vs,hv,hl⟩:=h;exact KN (k_:=k_) hl (vx ht (h2 vs hv))|_=>exact h
theorem oN (ht:TT P tt) (sp:List Nat) {α:Type} (F:α→List (Nat×V)) (M:α→List bm) (k:Nat) (Inv:α→Prop) {x y:Code}
  (h1:∀ K:St→Prop,(∀ s,(∃ a,Inv a∧xX n0 k n (F a) (M a) s)→K s)→vc m P tt sp ρ n0 x st (ir K Q))
  (h2:∀ a,Inv a→vc m P tt sp ρ n0 y ⟨W n (F a),M a⟩ Q):X k_ m P ρ n0 (.seq x y) st Q:=by refine Bk ((vx ht (h1 _ fun _ h=>h)).mono fun e s h=>?_);cases e with|normal =>obtain⟨a,hv,hl⟩:=h;exact KN (k_:=k_) hl (vx ht (h2 a hv))|_=>exact h
theorem alH {c:Code} {v v':V} (t:Nat) (hn:t<n) (h0:lk t ws=v) (hp:gH mem v=some v') (h:X k_ m P ρ n0 c ⟨W n ((t,v') :: ws),eP mem (fg v)⟩ Q):X k_ m P ρ n0 c ⟨W n ws,mem⟩ Q:=by
 have hg:(⟨W n ws,mem⟩:St).fr[t]?=some v:=by rw [← h0];show (W n ws)[t]?=_;rw [wy,if_pos hn]
 rw [← MI] at h;cases m;·exact aa9 t hg hp h
 exact MH t hg hp h
def Q8 (_:Tk) (P:Program) (f:FuncId) (o:Option (List V)) (st:St) (dst:Option Tmp) (Q:St→Prop):Prop:=∃ vs' r,o=some vs'∧Fc P f vs' r∧Q (st.put dst r)
def Q9 (_:Tk) (P:Program) (f:FuncId) (o:Option (List V)) (st:St) (key:Nat) (dst:Option Tmp) (Q:St→Prop):Prop:=∃ vs' e rs,o=some vs'∧yS P f vs' e rs∧Q (xO st key dst e rs)
def Ra (_:Tk) (P:Program) (f:FuncId) (o:Option (List V)) (keys:List (Nat×Nat)) (st:St) (dst:Option Tmp) (Q:St→Prop):Prop:=∃ vs' r,o=some vs'∧cx P f vs' r∧Q ({ st with mem:=gv st.mem keys r }.put dst r)
def Rb (_:Tk) (P:Program) (f:FuncId) (vs:List V) (k:Nat) (st:St) (dst:Option Tmp) (Q:St→Prop):Prop:=Qn P f vs k st dst Q
def Rc (P:Program) (tt:Table) (o:Oper) (C1 st:St) (Q:St→Prop):Prop :=
 match o.op with
 | .call { callee:=.value f,args:=xs,.. }=>bq tk (da (C1.eval f) (xs.toList.map C1.eval)) fun p=>Q8 tk P p.1 (fw [] p.2) st o.dst Q
 | _=>bq tk (zN P tt o C1) fun v=>Q (st.put o.dst v)
def abm (P:Program) (o:Oper) (key:Nat) (st:St) (Q:St→Prop):Prop :=
 match o.op with
 | .call { callee:=.value f,args:=xs,.. }=>bq tk (da (st.eval f) (xs.toList.map st.eval)) fun p=>Q9 tk P p.1 (fw [] p.2) st key o.dst Q
 | _=>False
def zG (P:Program) (o:Oper) (st:St) (Q:St→Prop):Prop :=
 match o.op with
 | .call { callee:=.value f,args:=xs,.. }=>bq tk (da (st.eval f) (xs.toList.map st.eval)) fun p=>Ra tk P p.1 (fw st.mem p.2) (p.2.flatMap fg) st o.dst Q
 | _=>False
def eG (P:Program) (tt:Table) (o:Oper) (k:Nat) (st:St) (Q:St→Prop):Prop :=
 match o.op with
 | .call { callee:=.value f,args:=xs,.. }=>bq tk (da (st.eval f) (xs.toList.map st.eval)) fun p=>Rb tk P p.1 p.2 k st o.dst Q
 | _=>bq tk (rU tt k o st) fun mem=>Q ({ st with mem:=mem }.put o.dst (.sc undef))
def Re (P:Program) (tt:Table) (base:Nat) (o:Oper) (p:Pl) (st:St) (Q:St→Prop):Prop:=match p.cls with
 | .n=>Rc P tt o { st with mem:=[] } st Q
 | .r=>Rc P tt o { st with mem:=eJ (p.mask.map (base + ·)++p.abs) st.mem } st Q
 | .a=>isHole st.mem (base+p.key)=true∧nq tk (iQ tt o (base+p.key) st) (fun q=>Q ({ st with mem:=st.mem.set (base+p.key) q.1 }.put o.dst q.2)) (abm P o (base+p.key) st Q)
 | .w=>isHole st.mem (base+p.key)=true∧bq tk (o8 P tt (base+p.key) o st) fun q=>Q ({ st with mem:=q.1 }.put o.dst q.2)
 | .s=>bq tk (rU tt (base+p.key) o st) fun mem=>Q ({ st with mem:=mem }.put o.dst (.sc undef))
 | .b=>bq tk (oI tt o { st with mem:=eJ (p.mask.map (base + ·)) st.mem }) fun v=>Q (st.put o.dst v)
 | .z=>zG P o st Q
 | .e=>eG P tt o p.key st Q
theorem abn {all:Array Oper} {base:Nat} {o:Oper} {p:Pl} {Q:St→Prop} (hw:gi all st.fr o=some true) (h:Re P tt base o p st Q):fC P tt all base o p st Q:=by
 have hv:∀ {C1:St},Rc P tt o C1 st Q→oa P tt o C1 st Q:=fun {C1} h=>by unfold Rc at h;unfold oa;split at h;(·rename_i f xs ts lH;rw [lH];dsimp only;rw [lJ] at h;obtain⟨⟨g,vs⟩,h1,h2⟩:=h;rw [h1];exact h2);rename_i lH;split;(·rename_i f xs ts abo;exact (lH f xs ts abo).elim);rw [lJ] at h;obtain⟨v,h1,h2⟩:=h;rw [h1];exact h2
 unfold Re at h;unfold fC;rw [hw];dsimp only;split at h <;> (rename_i hc;rw [hc];dsimp only);·exact hv h
 ·exact hv h
 ·refine⟨h.1,?_⟩;have h:=h.2;cases hn:iQ tt o (base+p.key) st with|some q=>rw [hn,wu] at h;exact h|none =>rw [hn,wx] at h;dsimp only;unfold abm at h;unfold uX;split at h;(·rename_i lH;rw [lH];dsimp only;rw [lJ] at h;obtain⟨⟨g,vs⟩,h1,h2⟩:=h;rw [h1];exact h2);exact h.elim
 ·refine⟨h.1,?_⟩;have h:=h.2;rw [lJ] at h;obtain⟨q,h1,h2⟩:=h;rw [h1];exact h2
 ·rw [lJ] at h;obtain⟨q,h1,h2⟩:=h;rw [h1];exact h2
 ·rw [lJ] at h;obtain⟨q,h1,h2⟩:=h;rw [h1];exact h2
 ·unfold zG at h;unfold qn;split at h;(·rename_i lH;rw [lH];dsimp only;rw [lJ] at h;obtain⟨⟨g,vs⟩,h1,h2⟩:=h;rw [h1];exact h2);exact h.elim
 unfold eG at h;unfold vY;split at h;·rename_i lH;rw [lH];dsimp only;rw [lJ] at h;obtain⟨⟨g,vs⟩,h1,h2⟩:=h;rw [h1];exact h2
 rename_i lH;rw [lJ] at h;obtain⟨m,h1,h2⟩:=h;split;·rename_i f xs ts abo;exact (lH _ _ _ abo).elim
 rw [h1];exact h2
def FA (P:Program) (tt:Table) (all:List Oper) (base:Nat):List Oper→List Pl→St→(St→Prop)→Prop
 | [],_,st,K=>K st
 | o :: r,p :: ps,st,K=>gd all o st (fun st=>Re P tt base o p st fun st'=>FA P tt all base r ps st' K) (fun st=>FA P tt all base r ps (st.put o.dst (.sc undef)) K)
 | _ :: _,[],_,_=>False
theorem abp {all:List Oper} {base:Nat} {ps:List Pl} {K:St→Prop}:FA P tt all base [] ps ⟨W n ws,mem⟩ K=K ⟨W n ws,mem⟩:=l0 rfl
theorem abq {all:List Oper} {base:Nat} {o:Oper} {r:List Oper} {p:Pl} {ps:List Pl} {K:St→Prop}:FA P tt all base (o :: r) (p :: ps) ⟨W n ws,mem⟩ K=gd all o ⟨W n ws,mem⟩ (fun st=>Re P tt base o p st fun st'=>FA P tt all base r ps st' K) (fun st=>FA P tt all base r ps (st.put o.dst (.sc undef)) K):=l0 rfl
theorem Ae {all:Array Oper} {base:Nat} {Q:St→Prop}:∀ (l:List Oper) (ps:List Pl) (st:St),FA P tt all.toList base l ps st Q→runM P tt all base l ps st Q
 | [],ps,st,h=>h
 | o :: r,[],st,h=>h.elim
 | o :: r,p :: ps,st,h=>by
  rw [runM]
  rcases YO (show gd all.toList o st _ _ from h) with ⟨hw,h⟩|⟨hw,h⟩
  ·have h:=abn hw h
   by_cases hz:p.cls = .z
   ·unfold fC at h ⊢
    rw [hw,hz] at h ⊢
    exact AZ h fun s hs=>Ae r ps s hs
   obtain⟨v,m,h1,h2⟩:=(j1 hz).1 h
   exact (j1 hz).2 ⟨v,m,h1,Ae r ps _ h2⟩
  unfold fC
  rw [hw]
  exact Ae r ps _ h
theorem dW (ht:TT P tt) (hm:P.follows .mixedOrders=true) (plan:List Pl) (j:Nat) {id:Nat} {ops:Array Oper} (fF:wb ops plan=true) (h:FA P tt ops.toList st.mem.length ops.toList plan { st with mem:=st.mem++List.replicate j .hole } (Q .normal)):X k_ m P ρ n0 (.region id ops true) st Q:=by
 have h:=Ae _ _ _ h;cases m;·obtain⟨s,h1,h2⟩:=Ad _ _ _ h;exact⟨.normal,s,h1,fun Q' h'=>qs ht hm plan j fF (h2 _ h')⟩
 exact qs ht hm plan j fF h
theorem abr (ht:TT P tt) (sp:List Nat) (hm:P.follows .mixedOrders=true) (plan:List Pl) (j:Nat) {id:Nat} {ops:Array Oper} {y:Code} (fF:wb ops plan=true)
  (h:FA P tt ops.toList st.mem.length ops.toList plan { st with mem:=st.mem++List.replicate j .hole } fun s=>vc m P tt sp ρ n0 y s Q):X k_ m P ρ n0 (.seq (.region id ops true) y) st Q :=
 Bk ((dW (Q:=ir (fun s=>vc m P tt sp ρ n0 y s Q) Q) ht hm plan j fF h).mono (Bl ht))
section
variable {k:Tk} {f:FuncId} {vs vs':List V} {o:Option (List V)} {keys:List (Nat×Nat)} {dst:Option Tmp} {Q:St→Prop}
theorem cF {R:V→Prop} (hr:∃ v,R v∧cx P f vs' v) (h:∀ v,R v→Q ({ st with mem:=gv st.mem keys v }.put dst v)):sW k m P f vs (some vs') keys st dst Q:=by obtain⟨v,h1,h2⟩:=hr;exact .inl ⟨vs',v,rfl,h2,h v h1⟩
theorem cN {R:V→Prop} (hr:∃ v,R v∧sx P f vs v) (h:∀ v,R v→Q (st.put dst v)):sW k m P f vs o keys st dst Q:=by obtain⟨v,h1,h2⟩:=hr;exact .inr (.inr (.inr ⟨v,h2,h v h1⟩))
theorem cW {R:V→List bm→Prop} (hr:∃ v m',R v m'∧bw P f vs st.mem v m') (h:∀ v m',R v m'→Q ({ st with mem:=m' }.put dst v)):sW k m P f vs o keys st dst Q:=by obtain⟨v,m',h1,h2⟩:=hr;exact .inr (.inl ⟨v,m',h2,h v m' h1⟩)
theorem cS {R:V→Prop} (hr:∃ v,R v∧bw P f vs st.mem v st.mem) (h:∀ v,R v→Q (st.put dst v)):sW k m P f vs o keys st dst Q:=by obtain⟨v,h1,h2⟩:=hr;exact .inr (.inl ⟨v,_,h2,h v h1⟩)
theorem cG {R:V→Prop} (hr:∃ v,R v∧cx P f vs' v) (h:∀ v,R v→Q (st.put dst v)):Q8 k P f (some vs') st dst Q:=by obtain⟨v,h1,h2⟩:=hr;exact⟨vs',v,rfl,.inl h2,h v h1⟩
theorem Rf {e:Nat} {rs:List V} {key:Nat} (hr:yS P f vs' e rs) (h:Q (xO st key dst e rs)):Q9 k P f (some vs') st key dst Q:=⟨vs',e,rs,rfl,hr,h⟩
theorem cGZ {v:V} (hr:cx P f vs' v) (h:Q ({ st with mem:=gv st.mem keys v }.put dst v)):Ra k P f (some vs') keys st dst Q:=⟨vs',v,rfl,hr,h⟩
theorem xu {R:V→bm→Prop} {j:Nat} {B0:bm} (hv:st.mem[j]?=some B0) (h0:B0.dF=0) (hr:∃ v B,R v B∧B.dF=0∧bw P f vs st.mem v (st.mem.set j B)) (h:∀ v B,R v B→Q ({ st with mem:=st.mem.set j B }.put dst v)):Rb k P f vs j st dst Q:=by obtain⟨v,B,h1,h2,h3⟩:=hr;exact⟨v,B0,B,h0,h2,hv,h3,h v B h1⟩
end
def C4:Nat→List V→List (Nat×V)
 | i,v :: vs=>(i,v) :: C4 (i+1) vs
 | _,[]=>[]
theorem MO:∀ (vs:List V) (i t:Nat),lk t (C4 i vs)=if i≤t then vs.getD (t-i) .undef else .undef
 | [],i,t=>by simp [C4,lk]
 | v :: vs,i,t=>by
  simp only [C4,lk]
  rw [MO vs (i+1) t]
  by_cases h:i=t
  ·subst h;simp
  rw [if_neg h]
  by_cases h2:i+1≤t
  ·rw [if_pos h2,if_pos (by omega),show t-i=(t-(i+1))+1 by omega];simp
  rw [if_neg h2,if_neg (by omega)]
theorem MQ {fn:Func} {args:List V} {c:Code} (hn:fn.ntmps=n) (hl:args.length≤n) (h:X k_ m P ρ n0 c ⟨W n (C4 0 args),mem⟩ Q):X k_ m P ρ n0 c (cB fn args mem) Q:=by
 refine Fx (st':=⟨W n (C4 0 args),mem⟩) (fun E w a hs=>⟨hs.F,hs.lt,hs.mem,hs.top,hs.dF,hs.apart,?_⟩) h;have hr:=hs.fr;simp only [cB,hn] at hr;refine⟨by rw [← hr.1,sX,bc,List.length_replicate];omega,fun i v x hv hx=>?_⟩;rw [wy] at hv;split at hv;·rename_i hi;cases hv;rw [MO,if_pos (aW _),UW,eU];cases ha:args[i]? with|none=>exact .undef _ _|some v=>exact hr.2 i v x (by rw [bx (aq.1 ha).1];exact ha) hx
 cases hv
def Wo (R:V→Prop) (o:Option V):Prop:=∃ r,R r∧o=some r
theorem Od {R:V→Prop} {v:V}:Wo R (some v)=R v:=propext ⟨fun ⟨_,h,e⟩=>by cases e;exact h,fun h=>⟨v,h,rfl⟩⟩
theorem Rg {K:V→Prop} {L:List V} {k:Nat} (h:L.length=k) (hk:K (.slice L)):Wo K (if k≤L.length then some (.slice (L.take k)) else none):=by subst h;rw [if_pos (ax _),au];exact⟨_,hk,rfl⟩
def aft (R:V→Prop) (tt:Table) (rs:Array ResultVar) (e:Exit) (s:St):Prop:=(e = .ret∨e = .normal)∧Wo R (rT tt rs s)
theorem Rh {R:V→Prop} {rs:Array ResultVar}:aft R tt rs .ret ⟨W n ws,mem⟩=Wo R (rT tt rs ⟨W n ws,mem⟩):=propext ⟨fun h=>h.2,fun h=>⟨.inl rfl,h⟩⟩
def Wp (R:V→List bm→Prop) (k:Nat) (o:Option V) (mem:List bm):Prop:=∃ r,R r mem∧o=some r∧aG k r=true∧mem.all (aS k)=true
theorem Oe {R:V→List bm→Prop} {k:Nat} {v:V}:Wp R k (some v) mem=(R v mem∧aG k v=true∧mem.all (aS k)=true):=propext ⟨fun ⟨_,h,e,h2⟩=>by cases e;exact⟨h,h2⟩,fun ⟨h,h2⟩=>⟨v,h,rfl,h2⟩⟩
def Wq (R:V→List bm→Prop) (k:Nat) (tt:Table) (rs:Array ResultVar) (e:Exit) (s:St):Prop:=(e = .ret∨e = .normal)∧Wp R k (lI tt rs s) (s.mem.take k)
theorem Ri {R:V→List bm→Prop} {k:Nat} {rs:Array ResultVar}:Wq R k tt rs .ret ⟨W n ws,mem⟩=Wp R k (lI tt rs ⟨W n ws,mem⟩) (mem.take k):=propext ⟨fun h=>h.2,fun h=>⟨.inl rfl,h⟩⟩
theorem Of {R:V→List bm→Prop} {k:Nat} {rs:Array ResultVar}:Wq R k tt rs .normal ⟨W n ws,mem⟩=Wp R k (lI tt rs ⟨W n ws,mem⟩) (mem.take k):=propext ⟨fun h=>h.2,fun h=>⟨.inr rfl,h⟩⟩
end
section
variable {P:Program} {tt:Table} {f:FuncId} {fn:Func} {body:Code} {args:List V}
theorem fZ (ht:TT P tt) (sp:List Nat) (n:Nat) (rs:List ResultVar) {R:V→Prop} (hf:P.funcs[f]?=some fn) (hb:fn.body=some body)
  (gM:∀ (xs:Array Value) (w:World),(callFunc f xs).run P w = .ok (.enter f xs) w) (hn:fn.ntmps=n∧fn.results=rs.toArray∧args.length≤n)
  (h:∀ K:V→Prop,(∀ v,R v→K v)→vc false P tt sp none 0 body ⟨W n (C4 0 args),[]⟩ (aft K tt rs.toArray)):∃ r,R r∧cx P f args r:=by have h:=h R fun _ h=>h;obtain⟨e,s,⟨h1,r,hr,h2⟩,h3⟩:=MQ (m:=false) hn.1 hn.2.2 (vx (k_:=.b) ht h);exact⟨r,hr,jU ht hf hb gM (h3 _ ⟨h1,by rw [hn.2.1];exact h2⟩)⟩
theorem MR (ht:TT P tt) (sp:List Nat) (n:Nat) (rs:List ResultVar) {R:V→List bm→Prop} {mem:List bm} (k:Nat) (hk:mem.length≤k) (hf:P.funcs[f]?=some fn) (hb:fn.body=some body)
  (gM:∀ (xs:Array Value) (w:World),(callFunc f xs).run P w = .ok (.enter f xs) w) (hn:fn.ntmps=n∧fn.results=rs.toArray∧args.length≤n)
  (h:∀ K:V→List bm→Prop,(∀ v m',R v m'→K v m')→vc false P tt sp none mem.length body ⟨W n (C4 0 args),mem⟩ (Wq K k tt rs.toArray)):∃ r m',R r m'∧bw P f args mem r m':=by have h:=h R fun _ _ h=>h;obtain⟨e,s,⟨h1,r,hr,h2,h4⟩,h5⟩:=MQ (m:=false) hn.1 hn.2.2 (vx (k_:=.b) ht h);exact⟨r,_,hr,kY ht k hk hf hb gM (h5 _ ⟨h1,by rw [hn.2.1];exact h2,h4.1,h4.2,rfl⟩)⟩
theorem DN (ht:TT P tt) (sp:List Nat) (n:Nat) (rs:List ResultVar) {R:V→Prop} {mem:List bm} (hf:P.funcs[f]?=some fn) (hb:fn.body=some body)
  (gM:∀ (xs:Array Value) (w:World),(callFunc f xs).run P w = .ok (.enter f xs) w) (hn:fn.ntmps=n∧fn.results=rs.toArray∧args.length≤n)
  (h:∀ K:V→List bm→Prop,(∀ v m',R v∧m'=mem→K v m')→vc false P tt sp none mem.length body ⟨W n (C4 0 args),mem⟩ (Wq K mem.length tt rs.toArray)):∃ r,R r∧bw P f args mem r mem:=by obtain⟨r,m',⟨hr,rfl⟩,h⟩:=MR ht sp n rs (R:=fun r m'=>R r∧m'=mem) mem.length (ax _) hf hb gM hn h;exact⟨r,hr,h⟩
end
end Go.Eng
end
section
namespace Go.Eng
variable [bk]
open Go.RowKit (Below)
mutual
def fO (σ:Nat→Nat):V→V
 | .undef=>.undef
 | .sc v=>.sc v
 | .agg cs=>.agg (ki σ cs)
 | .slice rows=>.slice rows
 | .ms b v s l=>.ms (σ b) v s l
 | .ptr b o=>.ptr (σ b) o
 | .iw b v i o=>.iw (σ b) v i o
 | .eW cs=>.eW cs
 | .dU f first cap=>.dU f (ki σ first) (ki σ cap)
 | .ec vs=>.ec (ki σ vs)
 | .km b=>.km (σ b)
 | .mp b=>.mp (σ b)
 | .gn=>.gn
 | .full rows=>.full rows
def ki (σ:Nat→Nat):List V→List V
 | []=>[]
 | c :: r=>fO σ c :: ki σ r
end
theorem iL (σ:Nat→Nat):∀ l:List V,ki σ l=l.map (fO σ)
 | []=>rfl
 | c :: r=>by rw [ki,iL σ r];rfl
def nR (σ:Nat→Nat):bm→bm
 | .box cs=>.box (ki σ cs)
 | .loop s p fr ps a b=>.loop s p (ki σ fr) ps a b
 | .map dK c=>.map (dK.map fun e=>(e.1,e.2.1,fO σ e.2.2)) c
 | .jR m since seen last=>.jR (σ m) since seen last
 | B=>B
theorem HT (σ:Nat→Nat) (B:bm):(nR σ B).dF=B.dF:=by cases B <;> rfl
theorem cV.oO {E:Env} {v:V} {x:Value} (h:cV E v x):∀ {n:Nat} {σ:Nat→Nat} {E2:Env},aG n v=true→(∀ ad y,E.F ad=some y→E2.F ad=some y)→(∀ k v t,k<n→E.cw k v=some t→E2.cw (σ k) v=some t)→cV E2 (fO σ v) x:=by induction h with|undef=>intros;exact .undef _ _|sc=>intros;exact .sc _ _|slice E rows a cap uO ad xf ha n6 hz hF h1 hR ih =>intro n σ E2 hb kM hk;exact .slice _ _ _ _ uO ad xf ha n6 hz (fun i row j c hi hj=>kM _ _ (hF i row j c hi hj)) h1 fun i row j c hi hj=>(hR i row j c hi hj).mono ⟨kM,fun _ _ _ h=>by cases h⟩|ms E b v s l g e c a cap gN hl h0 Dm =>intro n σ E2 hb kM hk;exact .ms _ _ _ _ _ g e c _ _ (hk _ _ _ (by simpa [aG] using hb) gN) hl h0 Dm|jl=>intros;exact .jl _ _ _ _|ptr E b o g e c gN =>intro n σ E2 hb kM hk;exact .ptr _ _ _ g e c (hk _ _ _ (by simpa [aG] using hb) gN)|km E b l e c gN =>intro n σ E2 hb kM hk;exact .km _ _ l e c (hk _ _ _ (by simpa [aG] using hb) gN)|mp E b l e c gN =>intro n σ E2 hb kM hk;exact .mp _ _ l e c (hk _ _ _ (by simpa [aG] using hb) gN)|iw E b v i o g e c gN =>intro n σ E2 hb kM hk;exact .iw _ _ _ _ _ g e c (hk _ _ _ (by simpa [aG] using hb) gN)|eW E cs ad xf hF hR ih =>intro n σ E2 hb kM hk;exact .eW _ _ _ xf (fun j c hj=>kM _ _ (hF j c hj)) fun j c hj=>(hR j c hj).mono ⟨kM,fun _ _ _ h=>by cases h⟩|gn=>intros;exact .gn _|full E rows a h ih =>intro n σ E2 hb kM hk;exact .full _ _ _ (ih (n:=n) (σ:=σ) rfl kM hk)|agg E cs xs hl hh ih =>intro n σ E2 hb kM hk;rw [aG,gI] at hb;rw [fO,iL];refine .agg _ _ _ (by rw [aw];exact hl) fun i c x hc hx=>?_;rw [ae,bH] at hc;obtain⟨c0,HH,rfl⟩:=hc;exact ih i c0 x HH hx (aX.1 hb c0 (ay HH)) kM hk|ec E cs xs hl hh ih =>intro n σ E2 hb kM hk;rw [aG,gI] at hb;rw [fO,iL];refine .ec _ _ _ (by rw [aw];exact hl) fun i c x hc hx=>?_;rw [ae,bH] at hc;obtain⟨c0,HH,rfl⟩:=hc;exact ih i c0 x HH hx (aX.1 hb c0 (ay HH)) kM hk|dU E f first cap xs ys hx hy h1 h2 ZU ZV =>intro n σ E2 hb kM hk;rw [aG,gI,gI,aD] at hb;rw [fO,iL,iL];refine .dU _ _ _ _ _ _ (by rw [aw];exact hx) (by rw [aw];exact hy) (fun i c x hc hx=>?_) fun i c x hc hx=>?_;(·rw [ae,bH] at hc;obtain⟨c0,HH,rfl⟩:=hc;exact ZU i c0 x HH hx (aX.1 hb.1 c0 (ay HH)) kM hk);rw [ae,bH] at hc;obtain⟨c0,HH,rfl⟩:=hc;exact ZV i c0 x HH hx (aX.1 hb.2 c0 (ay HH)) kM hk
theorem cV.y5 {E:Env} {u:V} {x:Value} (h:cV E u x):∀ {v:V} {n:Nat} {σ:Nat→Nat} {E2:Env},u=fO σ v→aG n v=true→(∀ ad y,E.F ad=some y→E2.F ad=some y)→(∀ k v t,k<n→E.cw (σ k) v=some t→E2.cw k v=some t)→cV E2 v x:=by induction h with|undef =>intro v n σ E2 he hb kM hk;cases v <;> simp only [fO,reduceCtorEq] at he;exact .undef _ _|sc =>intro v n σ E2 he hb kM hk;cases v <;> simp only [fO,reduceCtorEq,V.sc.injEq] at he;subst he;exact .sc _ _|slice E rows a cap uO ad xf ha n6 hz hF h1 hR ih =>intro v n σ E2 he hb kM hk;cases v <;> simp only [fO,reduceCtorEq,V.slice.injEq] at he;subst he;exact .slice _ _ _ _ uO ad xf ha n6 hz (fun i row j c hi hj=>kM _ _ (hF i row j c hi hj)) h1 fun i row j c hi hj=>(hR i row j c hi hj).mono ⟨kM,fun _ _ _ h=>by cases h⟩|ms E b v s l g e c a cap gN hl h0 Dm =>intro v n σ E2 he hb kM hk;cases v <;> simp only [fO,reduceCtorEq,V.ms.injEq] at he;obtain⟨rfl,rfl,rfl,rfl⟩:=he;exact .ms _ _ _ _ _ g e c _ _ (hk _ _ _ (by simpa [aG] using hb) gN) hl h0 Dm|jl =>intro v n σ E2 he hb kM hk;cases v <;> simp only [fO,reduceCtorEq,V.ms.injEq] at he;obtain⟨rfl,rfl,rfl,rfl⟩:=he;exact .jl _ _ _ _|ptr E b o g e c gN =>intro v n σ E2 he hb kM hk;cases v <;> simp only [fO,reduceCtorEq,V.ptr.injEq] at he;obtain⟨rfl,rfl⟩:=he;exact .ptr _ _ _ g e c (hk _ _ _ (by simpa [aG] using hb) gN)|km E b l e c gN =>intro v n σ E2 he hb kM hk;cases v <;> simp only [fO,reduceCtorEq,V.km.injEq] at he;subst he;exact .km _ _ l e c (hk _ _ _ (by simpa [aG] using hb) gN)|mp E b l e c gN =>intro v n σ E2 he hb kM hk;cases v <;> simp only [fO,reduceCtorEq,V.mp.injEq] at he;subst he;exact .mp _ _ l e c (hk _ _ _ (by simpa [aG] using hb) gN)|iw E b v i o g e c gN =>intro v n σ E2 he hb kM hk;cases v <;> simp only [fO,reduceCtorEq,V.iw.injEq] at he;obtain⟨rfl,rfl,rfl,rfl⟩:=he;exact .iw _ _ _ _ _ g e c (hk _ _ _ (by simpa [aG] using hb) gN)|eW E cs ad xf hF hR ih =>intro v n σ E2 he hb kM hk;cases v <;> simp only [fO,reduceCtorEq,V.eW.injEq] at he;subst he;exact .eW _ _ _ xf (fun j c hj=>kM _ _ (hF j c hj)) fun j c hj=>(hR j c hj).mono ⟨kM,fun _ _ _ h=>by cases h⟩|full E rows a h ih =>intro v n σ E2 he hb kM hk;cases v <;> simp only [fO,reduceCtorEq,V.full.injEq] at he;subst he;exact .full _ _ _ (ih (v:=.slice rows) (n:=n) (σ:=σ) rfl rfl kM hk)|gn =>intro v n σ E2 he hb kM hk;cases v <;> simp only [fO,reduceCtorEq] at he;exact .gn _|agg E cs xs hl hh ih =>intro v n σ E2 he hb kM hk;cases v <;> simp only [fO,reduceCtorEq,V.agg.injEq] at he;subst he;rw [aG,gI] at hb;rw [iL,aw] at hl;refine .agg _ _ _ hl fun i c x hc hx=>?_;exact ih i (fO σ c) x (by rw [iL,ae,hc];rfl) hx rfl (aX.1 hb c (ay hc)) kM hk|ec E cs xs hl hh ih =>intro v n σ E2 he hb kM hk;cases v <;> simp only [fO,reduceCtorEq,V.ec.injEq] at he;subst he;rw [aG,gI] at hb;rw [iL,aw] at hl;refine .ec _ _ _ hl fun i c x hc hx=>?_;exact ih i (fO σ c) x (by rw [iL,ae,hc];rfl) hx rfl (aX.1 hb c (ay hc)) kM hk|dU E f first cap xs ys hx hy h1 h2 ZU ZV =>intro v n σ E2 he hb kM hk;cases v <;> simp only [fO,reduceCtorEq,V.dU.injEq] at he;obtain⟨rfl,rfl,rfl⟩:=he;rw [aG,gI,gI,aD] at hb;rw [iL,aw] at hx hy;refine .dU _ _ _ _ _ _ hx hy (fun i c x hc hx=>?_) fun i c x hc hx=>?_;(·exact ZU i (fO σ c) x (by rw [iL,ae,hc];rfl) hx rfl (aX.1 hb.1 c (ay hc)) kM hk);exact ZV i (fO σ c) x (by rw [iL,ae,hc];rfl) hx rfl (aX.1 hb.2 c (ay hc)) kM hk
theorem cJ.oO {E E2:Env} {vs:List V} {xs:List Value} {n:Nat} {σ:Nat→Nat} (h:cJ E vs xs) (hb:vs.all (aG n)=true) (hF:∀ ad y,E.F ad=some y→E2.F ad=some y) (hk:∀ k v t,k<n→E.cw k v=some t→E2.cw (σ k) v=some t):cJ E2 (ki σ vs) xs:=by rw [iL];refine⟨by rw [aw];exact h.1,fun i v x hv hx=>?_⟩;rw [ae,bH] at hv;obtain⟨c,hc,rfl⟩:=hv;exact (h.2 i c x hc hx).oO (aX.1 hb c (ay hc)) hF hk
theorem cJ.y5 {E E2:Env} {vs:List V} {xs:List Value} {n:Nat} {σ:Nat→Nat} (h:cJ E (ki σ vs) xs) (hb:vs.all (aG n)=true) (hF:∀ ad y,E.F ad=some y→E2.F ad=some y) (hk:∀ k v t,k<n→E.cw (σ k) v=some t→E2.cw k v=some t):cJ E2 vs xs:=by rw [iL] at h;refine⟨by have:=h.1;rwa [aw] at this,fun i v x hv hx=>?_⟩;exact (h.2 i (fO σ v) x (by rw [ae,hv];rfl) hx).y5 rfl (aX.1 hb v (ay hv)) hF hk
theorem oA.oO {E E2:Env} {w w2:World} {k:Nat} {B:bm} {n:Nat} {σ:Nat→Nat} (h:oA E w k B) (mh:k<n) (hb:aS n B=true) (hF:E2.F=E.F) (hk:∀ k v,k<n→E2.cw (σ k) v=E.cw k v) (hw:w2.heap=w.heap):oA E2 w2 (σ k) (nR σ B):=by
 have Kb:∀ ad y,E.F ad=some y→E2.F ad=some y:=fun ad y h=>by rw [hF];exact h
 have iA:∀ k v t,k<n→E.cw k v=some t→E2.cw (σ k) v=some t:=fun k v t hn h=>by rw [hk k v hn];exact h
 have hp:E2.pure=E.pure:=Env.NA hF rfl;cases B with|hole=>(exact fun v=>by rw [hk k v mh];exact h v)|dead=>trivial|box cs =>obtain⟨g,T,xs,h1,h2,h3,h4⟩:=h;exact⟨g,T,xs,iA _ _ _ mh h1,by rw [hw];exact h2,h3.oO hb Kb iA,fun o=>by rw [hF];exact h4 o⟩|rows v e rs =>((rcases h with ⟨h1,h2⟩|⟨g,T,xs,c,h1,h2,h3,h4,h5,h6⟩);(·exact .inl ⟨h1,by rw [hk k v mh];exact h2⟩);exact .inr ⟨g,T,xs,c,iA _ _ _ mh h1,by rw [hw];exact h2,h3,h4,by rw [hp];exact h5,fun o=>by rw [hF];exact h6 o⟩)|vB v e rs =>((rcases h with ⟨h1,h2⟩|⟨g,c,h1,h2,h3⟩);(·exact .inl ⟨h1,by rw [hk k v mh];exact h2⟩);exact .inr ⟨g,c,iA _ _ _ mh h1,h2,by rw [hp,hF];exact h3⟩)|loop s n7 fr params assign body =>obtain⟨l,fn,tmps,db,h1,h2,h3,h4⟩:=h;exact⟨l,fn,tmps,db,iA _ _ _ mh h1,by rw [hw];exact h2,h3.oO hb Kb iA,fun o=>by rw [hF];exact h4 o⟩|map dK clock =>obtain⟨g,es,h1,h2,h3,h4⟩:=h;refine⟨g,es,iA _ _ _ mh h1,by rw [hw];exact h2,⟨by rw [aw];exact h3.1,fun i kb e lf he=>?_⟩,fun o=>by rw [hF];exact h4 o⟩;rw [ae,bH] at lf;obtain⟨q,hq,rfl⟩:=lf;obtain⟨p1,p2,p3⟩:=h3.2 i q e hq he;exact⟨p1,p2,p3.oO (aX.1 hb q (ay hq)) Kb iA⟩|jR m since seen last =>obtain⟨g,gm,e,c,h1,h2,h3,h4⟩:=h;exact⟨g,gm,e,c,iA _ _ _ mh h1,iA _ _ _ (by simpa [aS] using hb) h2,by rw [hw];exact h3,fun o=>by rw [hF];exact h4 o⟩|nY s pos =>obtain⟨g,h1,h2,h3⟩:=h;exact⟨g,iA _ _ _ mh h1,by rw [hw];exact h2,fun o=>by rw [hF];exact h3 o⟩|oz =>obtain⟨g,h1,h2,h3⟩:=h;exact⟨g,iA _ _ _ mh h1,by rw [hw];exact h2,fun o=>by rw [hF];exact h3 o⟩
theorem oA.y5 {E E2:Env} {w:World} {k:Nat} {B:bm} {n:Nat} {σ:Nat→Nat} (h:oA E w (σ k) (nR σ B)) (mh:k<n) (hb:aS n B=true) (hF:E2.F=E.F) (hk:∀ k v,k<n→E2.cw k v=E.cw (σ k) v):oA E2 w k B:=by
 have Kb:∀ ad y,E.F ad=some y→E2.F ad=some y:=fun ad y h=>by rw [hF];exact h
 have iA:∀ k v t,k<n→E.cw (σ k) v=some t→E2.cw k v=some t:=fun k v t hn h=>by rw [hk k v hn];exact h
 have hp:E2.pure=E.pure:=Env.NA hF rfl;cases B with|hole=>(exact fun v=>by rw [hk k v mh];exact h v)|dead=>trivial|box cs =>obtain⟨g,T,xs,h1,h2,h3,h4⟩:=h;exact⟨g,T,xs,iA _ _ _ mh h1,h2,h3.y5 hb Kb iA,fun o=>by rw [hF];exact h4 o⟩|rows v e rs =>((rcases h with ⟨h1,h2⟩|⟨g,T,xs,c,h1,h2,h3,h4,h5,h6⟩);(·exact .inl ⟨h1,by rw [hk k v mh];exact h2⟩);exact .inr ⟨g,T,xs,c,iA _ _ _ mh h1,h2,h3,h4,by rw [hp];exact h5,fun o=>by rw [hF];exact h6 o⟩)|vB v e rs =>((rcases h with ⟨h1,h2⟩|⟨g,c,h1,h2,h3⟩);(·exact .inl ⟨h1,by rw [hk k v mh];exact h2⟩);exact .inr ⟨g,c,iA _ _ _ mh h1,h2,by rw [hp,hF];exact h3⟩)|loop s n7 fr params assign body =>obtain⟨l,fn,tmps,db,h1,h2,h3,h4⟩:=h;exact⟨l,fn,tmps,db,iA _ _ _ mh h1,h2,h3.y5 hb Kb iA,fun o=>by rw [hF];exact h4 o⟩|map dK clock =>obtain⟨g,es,h1,h2,h3,h4⟩:=h;refine⟨g,es,iA _ _ _ mh h1,h2,⟨by have:=h3.1;rwa [aw] at this,fun i q e hq he=>?_⟩,fun o=>by rw [hF];exact h4 o⟩;obtain⟨p1,p2,p3⟩:=h3.2 i _ e (by rw [ae,hq];rfl) he;exact⟨p1,p2,p3.y5 rfl (aX.1 hb q (ay hq)) Kb iA⟩|jR m since seen last =>obtain⟨g,gm,e,c,h1,h2,h3,h4⟩:=h;exact⟨g,gm,e,c,iA _ _ _ mh h1,iA _ _ _ (by simpa [aS] using hb) h2,h3,fun o=>by rw [hF];exact h4 o⟩|nY s pos =>obtain⟨g,h1,h2,h3⟩:=h;exact⟨g,iA _ _ _ mh h1,h2,fun o=>by rw [hF];exact h3 o⟩|oz =>obtain⟨g,h1,h2,h3⟩:=h;exact⟨g,iA _ _ _ mh h1,h2,fun o=>by rw [hF];exact h3 o⟩
def lK (σ:Nat→Nat):Nat→List bm→List bm→List bm
 | _,[],M=>M
 | i,B :: r,M=>lK σ (i+1) r (M.set (σ i) (nR σ B))
def xY (σ:Nat→Nat) (n:Nat) (bV M:List bm):List bm:=lK σ 0 (bV.take n) M++(bV.drop n).map (nR σ)
theorem j3 (σ:Nat→Nat):∀ (l:List bm) (i:Nat) (M:List bm),(lK σ i l M).length=M.length
 | [],_,_=>rfl
 | B :: r,i,M=>by rw [lK,j3 σ r];simp
theorem xZ (σ:Nat→Nat):∀ (l:List bm) (i:Nat) (M:List bm) (k:Nat),(∀ j,i≤j→j<i+l.length→σ j≠k)→(lK σ i l M)[k]?=M[k]?
 | [],_,_,_,_=>rfl
 | B :: r,i,M,k,h=>by
  rw [lK,xZ σ r (i+1) _ k fun j h1 h2=>h j (by omega) (by simp;omega),cL (h i (ax _) (by simp))]
theorem DO (σ:Nat→Nat):∀ (l:List bm) (i:Nat) (M:List bm) (j:Nat) (B:bm),(∀ a b,i≤a→a<i+l.length→i≤b→b<i+l.length→σ a=σ b→a=b)→i≤j→l[j-i]?=some B→σ j<M.length→(lK σ i l M)[σ j]?=some (nR σ B)
 | [],_,_,_,_,_,_,h,_=>by simp at h
 | C :: r,i,M,j,B,x2,JM,h,bR=>by
  rw [lK]
  by_cases hj:j=i
  ·subst hj
   rw [cI] at h;cases h
   rw [xZ σ r (j+1) _ (σ j) fun a h1 h2 e=>by have:=x2 a j (by omega) (by simp;omega) (ax _) (by simp) e;omega]
   rw [bK];simp [bR]
  refine DO σ r (i+1) _ j B (fun a b h1 h2 h3 h4=>x2 a b (by omega) (by simp;omega) (by omega) (by simp;omega)) (by omega) ?_ (by simpa using bR)
  rw [show j-i=(j-(i+1))+1 by omega] at h
  simpa using h
theorem bw.oO {P:Program} {f:FuncId} {vs:List V} {r:V} {mem bV:List bm} (h:bw P f vs mem r bV) (M:List bm) (σ:Nat→Nat) (n:Nat) (hn:n=mem.length) (hv:vs.all (aG n)=true) (hm:mem.all (aS n)=true) (hr:aG bV.length r=true)
  (hm':bV.all (aS bV.length)=true) (hlen:n≤bV.length) (hσ:∀ i B,mem[i]?=some B→M[σ i]?=some (nR σ B)) (x2:∀ i j,i<n→j<n→σ i=σ j→i=j) (pQ:∀ j,n≤j→σ j=M.length+(j-n)) :
  bw P f (ki σ vs) M (fO σ r) (xY σ n bV M):=by
 subst hn;have hold:∀ i,i<mem.length→σ i<M.length:=fun i hi=>(aq.1 (hσ i _ (af hi))).1;have hL:(xY σ mem.length bV M).length=M.length+(bV.length-mem.length):=by unfold xY;rw [bc,j3,aw,ux]
 have N0:∀ i B,bV[i]?=some B→(xY σ mem.length bV M)[σ i]?=some (nR σ B):=fun i B hi=>by unfold xY;(rcases br i mem.length with bR|hZ);(·rw [bx (by rw [j3];exact hold i bR)];refine DO σ _ 0 M i B (fun a b _ h2 _ h4 he=>?_) (aW _) (by rw [UW,jO bR];exact hi) (hold i bR);rw [cn] at h2 h4;exact x2 a b (by omega) (by omega) he);rw [pQ i hZ,a6 (by rw [j3];omega),j3,ef,ae,CM,show mem.length+(i-mem.length)=i by omega,hi];rfl
 have cK:∀ k,k<M.length→(∀ i,i<mem.length→σ i≠k)→(xY σ mem.length bV M)[k]?=M[k]?:=fun k hk h=>by unfold xY;rw [bx (by rw [j3];exact hk)];exact xZ σ _ 0 M k fun j _ h2=>h j (by rw [cn] at h2;omega)
 generalize xY σ mem.length bV M=M' at hL N0 cK;refine⟨h.1,fun E w xs hs hx=>?_⟩;have om:∀ k v,k<mem.length→(⟨E.F,fun k v=>if k<mem.length then E.cw (σ k) v else none,E.gl⟩:Env).cw k v=E.cw (σ k) v:=fun k v hk=>if_pos hk;have abt:∀ k v,mem.length≤k→(⟨E.F,fun k v=>if k<mem.length then E.cw (σ k) v else none,E.gl⟩:Env).cw k v=none:=fun k v hk=>if_neg (by omega);have KP:(⟨E.F,fun k v=>if k<mem.length then E.cw (σ k) v else none,E.gl⟩:Env).F=E.F:=rfl;generalize (⟨E.F,fun k v=>if k<mem.length then E.cw (σ k) v else none,E.gl⟩:Env)=E0 at om abt KP;have o7:∀ k v t,E0.cw k v=some t→k<mem.length∧E.cw (σ k) v=some t:=fun k v t h=>by (rcases br k mem.length with hk|hk);(·exact⟨hk,by rw [← om k v hk];exact h⟩);rw [abt k v hk] at h;cases h
 have PE:cY E0 w { tmps := #[],defers:=[] } { fr:=[],mem:=mem } :=
  ⟨fun ad y hy=>hs.F ad y (by rw [← KP];exact hy),fun k v g e c hk=>hs.lt _ _ _ _ _ (o7 _ _ _ hk).2,
   fun k B hk=>(hs.mem _ _ (hσ k B hk)).y5 (aq.1 hk).1 (aX.1 hm B (ay hk)) KP om,
   fun k hk v=>abt k v hk,fun k B hk v hv=>by
    rw [om k v (aq.1 hk).1]
    exact hs.dF _ _ (hσ k B hk) v (by rw [HT];exact hv),
   fun k k' v v' g e c e' c' h1 h2=>by
    obtain⟨p1,p2⟩:=o7 _ _ _ h1
    obtain⟨q1,q2⟩:=o7 _ _ _ h2
    exact x2 k k' p1 q1 (hs.apart _ _ _ _ _ _ _ _ _ p2 q2),.nil _⟩
 have Mg:cJ E0 vs xs.toList:=hx.y5 hv (fun ad y hy=>by rw [KP];exact hy) fun k v t hk h=>by rw [om k v hk];exact h
 refine (h.2 E0 w xs PE Mg).mono ?_;rintro en w1 ⟨E1,x,rfl,iz,qc,Gy⟩;have hA0:∀ i v,i<mem.length→(⟨E1.F,fun K v=>match (List.range mem.length).find? (fun i=>σ i==K) with|some i=>E1.cw i v|none=>if K<M.length then E.cw K v else E1.cw (K-M.length+mem.length) v,E1.gl⟩:Env).cw (σ i) v=E1.cw i v:=fun i v hi=>by show (match (List.range mem.length).find? (fun j=>σ j==σ i) with|some i=>E1.cw i v|none=>_)=_;(have:(List.range mem.length).find? (fun j=>σ j==σ i)=some i:=by cases hf:(List.range mem.length).find? (fun j=>σ j==σ i) with|none =>have:=atI.1 hf i (aov.2 hi);simp at this|some j =>have h1:=List.find?_some hf;have h2:=aov.1 (List.mem_of_find?_eq_some hf);rw [x2 j i h2 hi (by simpa using h1)]);rw [this]
 have kZ:∀ K,(∀ i,i<mem.length→σ i≠K)→(List.range mem.length).find? (fun i=>σ i==K)=none:=fun K h=>atI.2 fun i hi=>by have:=h i (aov.1 hi);simpa using this
 have hB:∀ K v,K<M.length→(∀ i,i<mem.length→σ i≠K)→(⟨E1.F,fun K v=>match (List.range mem.length).find? (fun i=>σ i==K) with|some i=>E1.cw i v|none=>if K<M.length then E.cw K v else E1.cw (K-M.length+mem.length) v,E1.gl⟩:Env).cw K v=E.cw K v:=fun K v hK h=>by show (match (List.range mem.length).find? (fun j=>σ j==K) with|some i=>E1.cw i v|none=>_)=_;rw [kZ K h];exact if_pos hK
 have Gx:∀ i v,mem.length≤i→(⟨E1.F,fun K v=>match (List.range mem.length).find? (fun i=>σ i==K) with|some i=>E1.cw i v|none=>if K<M.length then E.cw K v else E1.cw (K-M.length+mem.length) v,E1.gl⟩:Env).cw (σ i) v=E1.cw i v:=fun i v hi=>by show (match (List.range mem.length).find? (fun j=>σ j==σ i) with|some i=>E1.cw i v|none=>_)=_;have uP:=pQ i hi;rw [kZ (σ i) fun j hj e=>by have:=hold j hj;omega];show (if σ i<M.length then E.cw (σ i) v else E1.cw (σ i-M.length+mem.length) v)=_;rw [if_neg (by omega),uP,show M.length+(i-mem.length)-M.length+mem.length=i by omega]
 have KQ:(⟨E1.F,fun K v=>match (List.range mem.length).find? (fun i=>σ i==K) with|some i=>E1.cw i v|none=>if K<M.length then E.cw K v else E1.cw (K-M.length+mem.length) v,E1.gl⟩:Env).F=E1.F:=rfl;generalize (⟨E1.F,fun K v=>match (List.range mem.length).find? (fun i=>σ i==K) with|some i=>E1.cw i v|none=>if K<M.length then E.cw K v else E1.cw (K-M.length+mem.length) v,E1.gl⟩:Env)=E2 at hA0 hB Gx KQ;have hA:∀ i v,E2.cw (σ i) v=E1.cw i v:=fun i v=>by (rcases br i mem.length with hi|hi);(·exact hA0 i v hi);exact Gx i v hi
 have cl:∀ K,(∃ i,K=σ i)∨(K<M.length∧∀ i,i<mem.length→σ i≠K):=fun K=>by (rcases br K M.length with hK|hK);(·by_cases h:∃ i,i<mem.length∧σ i=K;(·obtain⟨i,-,hi⟩:=h;exact .inl ⟨i,hi.symm⟩);exact .inr ⟨hK,fun i hi e=>h ⟨i,hi,e⟩⟩);exact .inl ⟨K-M.length+mem.length,by rw [pQ _ (by omega)];omega⟩
 have AR:∀ K v g e c,(∀ i,i<mem.length→σ i≠K)→E.cw K v=some (g,e,c)→∀ k0 v0 e0 c0,E0.cw k0 v0≠some (g,e0,c0):=fun K v g e c hK hb k0 v0 e0 c0 h=>by obtain⟨h1,h2⟩:=o7 _ _ _ h;exact hK k0 h1 (hs.apart _ _ _ _ _ _ _ _ _ h2 hb)
 have hle:E.le E2:=⟨fun ad y hy=>by rw [KQ];exact iz.le.F _ _ (by rw [KP];exact hy),fun K v t hk=>by (rcases cl K with ⟨i,rfl⟩|⟨hK,wA⟩);(·rw [hA i v];(rcases br i mem.length with hi|hi);(·exact iz.le.cw _ _ _ (by rw [om i v hi];exact hk));rw [hs.top (σ i) (by rw [pQ i hi];dsimp only;omega) v] at hk;cases hk);rw [hB K v hK wA];exact hk⟩;refine⟨E2,x,rfl,⟨hle,fun K v g e c hk=>?_,fun ad y hy=>?_,iz.os,iz.tape,iz.output,iz.size,fun b hb cK=>iz.heap b hb fun k v e c h=>cK _ _ _ _ (o7 _ _ _ h).2⟩, ⟨fun ad y hy=>qc.F _ _ (by rw [← KQ];exact hy),fun K v g e c hk=>?_,fun K B hk=>?_,fun K hk v=>?_,fun K B hk v hv=>?_,fun K K' v v' g e1 c1 e2 c2 h5 h6=>?_,.nil _⟩,Gy.oO hr (fun ad y hy=>by rw [KQ];exact hy) fun k v t _ hk=>by rw [hA];exact hk⟩;·(rcases cl K with ⟨i,rfl⟩|⟨hK,wA⟩);(·rw [hA i v] at hk;(rcases iz.cw _ _ _ _ _ hk with ⟨k0,v0,e0,c0,h⟩|h);(·exact .inl ⟨_,_,_,_,(o7 _ _ _ h).2⟩);exact .inr h);rw [hB K v hK wA] at hk;exact .inl ⟨_,_,_,_,hk⟩
 ·rw [KQ] at hy;(rcases iz.F _ _ hy with h|h|⟨k0,v0,e0,c0,h⟩);(·exact .inl (by rw [← KP];exact h));(·exact .inr (.inl h));exact .inr (.inr ⟨_,_,_,_,(o7 _ _ _ h).2⟩)
 ·(rcases cl K with ⟨i,rfl⟩|⟨hK,wA⟩);(·rw [hA i v] at hk;exact qc.lt _ _ _ _ _ hk);rw [hB K v hK wA] at hk;exact rL (hs.lt _ _ _ _ _ hk) iz.size
 ·(rcases cl K with ⟨i,rfl⟩|⟨hK,wA⟩);(·(have hi:i<bV.length:=by have h1:=(aq.1 hk).1;(rcases br i mem.length with h2|h2);(·omega);have h3:=pQ i h2;dsimp only at h1;omega);have kX:=N0 i _ (af hi);rw [hk] at kX;cases kX;exact (qc.mem i _ (af hi)).oO hi (aX.1 hm' _ (List.getElem_mem hi)) KQ (fun k v _=>hA k v) rfl);dsimp only at hk;rw [cK K hK wA] at hk;refine (hs.mem K B hk).mono hle (fun v hv=>by rw [hB K v hK wA];exact hv) (fun g e c hb=>iz.heap g (hs.lt _ _ _ _ _ hb) fun k0 v0 e0 c0 h=>AR _ _ _ _ _ wA hb _ _ _ _ h) fun g e c o hb hn=>?_;rw [KQ];cases hy:E1.F ⟨g,o,none⟩ with|none=>rfl|some y =>(rcases iz.F _ _ hy with h|h|⟨k0,v0,e0,c0,h⟩);(·rw [KP,hn] at h;cases h);(·have:=hs.lt _ _ _ _ _ hb;simp at h;omega);exact absurd h (AR _ _ _ _ _ wA hb _ _ _ _)
 ·(rcases cl K with ⟨i,rfl⟩|⟨hK,wA⟩);(·rw [hA i v];refine qc.top i ?_ v;dsimp only at hk ⊢;(rcases br i mem.length with h2|h2);(·have:=hold i h2;omega);have h3:=pQ i h2;omega);dsimp only at hk;omega
 ·(rcases cl K with ⟨i,rfl⟩|⟨hK,wA⟩);(·rw [hA i v];(have hi:i<bV.length:=by have h1:=(aq.1 hk).1;(rcases br i mem.length with h2|h2);(·omega);have h3:=pQ i h2;dsimp only at h1;omega);have kX:=N0 i _ (af hi);rw [hk] at kX;cases kX;rw [HT] at hv;exact qc.dF i _ (af hi) v hv);rw [hB K v hK wA];dsimp only at hk;rw [cK K hK wA] at hk;exact hs.dF K B hk v hv
 have mixed:∀ i K' v v' g e1 c1 e2 c2,(∀ i,i<mem.length→σ i≠K')→E1.cw i v=some (g,e1,c1)→E.cw K' v'=some (g,e2,c2)→False:=fun i K' v v' g e1 c1 e2 c2 hK' h h'=>by (rcases iz.cw _ _ _ _ _ h with ⟨k0,v0,e0,c0,h0⟩|h0);(·exact absurd h0 (AR _ _ _ _ _ hK' h' _ _ _ _));have:=hs.lt _ _ _ _ _ h';omega
 rcases cl K with ⟨i,rfl⟩|⟨hK,abu⟩ <;> rcases cl K' with ⟨j,rfl⟩|⟨hK',KR⟩
 ·rw [hA] at h5 h6;rw [qc.apart _ _ _ _ _ _ _ _ _ h5 h6]
 ·rw [hA] at h5;rw [hB K' _ hK' KR] at h6;exact (mixed _ _ _ _ _ _ _ _ _ KR h5 h6).elim
 ·rw [hB K _ hK abu] at h5;rw [hA] at h6;exact (mixed _ _ _ _ _ _ _ _ _ abu h6 h5).elim
 rw [hB K _ hK abu] at h5;rw [hB K' _ hK' KR] at h6;exact hs.apart _ _ _ _ _ _ _ _ _ h5 h6
end Go.Eng
end
section
namespace Go.Eng
variable [bk]
section
variable {P:Program} {ρ:Option Nat} {n0:Nat} {c:Code} {st:St} {Q:Exit→St→Prop}
end
end Go.Eng
end
section
namespace Go.Eng
variable [bk]
theorem Bn (mem:List bm) (keys:List (Nat×Nat)) (k:Nat) {cs:List V} (h:mem[k]?=some (.box cs)):(eP mem keys)[k]?=some (.box cs):=by
 rw [qW,h];have:∀ (ks:List (Nat×Nat)),pw ks k (some (.box cs))=some (.box cs):=fun ks=>by unfold pw;rfl
 exact this keys
section
variable {P:Program} {ρ:Option Nat} {n0:Nat} {Q:Exit→St→Prop} {c:Code} {st:St}
theorem cY.Rj {E:Env} {w:World} {a:Act} (hs:cY E w a st) {k:Nat} {cs vs':List V} (hk:st.mem[k]?=some (.box cs)) (hp:fw st.mem cs=some vs') :
  ∃ E',cY E' w a { st with mem:=(eP st.mem (cs.flatMap fg)).set k (.box vs') }∧il E w E' w:=by
 obtain⟨E',h1,h2,h3⟩:=hs.freeze hp;have hb:=Bn st.mem (cs.flatMap fg) k hk;refine⟨E',⟨h1.F,h1.lt,fun k' B hB=>?_,fun k' kX=>h1.top k' (by simpa using kX),fun k' B hB v hv=>?_,h1.apart,h1.fr⟩,h2⟩;·dsimp only at hB;rw [bK] at hB;split at hB;(·rename_i he;subst he;split at hB;(·cases hB;obtain⟨g,T,xs,q1,q2,q3,q4⟩:=hs.mem k _ hk;obtain⟨g',T',uT,p1,p2,p3,p4⟩:=h1.mem k _ hb;rw [h2.le.cw _ _ _ q1] at p1;cases p1;rw [q2] at p2;cases p2;exact⟨g,T,xs,h2.le.cw _ _ _ q1,q2,h3 _ q3,p4⟩);cases hB);exact h1.mem k' B hB
 dsimp only at hB;rw [bK] at hB;split at hB;·rename_i he;subst he;split at hB;(·cases hB;exact h1.dF k _ hb v hv);cases hB
 exact h1.dF k' B hB v hv
end
end Go.Eng
end
section
namespace Go.Eng
variable [bk]
section
variable {k_:Tk} {m:Bool} {P:Program} {ρ:Option Nat} {n0:Nat} {st:St} {Q:Exit→St→Prop} {n:Nat} {ws:List (Nat×V)} {mem:List bm} {c:Code}
theorem abv {st':St} (hw:∀ E w a,cY E w a st→∃ E',cY E' w a st'∧il E w E' w) (h:X k_ m P ρ n0 c st' Q):X k_ m P ρ n0 c st Q:=by
 have key:∀ Q':Exit→St→Prop,eg P ρ n0 c st' Q'→eg P ρ n0 c st Q':=fun Q' h E0 w0 Q6 E w a he hs hm=>by obtain⟨E',h3,h4⟩:=hw E w a hs;exact h E0 w0 Q6 E' w a (he.trans h4) h3 (hm.NP h4)
 cases m;·obtain⟨e,s2,hq,h2⟩:=h;exact⟨e,s2,hq,fun Q' h'=>key Q' (h2 Q' h')⟩
 exact key Q h
theorem afv {t:Nat} {v:V} (hn:t<n) (h:lk t ws=v):(W n ws)[t]?=some v:=by rw [wy,if_pos hn,h]
theorem alI (t v e:Nat) (hn:t<n) (h0:lk t ws = .sc (.slice none 0 0)) (h:X k_ m P ρ n0 c ⟨W n ((t,.ms mem.length v 0 0) :: ws),mem++[.rows v e []]⟩ Q):X k_ m P ρ n0 c ⟨W n ws,mem⟩ Q:=by rw [← MI] at h;exact Fx (st':=⟨(W n ws).set t (.ms mem.length v 0 0),mem++[.rows v e []]⟩) (fun E w a hs=>(hs.Hx (i:=t) mem.length v (afv hn h0)).wh v e) h
theorem np {cs:List V} (k j v e:Nat) (hk:mem[k]?=some (.box cs)) (hj:cs[j]?=some (.sc (.slice none 0 0))) (h:X k_ m P ρ n0 c ⟨W n ws,mem.set k (.box (cs.set j (.ms mem.length v 0 0)))++[.rows v e []]⟩ Q):X k_ m P ρ n0 c ⟨W n ws,mem⟩ Q :=
 Fx (st':=⟨W n ws,mem.set k (.box (cs.set j (.ms mem.length v 0 0)))++[.rows v e []]⟩) (fun E w a hs=>(hs.aba hk hj mem.length v).wh v e) h
theorem hY {k:Nat} {cs vs':List V} (hk:mem[k]?=some (.box cs)) (hp:fw mem cs=some vs') (h:X k_ m P ρ n0 c ⟨W n ws,(eP mem (cs.flatMap fg)).set k (.box vs')⟩ Q):X k_ m P ρ n0 c ⟨W n ws,mem⟩ Q :=
 abv (fun _ _ _ hs=>cY.Rj hs hk hp) h
theorem MS {k:Nat} {cs:List V} (t:Nat) (hn:t<n) (h0:lk t ws = .ptr k 0) (hk:mem[k]?=some (.box cs)) (hp:cs.all jm=true) (h:X k_ m P ρ n0 c ⟨W n ((t,.eW cs) :: ws),mem.set k .dead⟩ Q):X k_ m P ρ n0 c ⟨W n ws,mem⟩ Q:=by rw [← MI] at h;exact abv (fun _ _ _ hs=>cY.xS hs hk hp (afv hn h0)) h
end
end Go.Eng
end
section
namespace Go.Proofs.YtnboooapeopjoaaGreatDoor
open Go.Eng
set_option maxHeartbeats 4000000
set_option maxRecDepth 100000
attribute [go_sem] fe cR gi mC St.eval St.put lj mc EL ct dO aF aL jP Value.oneCell' if_true if_false dn aj aA asL ak ai ij eD je List.getD_cons_zero List.getD_cons_succ xG jy pf so tG bW cz Nat.zero_mul Ew Vn fieldAt qf jY as5 ZR ZQ dV ee ia atu aZ kG aW ax true_and and_true and_self gE mf rowsOf fu bJ ED aao aap aaq aar aas aat aau aav aaw aax aay PS VK VL CN oB indexAt Ax Mh EF xD ad2 V.cells GJ EB ZW da aC asK l6 List.size_toArray List.getElem?_toArray beq_self_eq_true decide_true decide_false aO aE pT sA qY nO kL jm J7 jS rowOf mR ne_eq not_true_eq_false not_false_eq_true nP nD vT V.sc.injEq Value.bool.injEq re jx ata fg lB aeM aeN VT VU VV Mf tt3 tt4 tt5 tt9 ak1 ak2 ak3 ak4 ak5 ak6 ak7 ak8 ak9 ala alb alc ald ale alf alg alh ali alj alk aeX aeY aeZ ae0 ae1 ae2 ae3 ae4 ae5 ae6 ae7 ae8 Bf ae9 List.toList_toArray List.append_eq PY PZ J9 X0 oI eY qn vY yL pq sP lV MG gj tO gT QU aaZ Wg u1 xV JP fw gH iK dk runM fC oa zN iQ o8 rU isHole eJ Hj bm.dF uX abb wy MI sX lk rv er eZ pk zk eE eP Hc fq as6 C4 aG a8 aS abd abe abf abg Wl Fw niV Rc abm zG eG Re abp abq xO lg afo afp afq afr afs als alu alv alw alx aly alz alA alB alC alD alE alF alG Rh Od Ri Of Oe rT lI oF ql G8 List.replicate au
attribute [go_sem ↓] KO Oc abi Ob abh aa7 aa8 Wn MM
attribute [go_sem] reduceIte Nat.reduceAdd Nat.reduceLT Nat.reduceLeDiff Nat.reduceMul Nat.reduceEqDiff Nat.reduceSub reduceCtorEq
attribute [go_sem] pN pR jA n9
end Go.Proofs.YtnboooapeopjoaaGreatDoor
end
section
namespace Go.Eng
variable [bk]
open Go.RowKit (Below)
theorem cY.below {E:Env} {w w':World} {a:Act} {st:St} (hs:cY E w a st) (hb:Below w.heap.size w w'):cY E w' a st∧il E w E w':=by
 refine⟨⟨fun ad y hy=>?_,fun k v g e c h=>rL (hs.lt _ _ _ _ _ h) hb.size,fun k B hk=>?_,hs.top,hs.dF,hs.apart,hs.fr⟩, ⟨E.le_refl,fun k v g e c h=>.inl ⟨k,v,e,c,h⟩,fun _ _ h=>.inl h,hb.os,hb.tape,hb.output,hb.size,fun b bR _=>hb.block b bR⟩⟩;·rw [hb.cell (World.block_lt_of_cell? w ad (hs.F ad y hy))];exact hs.F ad y hy
 exact (hs.mem k B hk).mono E.le_refl (fun _ h=>h) (fun g e c h=>hb.block _ (hs.lt _ _ _ _ _ h)) fun _ _ _ _ _ h=>h
end Go.Eng
end
section
namespace Go.Eng
variable [bk]
def oo (ks:List Nat) (L j:Nat):Nat:=match ks[j]? with
 | some k=>k
 | none=>L+(j-ks.length)
theorem y6 (σ:Nat→Nat):∀ (l:List bm) (i:Nat) (M:List bm),(∀ j B,l[j]?=some B→M[σ (i+j)]?=some (nR σ B))→lK σ i l M=M
 | [],_,_,_=>rfl
 | B :: r,i,M,h=>by
  have e:M.set (σ i) (nR σ B)=M:=by
   have h0:=h 0 B rfl
   rw [kG] at h0
   apply dq
   intro q
   rw [bK]
   split
   ·rename_i hq;subst hq
    rw [if_pos (aq.1 h0).1,h0]
   rfl
  rw [lK,e]
  exact y6 σ r (i+1) M fun j B hj=>by
   have:=h (j+1) B (by simpa using hj)
   rw [show i+1+j=i+(j+1) by omega];exact this
theorem rA {M:List bm} {k:Nat} {B:bm} (h:M[k]?=some B):M.set k B=M:=by
 apply dq;intro q;rw [bK];split;·rename_i hq;subst hq;rw [if_pos (aq.1 h).1,h]
 rfl
theorem Bo (σ:Nat→Nat) (B:bm):∀ (l:List bm) (i j0:Nat) (M:List bm),j0<l.length→(∀ a b,i≤a→a<i+l.length→i≤b→b<i+l.length→σ a=σ b→a=b) →
  (∀ j B,l[j]?=some B→M[σ (i+j)]?=some (nR σ B))→lK σ i (l.set j0 B) M=M.set (σ (i+j0)) (nR σ B)
 | [],_,_,_,h,_,_=>by simp at h
 | C :: r,i,0,M,_,x2,h=>by
  rw [eD,lK,kG]
  refine y6 σ r (i+1) _ fun j D hj=>?_
  have bR:=(aq.1 hj).1
  have h1:=h (j+1) D (by simpa using hj)
  rw [show i+1+j=i+(j+1) by omega,cL fun e=>by have:=x2 i (i+(j+1)) (ax _) (by simp) (by omega) (by simp;omega) e;omega]
  exact h1
 | C :: r,i,j0+1,M,hl,x2,h=>by
  have h0:=h 0 C rfl
  rw [kG] at h0
  rw [je,lK,rA h0,Bo σ B r (i+1) j0 M (by simpa using hl) (fun a b h1 h2 h3 h4 e=>x2 a b (by omega) (by simp;omega) (by omega) (by simp;omega) e) (fun j D hj=>by
   have:=h (j+1) D (by simpa using hj)
   rw [show i+1+j=i+(j+1) by omega];exact this),show i+1+j0=i+(j0+1) by omega]
theorem bw.keys {P:Program} {f:FuncId} {vs:List V} {r:V} {mem:List bm} {B:bm} {j0:Nat} (h:bw P f vs mem r (mem.set j0 B)) (M:List bm) (ks:List Nat) (hk:ks.length=mem.length) (lq:ks.Nodup) (hj:j0<mem.length)
  (hv:vs.all (aG mem.length)=true) (hm:mem.all (aS mem.length)=true) (hB:aS mem.length B=true) (hr:aG mem.length r=true)
  (hσ:∀ i B,mem[i]?=some B→M[oo ks M.length i]?=some (nR (oo ks M.length) B)) :
  bw P f (ki (oo ks M.length) vs) M (fO (oo ks M.length) r) (M.set (oo ks M.length j0) (nR (oo ks M.length) B)):=by
 have x2:∀ i j,i<mem.length→j<mem.length→oo ks M.length i=oo ks M.length j→i=j:=fun i j hi hj e=>by unfold oo at e;rw [af (by omega),af (by omega)] at e;exact (List.getElem_inj lq).1 e
 have hm':(mem.set j0 B).all (aS mem.length)=true:=by rw [aX] at hm ⊢;intro C hC;(rcases atl hC with h|rfl);(·exact hm C h);exact hB
 have h2:=h.oO M (oo ks M.length) mem.length rfl hv hm (by rw [mO];exact hr) (by rw [mO];exact hm') (by rw [mO];exact ax _) hσ x2 (fun j hj=>by unfold oo;rw [dN (by omega)];dsimp only;rw [hk])
 have e:xY (oo ks M.length) mem.length (mem.set j0 B) M=M.set (oo ks M.length j0) (nR (oo ks M.length) B):=by
  unfold xY
  rw [bu (by rw [mO];exact ax _),cH (by rw [mO];exact ax _),bW,ij,
   Bo (oo ks M.length) B mem 0 j0 M hj (fun a b _ h2 _ h4 e=>x2 a b (by omega) (by omega) e) (fun j D hD=>by rw [aZ];exact hσ j D hD),aZ]
 rw [e] at h2;exact h2
theorem Rk {E:Env} {v:V} {x:Value} (h:cV E v x):cV E (J7 v) x:=by cases v with|agg cs =>(cases h with|agg _ _ xs hl h' =>refine cV.agg _ _ _ (by rw [aw];exact hl) fun i c y hc hy=>?_;rw [ae] at hc;cases hi:cs[i]? with|none=>rw [hi] at hc;cases hc|some c0 =>rw [hi] at hc;cases hc;exact qj (h' i c0 y hi hy))|_=>exact qj h
theorem bw.row {P:Program} {f:FuncId} {vs:List V} {r:V} {mem bV:List bm} (h:bw P f vs mem r bV):bw P f vs mem (J7 r) bV :=
 ⟨h.1,fun E w xs hs hx=>(h.2 E w xs hs hx).mono fun e w' ⟨E',x,h1,h2,h3,h4⟩=>⟨E',x,h1,h2,h3,Rk h4⟩⟩
end Go.Eng
end
section
namespace Go.Eng
variable [bk]
section
variable {k_:Tk} {m:Bool} {P:Program} {tt:Table} {ρ:Option Nat} {n0:Nat} {st:St} {Q:Exit→St→Prop} {n:Nat} {ws ob:List (Nat×V)} {mem kh:List bm}
theorem HU (ht:TT P tt) {ρ:Option Nat} {n:Nat} {all:Array Oper} {Z:St→Prop} {Q':Exit→Act→World→Prop} (post:List Oper):∀ (l1 pre:List Oper),all.toList=pre++(l1++post) →
  ∀ {E:Env} {w:World} {a:Act} {st:St},cY E w a st→fe P tt all l1 st Z→(∀ a' w',a'.defers=a.defers→(∃ E' st',cY E' w' a' st'∧il E w E' w'∧Z st')→wpOpsIn (WF ρ) n P all Q' (List.range' (pre.length+l1.length) post.length) a' w')→wpOpsIn (WF ρ) n P all Q' (List.range' pre.length (l1.length+post.length)) a w:=by intro l1;induction l1 with|nil =>intro pre _ E w a st hs h hq;have:=hq _ _ rfl ⟨E,st,hs,il.refl E w,h⟩;simpa using this|cons o r ih =>intro pre cD E w a st hs h hq;(have jG:all[pre.length]?=some o:=by rw [← eN,cD,a6 (ax _)];simp);(have Qf:all.toList=(pre++[o])++(r++post):=by rw [cD];simp);have ih':=@ih (pre++[o]) Qf;simp only [bc,aj,aA,aZ] at ih';(have e1:(o :: r).length+post.length=r.length+post.length+1:=by simp only [aj];omega);(have e2:pre.length+(o :: r).length=pre.length+1+r.length:=by simp only [aj];omega);rw [e2] at hq;rw [e1,atb,wpOpsIn,jG];dsimp only;simp only [fe] at h;split at h;(·rename_i hw;rw [if_pos (jZ hs hw)];refine gU ht hs (.inr rfl) h ?_;rintro v w' ⟨E',st',h1,h2,h3⟩;exact ih' h1 h3 fun a'' w'' hd ⟨CO,Ke,h4,h5,h6⟩=>hq _ _ (hd.trans (put_defers _ _ _)) ⟨CO,Ke,h4,h2.trans h5,h6⟩);(·rename_i hw;rw [if_neg (by rw [jZ hs hw];simp)];exact⟨fun _ _=>trivial,ih' (hs.put o.dst (.sc _ _)) h fun a'' w'' hd h=>hq _ _ (hd.trans (put_defers _ _ _)) h⟩);exact h.elim
inductive KS (P:Program) (tt:Table) (all:Array Oper):List Oper→St→(St→Prop)→Prop
 | fin {l:List Oper} {st:St} {Q:St→Prop} (h:fe P tt all l st Q):KS P tt all l st Q
 | cut {l1 l2:List Oper} {st:St} {Q Z Z':St→Prop} (h1:fe P tt all l1 st Z) (h2:∀ s,Z s→∃ s',Z' s'∧∀ E w a,cY E w a s→cY E w a s') (h3:∀ s',Z' s'→KS P tt all l2 s' Q):KS P tt all (l1++l2) st Q
theorem KU (ht:TT P tt) {ρ:Option Nat} {n:Nat} {all:Array Oper} {Q':Exit→Act→World→Prop} {Vz:List Oper} {st:St} {Q:St→Prop} (h:KS P tt all Vz st Q):∀ (pre:List Oper),all.toList=pre++Vz →
  ∀ {E:Env} {w:World} {a:Act},cY E w a st→(∀ a' w',a'.defers=a.defers→(∃ E' st',cY E' w' a' st'∧il E w E' w'∧Q st')→Q' .normal a' w')→wpOpsIn (WF ρ) n P all Q' (List.range' pre.length Vz.length) a w:=by induction h with|fin h=>intro pre cD E w a hs hq;exact vV ht _ pre cD hs h hq|@cut l1 l2 st Q Z Z' h1 h2 h3 ih =>intro pre cD E w a hs hq;rw [bc];refine HU ht l2 l1 pre cD hs h1 fun a' w' hd ⟨E',s,qc,he,hz⟩=>?_;obtain⟨s',hz',hw⟩:=h2 s hz;have:=ih s' hz' (pre++l1) (by rw [cD,sf]) (hw _ _ _ qc) fun a'' w'' hd' ⟨CO,Ke,h4,h5,h6⟩=>hq _ _ (hd'.trans hd) ⟨CO,Ke,h4,he.trans h5,h6⟩;rw [bc] at this;exact this
inductive FD (m:Bool) (P:Program) (tt:Table) (all:List Oper):List Oper→St→(St→Prop)→Prop
 | fin {l:List Oper} {st:St} {Q:St→Prop} (h:rV m P tt all l st Q):FD m P tt all l st Q
 | cut {l1 l2:List Oper} {st:St} {Q Z Z':St→Prop} (h1:rV m P tt all l1 st Z) (h2:∀ s,Z s→∃ s',Z' s'∧∀ E w a,cY E w a s→cY E w a s') (h3:∀ s',Z' s'→FD m P tt all l2 s' Q):FD m P tt all (l1++l2) st Q
theorem abw {all:Array Oper} {l:List Oper} {st:St} {Q:St→Prop} (h:FD true P tt all.toList l st Q):KS P tt all l st Q:=by induction h with|fin h=>exact .fin (ry _ _ h)|cut h1 h2 _ ih=>exact .cut (ry _ _ h1) h2 ih
theorem abx {all:Array Oper} {l:List Oper} {st:St} {Q:St→Prop} (h:FD false P tt all.toList l st Q):∃ s,Q s∧∀ K:St→Prop,K s→KS P tt all l st K:=by induction h with|fin h =>obtain⟨s,h1,h2⟩:=ry _ _ h;exact⟨s,h1,fun K hK=>.fin (h2 K hK)⟩|cut h1 h2 _ ih =>obtain⟨s,hz,h4⟩:=ry _ _ h1;obtain⟨s',hz',hw⟩:=h2 s hz;obtain⟨s2,hq,h5⟩:=ih s' hz';exact⟨s2,hq,fun K hK=>.cut (Z:=(· = s)) (Z':=(· = s')) (h4 _ rfl) (fun _ e=>⟨s',rfl,by subst e;exact hw⟩) fun _ e=>by subst e;exact h5 K hK⟩
theorem y7 (ht:TT P tt) {id:Nat} {ops:Array Oper} (h:KS P tt ops ops.toList st (Q .normal)):eg P ρ n0 (.region id ops false) st Q:=fun E0 w0 h0 E w a he hs hm=>by refine wpIn_region ?_;have:=KU ht (ρ:=ρ) (n:=0) (Q':=VB E0 w0 Q) h [] (by simp) hs (fun a' w' hd ⟨E',st',h1,h2,h3⟩=>⟨E',st',h1,he.trans h2,by rw [hd];exact hm.NP h2,h3⟩);rw [atf];simpa using this
theorem afw (ht:TT P tt) {id:Nat} {ops:Array Oper} (h:FD m P tt ops.toList ops.toList st (Q .normal)):X k_ m P ρ n0 (.region id ops false) st Q:=by cases m with|true=>exact y7 ht (abw h)|false =>obtain⟨s,h1,h2⟩:=abx h;exact⟨.normal,s,h1,fun Q' h'=>y7 ht (h2 _ h')⟩
theorem YP (j:Nat) (ts ks:List Nat) (Inv:List V→Prop) {all l:List Oper} {Q:St→Prop}
  (h1:∀ K:St→Prop,(∀ s,(∃ vs,Inv vs∧∃ Fz,s=⟨W n Fz,kh⟩∧rv Fz (zk ts vs (pk ob ks)))→K s)→rV m P tt all (l.take j) ⟨W n ob,kh⟩ K)
  (h2:∀ vs,Inv vs→FD m P tt all (l.drop j) ⟨W n (zk ts vs (pk ob ks)),kh⟩ Q):FD m P tt all l ⟨W n ob,kh⟩ Q:=by
 have:=FD.cut (Q:=Q) (Z':=fun s=>∃ vs,Inv vs∧s=⟨W n (zk ts vs (pk ob ks)),kh⟩) (h1 _ fun _ h=>h)
  (fun s hs=>by
   obtain⟨vs,hv,Fz,rfl,ha⟩:=hs
   exact⟨_,⟨vs,hv,rfl⟩,fun E w a hs=>⟨hs.F,hs.lt,hs.mem,hs.top,hs.dF,hs.apart,MK ha hs.fr⟩⟩)
  (fun s hs=>by
   obtain⟨vs,hv,rfl⟩:=hs
   exact h2 vs hv)
 rw [ld] at this;exact this
theorem HV {ts ks:List Nat} {Inv:List V→Prop} {Fz:List (Nat×V)} {HS:List bm} (h:rv Fz (pk ob ks)∧HS=kh) (hi:Inv (eE Fz ts)) :
  ∃ vs,Inv vs∧∃ ws2,(⟨W n Fz,HS⟩:St)=⟨W n ws2,kh⟩∧rv ws2 (zk ts vs (pk ob ks)):=⟨_,hi,Fz,by rw [h.2],Bm h.1⟩
end
end Go.Eng
end
section
namespace Go.Eng
variable [bk]
theorem cY.kN {E:Env} {w:World} {a:Act} {st:St} (hs:cY E w a st) {k j:Nat} {cs:List V} {v0 v':V} (hk:st.mem[k]?=some (.box cs)) (hj:cs[j]?=some v0) (hp:gH st.mem v0=some v') :
  ∃ E',cY E' w a { st with mem:=(eP st.mem (fg v0)).set k (.box (cs.set j v')) }∧il E w E' w:=by
 obtain⟨E',h1,h2,h3⟩:=hs.freeze (vs:=[v0]) (vs':=[v']) (by simp [fw,hp]);have hr:[v0].flatMap fg=fg v0:=by simp
 rw [hr] at h1;have hb:=Bn st.mem (fg v0) k hk;refine⟨E',⟨h1.F,h1.lt,fun k' B hB=>?_,fun k' kX=>h1.top k' (by simpa using kX),fun k' B hB v hv=>?_,h1.apart,h1.fr⟩,h2⟩;·dsimp only at hB;rw [bK] at hB;split at hB;(·rename_i he;subst he;split at hB;(·cases hB;obtain⟨g,T,xs,q1,q2,q3,q4⟩:=hs.mem k _ hk;obtain⟨g',T',uT,p1,p2,p3,p4⟩:=h1.mem k _ hb;rw [h2.le.cw _ _ _ q1] at p1;cases p1;rw [q2] at p2;cases p2;obtain⟨x,hx,hrx⟩:=q3.get hj;obtain⟨y,ys,hy,Qz,-⟩:=(h3 (xs:=[x]) (.cons hrx (.nil _))).of_cons;cases hy;have AX:=cJ.set (n:=j) p3 Qz;have e:xs.toList.set j x=xs.toList:=oL hx;rw [e] at AX;exact⟨g,T,xs,h2.le.cw _ _ _ q1,q2,AX,p4⟩);cases hB);exact h1.mem k' B hB
 dsimp only at hB;rw [bK] at hB;split at hB;·rename_i he;subst he;split at hB;(·cases hB;exact h1.dF k _ hb v hv);cases hB
 exact h1.dF k' B hB v hv
section
variable {k_:Tk} {m:Bool} {P:Program} {ρ:Option Nat} {n0:Nat} {Q:Exit→St→Prop} {n:Nat} {ws:List (Nat×V)} {mem:List bm} {c:Code}
theorem wB {k:Nat} {cs:List V} {v0 v':V} (j:Nat) (hk:mem[k]?=some (.box cs)) (hj:cs[j]?=some v0) (hp:gH mem v0=some v') (h:X k_ m P ρ n0 c ⟨W n ws,(eP mem (fg v0)).set k (.box (cs.set j v'))⟩ Q):X k_ m P ρ n0 c ⟨W n ws,mem⟩ Q :=
 abv (fun _ _ _ hs=>cY.kN hs hk hj hp) h
end
end Go.Eng
end
section
namespace Go.Eng
variable [bk]
def y8:List (FuncId×List V×V)→FuncId→List V→Option V
 | [],_,_=>none
 | e :: t,f,vs=>if e.1=f then (if kq e.2.1 vs=true then some e.2.2 else y8 t f vs) else y8 t f vs
theorem bD {P:Program}:qw P (y8 []):=fun f vs r h=>by cases h
theorem bL {P:Program} {f:FuncId} {vs:List V} {r:V} {t:List (FuncId×List V×V)} (h:cx P f vs r) (ht:qw P (y8 t)):qw P (y8 ((f,vs,r) :: t)):=fun g ws s hs=>by
 unfold y8 at hs;dsimp only at hs;split at hs;·rename_i hf;split at hs;(·rename_i hv;cases hs;rw [← hf,← gY hv];exact h);exact ht g ws s hs
 exact ht g ws s hs
def Bp:List (FuncId×List V×List bm×List (V×List bm))→lT
 | [],_,_,_=>none
 | e :: t,f,vs,mem=>if e.1=f then (if kq e.2.1 vs=true then (if sN e.2.2.1 mem=true then some e.2.2.2 else Bp t f vs mem) else Bp t f vs mem) else Bp t f vs mem
theorem dL {P:Program}:kp P (Bp []):=fun f vs mem outs h=>by cases h
theorem cO {P:Program} {f:FuncId} {vs:List V} {mem:List bm} {outs:List (V×List bm)} {t:List (FuncId×List V×List bm×List (V×List bm))} (h:eo P f vs mem fun r m=>(r,m)∈outs) (ht:kp P (Bp t)):kp P (Bp ((f,vs,mem,outs) :: t)):=fun g ws m o hs=>by
 unfold Bp at hs;dsimp only at hs;split at hs;·rename_i hf;split at hs;(·rename_i hv;split at hs;(·rename_i hm;cases hs;rw [← hf,← gY hv,← tM hm];exact h);exact ht g ws m o hs);exact ht g ws m o hs
 exact ht g ws m o hs
end Go.Eng
end
section
namespace Go.Eng
variable [bk]
def afx (n k:Nat) (cs:List V) (j:Nat):Option (Nat×Nat):=match cs[j]? with
 | some (V.ms b _ _ _)=>if n≤b then some (k,j) else none
 | _=>none
def afy (n:Nat) (m:List bm) (k:Nat):List (Nat×Nat):=match m[k]? with
 | some (bm.box cs)=>(List.range cs.length).filterMap (afx n k cs)
 | _=>[]
def Rm (n:Nat) (m:List bm):List (Nat×Nat):=(List.range n).flatMap (afy n m)
def Rn (m:List bm) (p:Nat×Nat):Option (List bm):=match m[p.1]? with
 | some (.box cs)=>match cs[p.2]? with
  | some v0=>match gH m v0 with
   | some v'=>some ((eP m (fg v0)).set p.1 (.box (cs.set p.2 v')))
   | none=>none
  | none=>none
 | _=>none
def FE:List (Nat×Nat)→List bm→Option (List bm)
 | [],m=>some m
 | p :: r,m=>match Rn m p with
  | some m'=>FE r m'
  | none=>none
theorem Ro {E:Env} {w:World} {a:Act} {fr:List V} {m m':List bm} {p:Nat×Nat} (h:Rn m p=some m') (hs:cY E w a { fr:=fr,mem:=m }):∃ E',cY E' w a { fr:=fr,mem:=m' }∧il E w E' w:=by
 unfold Rn at h;split at h;·rename_i cs hk;split at h;(·rename_i v0 hj;split at h;(·rename_i v' hp;cases h;exact hs.kN hk hj hp);cases h);cases h
 cases h
theorem DP {w:World} {a:Act} {fr:List V}:∀ {l:List (Nat×Nat)} {m m':List bm} {E:Env},FE l m=some m'→cY E w a { fr:=fr,mem:=m }→∃ E',cY E' w a { fr:=fr,mem:=m' }∧il E w E' w
 | [],m,m',E,h,hs=>by cases h;exact⟨E,hs,il.refl _ _⟩
 | p :: r,m,m',E,h,hs=>by
  unfold FE at h
  split at h
  ·rename_i m1 h1
   obtain⟨E1,s1,v1⟩:=Ro h1 hs
   obtain⟨E2,s2,v2⟩:=DP h s1
   exact⟨E2,s2,v1.trans v2⟩
  cases h
def Rp:V→List V
 | .ec vs=>vs
 | v=>[v]
def afz:V→List V→Option V
 | .ec _,l=>some (.ec l)
 | _,[v]=>some v
 | _,_=>none
theorem afA {E E':Env} {v v':V} {x:Value} {l:List V} (h:cV E v x) (hl:∀ xs,cJ E (Rp v) xs→cJ E' l xs) (hm:afz v l=some v'):cV E' v' x:=by cases v with|ec vs =>(cases hm;cases h with|ec _ _ xs hlen hh =>have:=hl xs.toList ⟨by simpa [Rp] using hlen,fun i c x hc hx=>hh i c x hc (by simpa using hx)⟩;exact .ec _ _ _ (by simpa using this.1) fun i c x hc hx=>this.2 i c x hc (by simpa using hx))|_ =>cases l with|nil=>cases hm|cons u r =>cases r with|nil =>cases hm;obtain⟨y,ys,hy,Qz,-⟩:=(hl [x] (.cons h (.nil _))).of_cons;cases hy;exact Qz|cons _ _=>cases hm
def aby (n:Nat) (p:V×List bm):Option (V×List bm):=match FE (Rm n p.2) p.2 with
 | some m1=>match fw m1 (Rp p.1) with
  | some l=>match afz p.1 l with
   | some v=>if aG n v=true∧((eP m1 ((Rp p.1).flatMap fg)).take n).all (aS n)=true then some (v,(eP m1 ((Rp p.1).flatMap fg)).take n) else none
   | none=>none
  | none=>none
 | none=>none
def Bq (n:Nat):List (V×List bm)→Option (List (V×List bm))
 | []=>some []
 | p :: r=>match aby n p with
  | some q=>match Bq n r with
   | some s=>some (q :: s)
   | none=>none
  | none=>none
theorem Br {n:Nat}:∀ {l l':List (V×List bm)},Bq n l=some l'→∀ p∈l,∃ q∈l',aby n p=some q
 | [],_,_,p,h=>by cases h
 | a :: r,l',h,p,hp=>by
  unfold Bq at h
  split at h
  ·rename_i q hq
   split at h
   ·rename_i s hs
    cases h
    rcases dj.1 hp with rfl|hp
    ·exact⟨q,bZ ..,hq⟩
    obtain⟨q',h1,h2⟩:=Br hs p hp
    exact⟨q',bE _ h1,h2⟩
   cases h
  cases h
theorem eo.Bd {P:Program} {f:FuncId} {vs:List V} {mem:List bm} {R R':V→List bm→Prop} (h:eo P f vs mem R)
  (step:∀ r m,R r m→∃ v' m2,R' v' (m2.take mem.length)∧aG mem.length v'=true∧(m2.take mem.length).all (aS mem.length)=true ∧
   ∀ (E:Env) (w:World) (x:Value),cY E w { tmps := #[],defers:=[] } { fr:=[],mem:=m }→cV E r x→∃ E2,cY E2 w { tmps := #[],defers:=[] } { fr:=[],mem:=m2 }∧il E w E2 w∧cV E2 v' x):eo P f vs mem R':=by
 refine⟨h.1,fun E w xs hs hx=>(h.2 E w xs hs hx).mono ?_⟩;rintro e w' ⟨E',x,r,m,rfl,hR,iz,qc,nB⟩;obtain⟨v',m2,hR',hv,hm,st⟩:=step r m hR;obtain⟨E2,s2,ev2,Qz⟩:=st E' w' x qc nB;have he:=iz.trans ev2;have hc:=s2.cut (n:=mem.length) rfl hm;refine⟨E2.cut mem.length,x,v',m2.take mem.length,rfl,hR',⟨⟨he.le.F,fun k v t hk=>?_⟩,fun k v g e c hk=>?_,he.F,he.os,he.tape,he.output,he.size,he.heap⟩,hc,jJ Qz hv⟩;·(have:k<mem.length:=by (rcases br k mem.length with bR|hZ);(·exact bR);rw [hs.top k hZ v] at hk;cases hk);exact (if_pos this).trans (he.le.cw _ _ _ hk)
 have:E2.cw k v=some (g,e,c):=by by_cases mh:k<mem.length;(·exact ((if_pos mh).symm.trans hk:E2.cw k v=_));have h2:(E2.cut mem.length).cw k v=none:=if_neg mh;rw [h2] at hk;cases hk
 exact he.cw _ _ _ _ _ this
theorem eo.G8 {P:Program} {f:FuncId} {vs:List V} {mem:List bm} {l l':List (V×List bm)} (h:eo P f vs mem fun r m=>(r,m)∈l) (hp:Bq mem.length l=some l'):eo P f vs mem fun r m=>(r,m)∈dedup l':=by
 refine h.Bd fun r m hR=>?_;obtain⟨q,hq,ht⟩:=Br hp _ hR;unfold aby at ht;dsimp only at ht;split at ht;·rename_i m1 h1;split at ht;(·rename_i l hl;split at ht;(·rename_i v hv;split at ht;(·rename_i hc;cases ht;refine⟨v,_,tN hq,hc.1,hc.2,fun E w x hs nB=>?_⟩;obtain⟨E1,s1,ev1⟩:=DP h1 hs;obtain⟨E2,s2,ev2,r2⟩:=s1.freeze hl;exact⟨E2,s2,ev1.trans ev2,afA (nB.mono ev1.le) r2 hv⟩);cases ht);cases ht);cases ht
 cases ht
def Rr (n:Nat) (x:Option (List (V×List bm))):Option (List (V×List bm)):=match x with
 | some l=>match Bq n l with
  | some l'=>some (dedup l')
  | none=>none
 | none=>none
theorem eo.Rr {P:Program} {f:FuncId} {vs:List V} {mem:List bm} {x:Option (List (V×List bm))} (h:∀ l,x=some l→eo P f vs mem fun r m=>(r,m)∈l) {o:List (V×List bm)} (hp:Go.Eng.Rr mem.length x=some o):eo P f vs mem fun r m=>(r,m)∈o:=by
 unfold Go.Eng.Rr at hp;split at hp;·rename_i l;split at hp;(·rename_i l' hl';cases hp;exact (h l rfl).G8 hl');cases hp
 cases hp
end Go.Eng
end
