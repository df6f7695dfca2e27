import Derived.Test.YtfbbfmcggbapoaaGreatDoorE5
import Derived.Lib.Agree
open Bool renaming false_eq_true->bw
open ByteArray renaming ext->avL
open List renaming all_eq_true->ba,drop_succ_cons->aa0,ext_getElem?->eh,getD_eq_getElem?_getD->eY,getElem?_cons_succ->cu,getElem?_cons_zero->aI,getElem?_eq_getElem->bf,getElem?_eq_none->ep,getElem?_eq_some_iff->az,getElem?_map->ae,getElem?_range->awe,getElem?_set->cf,mem_cons->dp,mem_of_getElem?->aw,take_succ_cons->AH
open Nat renaming add_zero->fI,zero_add->dc
open Option renaming isNone_none->aeX,map_eq_some_iff->bp,map_some->bU
set_option linter.all false
section
namespace Go.Eng
variable [bJ]
theorem Gp {P:g7} {tt:Table} {all:Array Oper} {K:St->Prop}:∀ (k:Nat) (l:List Oper) (st:St),eV P tt all (l.take k) st (fun s=>eV P tt all (l.drop k) s K)=eV P tt all l st K
 | 0,l,st=>rfl
 | k+1,[],st=>rfl
 | k+1,o :: r,st=>by
  have ih:=fun s=>Gp (P:=P) (tt:=tt) (all:=all) (K:=K) k r s
  simp only [AH,aa0,eV,ih]
def KK (t:Nat) (b:V):List (Nat×V)->V
 | []=>b
 | p :: ws=>if p.1=t then p.2 else KK t b ws
def wr (n:Nat) (l:List V) (ws:List (Nat×V)):List V:=(List.range n).map fun i=>KK i (l.getD i .undef) ws
theorem vT (n:Nat) (l:List V) (ws:List (Nat×V)) (t:Nat):(wr n l ws)[t]?=if t<n then some (KK t (l.getD t .undef) ws) else none:=by
 unfold wr;rw [ae];by_cases h:t<n;·rw [gH h,awe h];rfl
 rw [g5 h,ep (by simp;omega)];rfl
theorem W8 (n:Nat) (l:List V) (ws:List (Nat×V)) (t:Nat):(wr n l ws).getD t .undef=if t<n then KK t (l.getD t .undef) ws else .undef:=by rw [eY,vT];split <;> rfl
theorem yI (n:Nat) (l:List V) (ws:List (Nat×V)):(wr n l ws).length=n:=by simp [wr]
theorem ab5 (n:Nat) (l:List V) (ws:List (Nat×V)) (d:Nat) (v:V):(wr n l ws).set d v=wr n l ((d,v) :: ws):=by
 apply eh;intro i;rw [cf,vT,vT,yI];simp only [KK];by_cases h:d=i;·subst h;simp
 simp [h]
theorem Sr {n:Nat} {l:List V} (h:l.length=n):wr n l []=l:=by
 apply eh;intro i;rw [vT];simp only [KK];split;·rename_i hi;rw [eY,bf (by omega)];rfl
 rw [ep (by omega)]
def xk (ws:List (Nat×V)):Nat->List Nat->List V->List V
 | _,_,[]=>[]
 | _,[],v :: l=>v :: l
 | i,c :: cs,v :: l=>(match c with|0=>v|1=>.undef|_=>KK i v ws) :: xk ws (i+1) cs l
def tj (cs:List Nat) (ws:List (Nat×V)):Bool:=ws.all fun p=>match cs[p.1]? with|some 0=>false|none=>false|_=>true
theorem IX {t:Nat} {b:V}:∀ {ws:List (Nat×V)},(∀ p∈ws,p.1≠t)->KK t b ws=b
 | [],_=>rfl
 | p :: ws,h=>by
  simp only [KK,g5 (h p (by simp))]
  exact IX fun q hq=>h q (by simp [hq])
theorem rF {cs:List Nat} {ws:List (Nat×V)} (h:tj cs ws=true) {i:Nat} (hi:cs[i]?=some 0\/cs[i]?=none) (b:V):KK i b ws=b:=by refine IX fun p hp e=>?_;have:=ba.1 h p hp;rw [e] at this;rcases hi with hi|hi <;> rw [hi] at this <;> cases this
theorem Gq (ws:List (Nat×V)):∀ (l:List V) (cs:List Nat) (k i:Nat),(xk ws k cs l)[i]?=l[i]?.map fun v=>match cs[i]? with|none=>v|some 0=>v|some 1=>.undef|_=>KK (k+i) v ws
 | [],cs,k,i=>by simp [xk]
 | v :: l,[],k,i=>by simp [xk]
 | v :: l,c :: cs,k,0=>by
  simp only [xk,aI,bU,fI]
  rcases c with _|_|c <;> rfl
 | v :: l,c :: cs,k,i+1=>by
  simp only [xk,cu]
  rw [Gq ws l cs (k+1) i,show k+1+i=k+(i+1) by omega]
theorem Ss {ws:List (Nat×V)} {l:List V} {cs:List Nat} (hk:tj cs ws=true) {i:Nat} {v:V} (h:(xk ws 0 cs l)[i]?=some v):v = .undef\/(wr l.length l ws)[i]?=some v:=by
 rw [Gq,bp] at h;obtain⟨b,hb,hv⟩:=h;have hi:=(az.1 hb).1;have hd:l.getD i .undef=b:=by rw [eY,hb];rfl
 rw [vT,gH hi,hd];rw [dc] at hv;revert hv;cases hc:cs[i]? with|none=>intro hv;right;rw [rF hk (.inr hc)];exact yJ some hv|some c =>(rcases c with _|_|c);(·intro hv;right;rw [rF hk (.inl hc)];exact yJ some hv);(·intro hv;left;exact hv.symm);intro hv;right;exact yJ some hv
theorem B7 (ws:List (Nat×V)):∀ (l:List V) (cs:List Nat) (k:Nat),(xk ws k cs l).length=l.length
 | [],cs,k=>by simp [xk]
 | v :: l,[],k=>by simp [xk]
 | v :: l,c :: cs,k=>by simp [xk,B7 ws l cs (k+1)]
theorem W9 {E:Env} {ws:List (Nat×V)} {l:List V} {cs:List Nat} {xs:List Value} (hk:tj cs ws=true) (h:dh E (wr l.length l ws) xs):dh E (xk ws 0 cs l) xs:=by
 refine⟨by rw [B7,<- h.1,yI],fun i v x hv hx=>?_⟩;rcases Ss hk hv with rfl|h1
 ·exact .undef _ _
 exact h.2 i v x h1 hx
theorem ab6 {ws:List (Nat×V)} {l:List V} {cs:List Nat} (hk:tj cs ws=true) (h1:cs.all (· != 1)=true):xk ws 0 cs l=wr l.length l ws:=by
 apply eh;intro i;rw [Gq,vT];by_cases hi:i<l.length;·rw [gH hi,bf hi,bU];(have hd:l.getD i .undef=l[i]:=by rw [eY,bf hi];rfl);rw [hd,dc];congr 1;cases hc:cs[i]? with|none=>exact (rF hk (.inr hc) _).symm|some c =>(rcases c with _|_|c);(·exact (rF hk (.inl hc) _).symm);(·have:=ba.1 h1 1 (aw hc);simp at this);rfl
 rw [g5 hi,ep (show l.length<=i by omega)];rfl
def gT (j:Nat):List (Nat×Nat)->Option Nat
 | []=>none
 | p :: r=>if p.1=j then some p.2 else gT j r
def gOk (all:Array Oper) (gl:List (Nat×Nat)):Bool:=gl.all fun p=>(match (all[p.1]?).bind (·.dst) with|some d=>decide (d=p.2)|none=>false)
def Su (want:Bool):Option V->Option Bool
 | some (.sc (.bool b))=>some (b==want)
 | some (.sc _)=>some false
 | some _=>none
 | none=>some false
def uv (gl:List (Nat×Nat)) (all:Array Oper) (fr:List V) (o:Oper):Option Bool :=
 match o.guard with
 | none=>some true
 | some (j,want)=>match gT j gl with
  | none=>gE all fr o
  | some d=>Su want fr[d]?
theorem Zw {all:Array Oper}:∀ {gl:List (Nat×Nat)},gOk all gl=true->∀ {j d:Nat},gT j gl=some d->(all[j]?).bind (·.dst)=some d
 | [],_,j,d,h=>by cases h
 | p :: r,hg,j,d,h=>by
  have h1:=ba.1 hg p (by simp)
  simp only [gT] at h
  split at h
  ·rename_i e
   cases h
   rw [e] at h1
   cases hd:(all[j]?).bind (·.dst) with
   | none=>rw [hd] at h1;cases h1
   | some d=>rw [hd] at h1;exact yJ some (qB h1)
  exact Zw (ba.2 fun q hq=>ba.1 hg q (by simp [hq])) h
theorem LF {all:Array Oper} {gl:List (Nat×Nat)} (hg:gOk all gl=true) (fr:List V) (o:Oper):uv gl all fr o=gE all fr o:=by unfold uv;cases ho:o.guard with|none=>unfold gE;rw [ho]|some g =>obtain⟨j,want⟩:=g;simp only;cases ht:gT j gl with|none=>rfl|some d =>have:=Zw hg ht;unfold gE;rw [ho];simp only [this];unfold Su;cases fr[d]? with|none=>rfl|some v =>cases v with|sc x=>cases x <;> rfl|_=>rfl
def gF (P:g7) (tt:Table) (gl:List (Nat×Nat)) (all:Array Oper):List Oper->St->(St->Prop)->Prop
 | [],st,Q=>Q st
 | o :: r,st,Q=>match uv gl all st.fr o with
  | some true=>dv P tt st.mem.length o st fun st'=>gF P tt gl all r st' Q
  | some false=>gF P tt gl all r (st.put o.dst (.sc undef)) Q
  | none=>False
@[congr] theorem V6 {P:g7} {tt:Table} {gl:List (Nat×Nat)} {all:Array Oper} {l l':List Oper} {st st':St} {Q:St->Prop} (hl:l=l') (h:st=st'):gF P tt gl all l st Q=gF P tt gl all l' st' Q:=by rw [hl,h]
theorem vU {P:g7} {tt:Table} {gl:List (Nat×Nat)} {all:Array Oper} (hg:gOk all gl=true) {Q:St->Prop}:∀ (l:List Oper) (st:St),gF P tt gl all l st Q=eV P tt all l st Q
 | [],st=>rfl
 | o :: r,st=>by
  have ih:=fun s=>vU (P:=P) (tt:=tt) (Q:=Q) hg r s
  simp only [gF,eV,LF hg,ih]
  rfl
theorem vi {P:g7} {tt:Table} {gl:List (Nat×Nat)} {all:Array Oper} {K:St->Prop}:∀ (k:Nat) (l:List Oper) (st:St),gF P tt gl all (l.take k) st (fun s=>gF P tt gl all (l.drop k) s K)=gF P tt gl all l st K
 | 0,l,st=>rfl
 | k+1,[],st=>rfl
 | k+1,o :: r,st=>by
  have ih:=fun s=>vi (P:=P) (tt:=tt) (gl:=gl) (all:=all) (K:=K) k r s
  simp only [AH,aa0,gF,ih]
theorem nJ {P:g7} {tt:Table} {gl:List (Nat×Nat)} {all:Array Oper} (k:Nat) {l:List Oper} {st:St} {K:St->Prop}
  (h:∀ K1:St->Prop,(∀ s,gF P tt gl all (l.drop k) s K->K1 s)->gF P tt gl all (l.take k) st K1):gF P tt gl all l st K:=by rw [<- vi k];exact h _ fun _ h=>h
section
variable {P:g7} {tt:Table} {ρ:Option Nat} {n0:Nat} {Q:Exit->St->Prop} {l:List V} {mem:List bx}
theorem Xa {c:Code} {cs:List Nat} {ws:List (Nat×V)} (hk:tj cs ws=true) (h:fc P ρ n0 c { fr:=xk ws 0 cs l,mem:=mem } Q):fc P ρ n0 c { fr:=wr l.length l ws,mem:=mem } Q :=
 sY (st' := { fr:=xk ws 0 cs l,mem:=mem }) (fun E w a hs=>⟨hs.F,hs.lt,hs.mem,hs.top,hs.ej,hs.apart,W9 hk hs.fr⟩) h
theorem mX (ht:TT P tt) (n:Nat) (cs:List Nat) (gl:List (Nat×Nat)) (hn:l.length=n) {id:Nat} {ops:Array Oper} {y:Code} (hg:gOk ops gl=true)
  (h:∀ K:St->Prop,(∀ ws b7,tj cs ws=true->fc P ρ n0 y { fr:=xk ws 0 cs l,mem:=b7 } Q->K { fr:=wr n l ws,mem:=b7 })->gF P tt gl ops ops.toList { fr:=wr n l [],mem:=mem } K) :
  fc P ρ n0 (.seq (.region id ops false) y) { fr:=l,mem:=mem } Q:=by subst hn;refine s5 ht fun K hK=>?_;have:=h K fun ws b7 hk ht=>hK _ (Xa hk ht);rw [vU hg,Sr rfl] at this;exact this
theorem xl (ht:TT P tt) (n:Nat) (cs:List Nat) (gl:List (Nat×Nat)) (hn:l.length=n) (h1:cs.all (· != 1)=true) {id:Nat} {ops:Array Oper} (hg:gOk ops gl=true)
  (h:∀ K:St->Prop,(∀ ws b7,tj cs ws=true->Q .normal { fr:=xk ws 0 cs l,mem:=b7 }->K { fr:=wr n l ws,mem:=b7 })->gF P tt gl ops ops.toList { fr:=wr n l [],mem:=mem } K) :
  fc P ρ n0 (.region id ops false) { fr:=l,mem:=mem } Q:=by subst hn;refine r6 ht fun K hK=>?_;have:=h K fun ws b7 hk ht=>hK _ (by rw [<- ab6 hk h1];exact ht);rw [vU hg,Sr rfl] at this;exact this
end
attribute [irreducible] gF
end Go.Eng
end
section
namespace Go.Eng
variable [bJ]
def Ex (P:g7) (ρ:Option Nat) (n0:Nat) (c:Code) (st:St) (Q:Exit->St->Prop):Prop :=
  ∃ (e:Exit) (s:St),Q e s/\∀ Q':Exit->St->Prop,Q' e s->fc P ρ n0 c st Q'
section
variable {P:g7} {tt:Table} {ρ:Option Nat} {n0:Nat} {st:St} {Q:Exit->St->Prop}
theorem Ex.mono {c:Code} {Q2:Exit->St->Prop} (h:Ex P ρ n0 c st Q) (hq:∀ e s,Q e s->Q2 e s):Ex P ρ n0 c st Q2:=by obtain⟨e,s,h1,h⟩:=h;exact⟨e,s,hq _ _ h1,h⟩
theorem Gr (h:Q .normal st):Ex P ρ n0 .skip st Q:=⟨_,_,h,fun _ h=>cR h⟩
theorem Sv (h:Q .ret st):Ex P ρ n0 .ret st Q:=⟨_,_,h,fun _ h=>cy h⟩
theorem Nu {id:Nat} (h:Q (.exit id) st):Ex P ρ n0 (.exit id) st Q:=⟨_,_,h,fun _ h=>fA h⟩
theorem B8 {x y:Code} (h:Ex P ρ n0 x st (iQ (fun st'=>Ex P ρ n0 y st' Q) Q)):Ex P ρ n0 (.seq x y) st Q:=by obtain⟨e,s,hq,h⟩:=h;cases e with|normal =>obtain⟨e2,s2,mi,h2⟩:=hq;exact⟨e2,s2,mi,fun Q' h'=>bS (h _ (h2 Q' h'))⟩|_=>exact⟨_,s,hq,fun Q' h'=>bS (h (iQ (fun st'=>fc P ρ n0 y st' Q') Q') h')⟩
theorem Nv {c:Operand} {x y:Code} {b:Bool} (hc:st.eval c = .sc (.bool b)) (h:Ex P ρ n0 (if b=true then x else y) st Q):Ex P ρ n0 (.cond c x y) st Q:=by obtain⟨e,s,hq,h⟩:=h;exact⟨e,s,hq,fun Q' h'=>bD hc (h Q' h')⟩
theorem agD {c:Operand} {x y:Code} {b:Bool} (hc:st.eval c = .sc (.bool b)) (h1:b=true->Ex P ρ n0 x st Q) (h2:b=false->Ex P ρ n0 y st Q):Ex P ρ n0 (.cond c x y) st Q:=by refine Nv hc ?_;cases b with|true=>exact h1 rfl|false=>exact h2 rfl
theorem B9 {id:Nat} {c:Code} (h:Ex P ρ n0 c st (kB id Q)):Ex P ρ n0 (.block id c) st Q:=by obtain⟨e,s,hq,h⟩:=h;cases e with|exit j =>(by_cases hj:j=id;(·simp only [kB,gH hj] at hq;exact⟨_,s,hq,fun Q' h'=>cz (h (kB id Q') (by simpa only [kB,gH hj] using h'))⟩);·simp only [kB,g5 hj] at hq;exact⟨_,s,hq,fun Q' h'=>cz (h (kB id Q') (by simpa only [kB,g5 hj] using h'))⟩)|_=>exact⟨_,s,hq,fun Q' h'=>cz (h (kB id Q') h')⟩
theorem LG {c:Code} {m:Nat} {Q':Exit->St->Prop} (n:Nat) (mk:List Bool) (hn:n0<=n) (hf:(cp mk st.fr).all (aQ n)=true) (hm:(st.mem.take n).all (a6 n)=true)
    (h:mv P ρ n0 c m { fr:=cp mk st.fr,mem:=st.mem.take n } Q'):mv P ρ n0 c m st Q':=by cases m with|zero=>exact h.elim|succ m=>exact qC n mk hn hf hm h
theorem IY {c:Code} (I:Nat->St->Prop) (N:Nat) (h0:Ip n0 st (I N))
    (step:∀ n st,I n st->Ex P ρ n0 c st (iQ (fun st'=>∃ k,k<n/\Ip n0 st' (I k)) Q)):Ex P ρ n0 (.loop c) st Q:=by
  have key:∀ (n:Nat) (st:St),I n st->∃ (e:Exit) (s:St),Q e s/\∀ Q':Exit->St->Prop,Q' e s->∃ m,mv P ρ n0 c m st Q':=by intro n;induction n using Nat.strongRecOn with|_ n ih =>intro st hI;obtain⟨e,s,hq,h⟩:=step n st hI;cases e with|normal =>obtain⟨k,hk,n1,mk,h1,h2,h3,h4⟩:=hq;obtain⟨e2,s2,mi,h5⟩:=ih k hk _ h4;refine⟨e2,s2,mi,fun Q' h'=>?_⟩;obtain⟨m,h6⟩:=h5 Q' h';exact⟨m+1,h _ (LG n1 mk h1 h2 h3 h6)⟩|_=>exact⟨_,s,hq,fun Q' h'=>⟨1,h (iQ (fun st'=>mv P ρ n0 c 0 st' Q') Q') h'⟩⟩
  obtain⟨n1,mk,h1,h2,h3,h4⟩:=h0;obtain⟨e,s,hq,h⟩:=key N _ h4;exact⟨e,s,hq,fun Q' h'=>qC n1 mk h1 h2 h3 (Iq (h Q' h'))⟩
def xm (P:g7) (f:FuncId) (vs vs':List V) (keys:List (Nat×Nat)) (st:St) (dst:Option Tmp) (Q:St->Prop):Prop :=
  ∃ v,(dz P f vs' v/\Q ({ st with mem:=iP st.mem keys v }.put dst v))\/(sS P f vs v/\Q (st.put dst v))\/∃ m',bK P f vs st.mem v m'/\Q ({ st with mem:=m' }.put dst v)
def EC (P:g7) (f:FuncId) (vs:List V) (st:St) (dst:Option Tmp) (Q:St->Prop):Prop :=
  ∃ v m',bK P f vs st.mem v m'/\Q ({ st with mem:=m' }.put dst v)
def Nw (P:g7) (f:FuncId) (vs:List V) (st:St) (dst:Option Tmp) (Q:St->Prop):Prop :=
  match jj st.mem vs with
  | some vs'=>xm P f vs vs' (vs.flatMap iz) st dst Q
  | none=>EC P f vs st dst Q
@[congr] theorem Zx {f f':FuncId} {us RC vs vs':List V} {keys Zy:List (Nat×Nat)} {st st':St} {dst:Option Tmp} {Q:St->Prop} (hf:f=f') (hu:us=RC) (hv:vs=vs') (hk:keys=Zy) (h:st=st'):xm P f us vs keys st dst Q=xm P f' RC vs' Zy st' dst Q:=by rw [hf,hu,hv,hk,h]
def lX (P:g7) (tt:Table) (key:Nat) (o:Oper) (st:St) (Q:St->Prop):Prop :=
  match o.op with
  | .alloc T=>match tt T with
    | some i=>Q ({ st with mem:=dw st.mem key (.box (i.zero.map V.sc)) }.put o.dst (.ptr key 0))
    | none=>False
  | .box _ x=>match mr (st.eval x) with
    | some cs=>Q ({ st with mem:=dw st.mem key (.box cs) }.put o.dst (.ptr key 0))
    | none=>False
  | .build T parts=>match nW P tt T parts.toList st.eval with
    | some v=>Q (st.put o.dst v)
    | none=>False
  | .buildSlice T len parts=>match yv tt T len parts.toList st.eval with
    | some (size,rs)=>Q ({ st with mem:=dw st.mem key (.rows 0 size rs) }.put o.dst (.ms key 0 0 len))
    | none=>False
  | .store T p x=>match nU tt st.mem T (st.eval p) (st.eval x) with
    | some b7=>Q ({ st with mem:=b7 }.put o.dst (.sc undef))
    | none=>False
  | .call c=>match c.callee with
    | .value f=>match du (st.eval f) (c.args.toList.map st.eval) with
      | some (g,vs)=>Nw P g vs st o.dst Q
      | none=>False
    | .builtin .append=>match c.args.toList.map st.eval with
      | [s,x]=>match fC tt st.mem c.argTypes.toList s x with
        | some (size,sO,rows)=>Q ({ st with mem:=(eU st.mem key size rows sO).1 }.put o.dst (eU st.mem key size rows sO).2)
        | none=>False
      | _=>False
    | .builtin .len=>match lM P tt st o with
      | some v=>Q (st.put o.dst v)
      | none=>False
    | .builtin .max=>match lM P tt st o with
      | some v=>Q (st.put o.dst v)
      | none=>False
    | .builtin .min=>match lM P tt st o with
      | some v=>Q (st.put o.dst v)
      | none=>False
    | _=>False
  | .makeMap _ none=>Q ({ st with mem:=dw st.mem key (.map [] 0) }.put o.dst (.mp key))
  | .makeSlice T l c=>match zv tt T (st.eval l) (st.eval c) with
    | some (size,rs,_)=>Q ({ st with mem:=dw st.mem key (.rows 0 size rs) }.put o.dst (.ms key 0 0 rs.length))
    | none=>False
  | .mapUpdate T m k x=>match ee P st.mem T (st.eval m) (st.eval k) (st.eval x) with
    | some b7=>Q ({ st with mem:=b7 }.put o.dst (.sc undef))
    | none=>False
  | .insert T m k x=>match ee P st.mem T (st.eval m) (st.eval k) (st.eval x) with
    | some b7=>Q ({ st with mem:=b7 }.put o.dst (.sc undef))
    | none=>False
  | .binOp op T x y _=>match qf tt op T (st.eval x) (st.eval y) with
    | some _=>False
    | none=>match lM P tt st o with
      | some v=>Q (st.put o.dst v)
      | none=>False
  | .move _=>match lM P tt st o with
    | some v=>Q (st.put o.dst v)
    | none=>False
  | .assign _=>match lM P tt st o with
    | some v=>Q (st.put o.dst v)
    | none=>False
  | .pick _ _ _=>match lM P tt st o with
    | some v=>Q (st.put o.dst v)
    | none=>False
  | .load _ _=>match lM P tt st o with
    | some v=>Q (st.put o.dst v)
    | none=>False
  | .nilCheck _=>match lM P tt st o with
    | some v=>Q (st.put o.dst v)
    | none=>False
  | .unOp _ _ _=>match lM P tt st o with
    | some v=>Q (st.put o.dst v)
    | none=>False
  | .convert _ _ _=>match lM P tt st o with
    | some v=>Q (st.put o.dst v)
    | none=>False
  | .makeFunc _ _ _=>match lM P tt st o with
    | some v=>Q (st.put o.dst v)
    | none=>False
  | .slice _ _ _ _ _=>match lM P tt st o with
    | some v=>Q (st.put o.dst v)
    | none=>False
  | .fieldAddr _ _ _=>match lM P tt st o with
    | some v=>Q (st.put o.dst v)
    | none=>False
  | .indexAddr _ _ _=>match lM P tt st o with
    | some v=>Q (st.put o.dst v)
    | none=>False
  | .field _ _ _=>match lM P tt st o with
    | some v=>Q (st.put o.dst v)
    | none=>False
  | .index _ _ _=>match lM P tt st o with
    | some v=>Q (st.put o.dst v)
    | none=>False
  | .extract _ _=>match lM P tt st o with
    | some v=>Q (st.put o.dst v)
    | none=>False
  | .lookup _ _ _ _=>match lM P tt st o with
    | some v=>Q (st.put o.dst v)
    | none=>False
  | _=>False
@[congr] theorem Zz {key agE:Nat} {o:Oper} {st st':St} {Q:St->Prop} (hk:key=agE) (h:st=st'):lX P tt key o st Q=lX P tt agE o st' Q:=by rw [hk,h]
theorem Sw {key:Nat} {o:Oper} {Q:St->Prop} (h:lX P tt key o st Q):∃ s,Q s/\∀ K:St->Prop,K s->dv P tt key o st K:=by
  obtain⟨dst,op,type,pos,after,guard⟩:=o;cases op
  case call c =>
    obtain⟨callee,args,ats⟩:=c
    cases callee
    case value f =>
      simp only [lX] at h
      split at h
      · rename_i g vs hg
        unfold Nw at h
        split at h
        · rename_i vs' hp
          obtain⟨v,⟨h1,h2⟩|⟨h1,h2⟩|⟨m',h1,h2⟩⟩:=h
          · refine⟨_,h2,fun K hK=>?_⟩
            simp only [dv]
            split
            · rename_i k hy;rw [hy] at hg;simp [du] at hg
            · rw [hg];exact .inl ⟨vs',v,hp,h1,hK⟩
          · refine⟨_,h2,fun K hK=>?_⟩
            simp only [dv]
            split
            · rename_i k hy;rw [hy] at hg;simp [du] at hg
            · rw [hg];exact .inr (.inr (.inr ⟨v,h1,hK⟩))
          · refine⟨_,h2,fun K hK=>?_⟩
            simp only [dv]
            split
            · rename_i k hy;rw [hy] at hg;simp [du] at hg
            · rw [hg];exact .inr (.inl ⟨v,m',h1,hK⟩)
        · obtain⟨v,m',h1,h2⟩:=h
          refine⟨_,h2,fun K hK=>?_⟩
          simp only [dv]
          split
          · rename_i k hy;rw [hy] at hg;simp [du] at hg
          · rw [hg];exact .inr (.inl ⟨v,m',h1,hK⟩)
      · exact h.elim
    case builtin b =>
      cases b
      case append =>
        simp only [lX] at h
        split at h
        · rename_i s x Ws
          split at h
          · rename_i size sO rows ha
            refine⟨_,h,fun K hK=>?_⟩
            simp only [dv,Ws,ha]
            exact hK
          · exact h.elim
        · exact h.elim
      all_goals first
        | exact h.elim
        | (simp only [lX] at h
           split at h
           · rename_i v hv
             refine⟨_,h,fun K hK=>?_⟩
             simp only [dv,hv]
             exact hK
           · exact h.elim)
    all_goals exact h.elim
  case binOp =>
    simp only [lX] at h
    split at h
    · exact h.elim
    · rename_i hn
      split at h
      · rename_i v hv
        refine⟨_,h,fun K hK=>?_⟩
        simp only [dv,hn,hv]
        exact hK
      · exact h.elim
  case buildSlice =>
    simp only [lX] at h
    split at h
    · rename_i size rs hl
      refine⟨_,h,fun K hK=>?_⟩
      simp only [dv,hl]
      exact hK
    · exact h.elim
  case store =>
    simp only [lX] at h
    split at h
    · rename_i m hl
      refine⟨_,h,fun K hK=>?_⟩
      simp only [dv,hl]
      exact hK
    · exact h.elim
  case makeSlice T l c =>
    simp only [lX] at h
    split at h
    · rename_i size rs c' hl
      refine⟨_,h,fun K hK=>?_⟩
      simp only [dv,hl]
      exact hK
    · exact h.elim
  case makeMap T l =>
    cases l with
    | none=>exact⟨_,h,fun K hK=>hK⟩
    | some l=>exact h.elim
  all_goals first
    | exact h.elim
    | (simp only [lX] at h
       split at h
       · rename_i v hv
         refine⟨_,h,fun K hK=>?_⟩
         simp only [dv,hv]
         exact hK
       · exact h.elim)
def tl (P:g7) (tt:Table) (gl:List (Nat×Nat)) (all:Array Oper):List Oper->St->(St->Prop)->Prop
  | [],st,Q=>Q st
  | o :: r,st,Q=>match uv gl all st.fr o with
    | some true=>lX P tt st.mem.length o st fun st'=>tl P tt gl all r st' Q
    | some false=>tl P tt gl all r (st.put o.dst (.sc undef)) Q
    | none=>False
@[congr] theorem ab8 {gl:List (Nat×Nat)} {all:Array Oper} {l l':List Oper} {st st':St} {Q:St->Prop} (hl:l=l') (h:st=st'):tl P tt gl all l st Q=tl P tt gl all l' st' Q:=by rw [hl,h]
theorem AT {gl:List (Nat×Nat)} {all:Array Oper} {Q:St->Prop}:∀ (l:List Oper) (st:St),tl P tt gl all l st Q->∃ s,Q s/\∀ K:St->Prop,K s->gF P tt gl all l st K
  | [],st,h=>⟨st,h,fun K hK=>by rw [gF];exact hK⟩
  | o :: r,st,h=>by
    rw [tl] at h
    split at h
    · rename_i hw
      obtain⟨s,h1,h2⟩:=Sw h
      obtain⟨s2,h3,h4⟩:=AT r s h1
      exact⟨s2,h3,fun K hK=>by rw [gF,hw];exact h2 _ (h4 K hK)⟩
    · rename_i hw
      obtain⟨s2,h3,h4⟩:=AT r _ h
      exact⟨s2,h3,fun K hK=>by rw [gF,hw];exact h4 K hK⟩
    · exact h.elim
theorem Ca {gl:List (Nat×Nat)} {all:Array Oper} {K:St->Prop}:∀ (k:Nat) (l:List Oper) (st:St),tl P tt gl all (l.take k) st (fun s=>tl P tt gl all (l.drop k) s K)=tl P tt gl all l st K
  | 0,l,st=>rfl
  | k+1,[],st=>rfl
  | k+1,o :: r,st=>by
    have ih:=fun s=>Ca (gl:=gl) (all:=all) (K:=K) k r s
    simp only [AH,aa0,tl,ih]
theorem Sx {gl:List (Nat×Nat)} {all:Array Oper} (k:Nat) {l:List Oper} {st:St} {K:St->Prop}
    (h:∀ K1:St->Prop,(∀ s,tl P tt gl all (l.drop k) s K->K1 s)->tl P tt gl all (l.take k) st K1):tl P tt gl all l st K:=by rw [<- Ca k];exact h _ fun _ h=>h
theorem Sy {R:V->Prop} {f:FuncId} {vs vs':List V} {keys:List (Nat×Nat)} {dst:Option Tmp} {Q:St->Prop} (hr:∃ v,R v/\dz P f vs' v) (h:∀ v,R v->Q ({ st with mem:=iP st.mem keys v }.put dst v)):xm P f vs vs' keys st dst Q:=by obtain⟨v,h1,h2⟩:=hr;exact⟨v,.inl ⟨h2,h v h1⟩⟩
theorem Sz {f:FuncId} {fn:Func} {ext:Array Value->Sem Value} (hf:P.funcs[f]?=some fn) (hn:(fn.name == "runtime.NumGoroutine")=false) (hb:fn.body=none) (Si:Extern.findNext fn=none) (HR:Extern.find fn=some ext)
    {vs:List V} {l:List Value} (hl:qa vs=some l) {v:Value} (fG:∀ w,(ext l.toArray).run P w = .ok v w):sS P f vs (j6 v):=fun E w xs hF hx=>by
  have sA:=rf hx hl
  refine⟨v,?_,lx E v⟩
  have hr:=fG w
  rw [<- sA] at hr
  simp only [callFunc,program,Sem.run_bind]
  show (match P.funcs[f]? with|none=>_|some fn=>_:Sem Next).run P w=_
  rw [hf]
  dsimp only
  rw [hn,hb]
  simp only [bw,if_false,aeX,if_true,Si,HR,Sem.run_bind,mark,Sem.run,Result.andThen_ok]
  have H7:(ext xs).run P w = .ok v w:=by simpa using hr
  rw [H7];rfl
theorem lY (ht:TT P tt) (n:Nat) (cs:List Nat) (gl:List (Nat×Nat)) {l:List V} {mem:List bx} (hn:l.length=n) {id:Nat} {ops:Array Oper} {y:Code} (hg:gOk ops gl=true)
    (h:∀ K:St->Prop,(∀ ws b7,tj cs ws=true->Ex P ρ n0 y { fr:=xk ws 0 cs l,mem:=b7 } Q->K { fr:=wr n l ws,mem:=b7 })->tl P tt gl ops ops.toList { fr:=wr n l [],mem:=mem } K) :
    Ex P ρ n0 (.seq (.region id ops false) y) { fr:=l,mem:=mem } Q:=by obtain⟨s,⟨ws,b7,rfl,hk,e,s2,hq,h2⟩,hr⟩:=AT _ _ (h (fun s=>∃ ws b7,s = { fr:=wr n l ws,mem:=b7 }/\tj cs ws=true/\Ex P ρ n0 y { fr:=xk ws 0 cs l,mem:=b7 } Q) fun ws b7 hk he=>⟨ws,b7,rfl,hk,he⟩);exact⟨e,s2,hq,fun Q' h'=>mX ht n cs gl hn hg fun K hK=>hr K (hK ws b7 hk (h2 Q' h'))⟩
theorem qK (ht:TT P tt) (n:Nat) (cs:List Nat) (gl:List (Nat×Nat)) {l:List V} {mem:List bx} (hn:l.length=n) (h1:cs.all (· != 1)=true) {id:Nat} {ops:Array Oper} (hg:gOk ops gl=true)
    (h:∀ K:St->Prop,(∀ ws b7,tj cs ws=true->Q .normal { fr:=xk ws 0 cs l,mem:=b7 }->K { fr:=wr n l ws,mem:=b7 })->tl P tt gl ops ops.toList { fr:=wr n l [],mem:=mem } K) :
    Ex P ρ n0 (.region id ops false) { fr:=l,mem:=mem } Q:=by obtain⟨s,⟨ws,b7,rfl,hk,hq⟩,hr⟩:=AT _ _ (h (fun s=>∃ ws b7,s = { fr:=wr n l ws,mem:=b7 }/\tj cs ws=true/\Q .normal { fr:=xk ws 0 cs l,mem:=b7 }) fun ws b7 hk he=>⟨ws,b7,rfl,hk,he⟩);exact⟨.normal,_,hq,fun Q' h'=>xl ht n cs gl hn h1 hg fun K hK=>hr K (hK ws b7 hk h')⟩
attribute [irreducible] tl
theorem agF {P:g7} {tt:Table} (ht:TT P tt) {R:V->Prop} {f:FuncId} {fn:Func} {body:Code} {args:List V} (hf:P.funcs[f]?=some fn) (hb:fn.body=some body)
    (fM:∀ (xs:Array Value) (w:World),(callFunc f xs).run P w = .ok (.enter f xs) w)
    (h:Ex P none 0 body (dj fn args []) fun ex st'=>(ex = .ret\/ex = .normal)/\∃ r,R r/\rm tt fn.results st'=some r):∃ r,R r/\dz P f args r:=by obtain⟨e,s,⟨h1,r,hr,h2⟩,h3⟩:=h;exact⟨r,hr,Na ht hf hb fM (h3 _ ⟨h1,h2⟩)⟩
def vV:List V->List Nat->List V->List V
  | l,t :: ts,v :: vs=>vV (l.set t v) ts vs
  | l,_,_=>l
def intOf:V->Int
  | .sc (.int _ n)=>n
  | _=>0
theorem SA {P:g7} {ρ:Option Nat} {n0:Nat} {Q:Exit->St->Prop} {c:Code} {l:List V} {mem:List bx} (ts:List Nat) (V7:List V) (n:Nat) (m:List Bool) (μ:List V->Nat) (Inv:List V->Prop)
    (hn:n0<=n) (hf:(cp m l).all (aQ n)=true) (hm:(mem.take n).all (a6 n)=true)
    (h0:vV (cp m l) ts V7=cp m l) (hi:Inv V7)
    (step:∀ vs,Inv vs->Ex P ρ n0 c { fr:=vV (cp m l) ts vs,mem:=mem.take n }
      (iQ (fun st'=>∃ vs',Inv vs'/\μ vs'<μ vs/\Ip n0 st' (fun s=>s = { fr:=vV (cp m l) ts vs',mem:=mem.take n })) Q)):Ex P ρ n0 (.loop c) { fr:=l,mem:=mem } Q:=by refine IY (fun k s=>∃ vs:List V,Inv vs/\k=μ vs/\s = { fr:=vV (cp m l) ts vs,mem:=mem.take n }) (μ V7) ⟨n,m,hn,hf,hm,V7,hi,rfl,by rw [h0]⟩ ?_;rintro k s ⟨vs,hv,rfl,rfl⟩;refine (step vs hv).mono fun e s' h=>?_;cases e with|normal =>obtain⟨vs',h4,h5,n1,m1,h6,h7,h8,h9⟩:=h;exact⟨μ vs',h5,n1,m1,h6,h7,h8,vs',h4,rfl,h9⟩|_=>exact h
theorem SB (P:g7) (T:g9) (x y:Operand) (k:IntKind) (a b:Int) (hb:b≠0):dy P (oy .quo T x y) (.sc (.int k a)) (.sc (.int k b))=some (.sc (.int k (k.wrap (a.tdiv b)))):=by simp [dy,fq,oy,binOp,Op.intDiv,eqGuard,dL,j6,bind,pure,Sem.bind,hb]
theorem ab9 (P:g7) (T:g9) (x y:Operand) (k k':IntKind) (a b:Int) (hb:¬ b<0):dy P (oy .shr T x y) (.sc (.int k a)) (.sc (.int k' b))=some (.sc (.int k (a.fdiv (2 ^ min b.toNat k.bits)))):=by simp [dy,fq,oy,binOp,Op.shift,eqGuard,dL,j6,bind,pure,Sem.bind,hb]
def Xb (k:IntKind) (a b:Int):Int:=k.wrap (BitVec.ofInt k.bits a &&& BitVec.ofInt k.bits b).toNat
theorem aca (P:g7) (T:g9) (x y:Operand) (k:IntKind) (a b:Int):dy P (oy .and T x y) (.sc (.int k a)) (.sc (.int k b))=some (.sc (.int k (Xb k a b))):=by simp [dy,fq,oy,binOp,eqGuard,dL,bind,pure,Sem.bind,Op.intBits,j6,Xb]
end
end Go.Eng
end
section
namespace Go.Eng
variable [bJ]
section
variable {P:g7} {tt:Table} {ρ:Option Nat} {n0:Nat} {Q:Exit->St->Prop}
theorem PD {o:Oper} {st:St} {Q:St->Prop} (h:pO P o st Q):∃ s,Q s/\∀ K:St->Prop,K s->pO P o st K:=by
 unfold pO at h;split at h;·rename_i f xs heq;split at h;(·rename_i g vs hg;(rcases h with ⟨vs',r,h1,h2,h3⟩|⟨r,m',h2,h3⟩);(·refine⟨_,h3,fun K hK=>?_⟩;unfold pO;rw [heq];dsimp only;rw [hg];exact .inl ⟨vs',r,h1,h2,hK⟩);refine⟨_,h3,fun K hK=>?_⟩;unfold pO;rw [heq];dsimp only;rw [hg];exact .inr ⟨r,m',h2,hK⟩);exact h.elim
 exact h.elim
theorem AU {all:Array Oper} {base:Nat} {Q:St->Prop}:∀ (l:List Oper) (ps:List Pl) (st:St),runM P tt all base l ps st Q->∃ s,Q s/\∀ K:St->Prop,K s->runM P tt all base l ps st K
 | [],ps,st,h=>⟨st,h,fun K hK=>hK⟩
 | o :: r,[],st,h=>h.elim
 | o :: r,p :: ps,st,h=>by
  rw [runM] at h
  by_cases hz:p.cls = .z
  ·unfold gQ at h
   split at h
   ·rename_i hw
    rw [hz] at h
    obtain⟨s0,h1,h2⟩:=PD h
    obtain⟨s,h3,h4⟩:=AU r ps _ h1
    exact⟨s,h3,fun K hK=>by rw [runM];unfold gQ;simp only [hw,hz];exact h2 _ (h4 K hK)⟩
   ·rename_i hw
    obtain⟨s,h3,h4⟩:=AU r ps _ h
    exact⟨s,h3,fun K hK=>by rw [runM];unfold gQ;simp only [hw];exact h4 K hK⟩
   exact h.elim
  obtain⟨v,m,h1,h2⟩:=(j3 hz).1 h
  obtain⟨s,h3,h4⟩:=AU r ps _ h2
  exact⟨s,h3,fun K hK=>by rw [runM];exact (j3 hz).2 ⟨v,m,h1,h4 K hK⟩⟩
end
end Go.Eng
end
section
namespace Go.Eng
variable [bJ]
section
variable {P:g7} {tt:Table} {ρ:Option Nat} {n0:Nat} {Q:Exit->St->Prop}
end
end Go.Eng
end
section
namespace Go.Eng
variable [bJ]
theorem tm (n:Nat) (cs:List V):a6 n (.box cs)=cs.all (aQ n):=rfl
theorem tn (n:Nat) (dU:List (Value×Nat×V)) (c:Nat):a6 n (.map dU c)=dU.all fun e=>aQ n e.2.2:=rfl
theorem pT (n v e:Nat) (rs:List V):a6 n (.rows v e rs)=true:=rfl
theorem tp (n v e:Nat) (rs:List V):a6 n (.sF v e rs)=true:=rfl
theorem pU (n:Nat):a6 n .dead=true:=rfl
theorem pV (n:Nat):a6 n .hole=true:=rfl
theorem ED (a b:g6):(a==b)=true↔a=b:=by
 show ByteArray.beq a b=true↔_;unfold ByteArray.beq;constructor;·intro h;(have:a.data=b.data:=by simpa using h);exact avL this
 rintro rfl;simp
structure Xc (P:g7) (T kt et:g9) (K:Value->Prop):Prop where
 map:jN P T=some (kt,et)
 desc:∃ d,P.underlying kt=some d/\∀ a b,K a->K b->∃ q:Bool,Instr.sameNow d a b=some q/\(q=true↔a=b)
 ok:∀ a,K a->u2 P kt a=true
 bits:∀ a,K a->Instr.sameBits 10000 a a=true
def LH (k:IntKind) (v:Value):Prop:=∃ n,v = .int k n
theorem SC {P:g7} {T kt et:g9} {k:IntKind} (h1:jN P T=some (kt,et)) (h2:P.underlying kt=some (.int k)):Xc P T kt et (LH k):=by
 refine⟨h1,⟨_,h2,?_⟩,?_,?_⟩;·rintro _ _ ⟨a,rfl⟩ ⟨b,rfl⟩;exact⟨a==b,by simp [Instr.sameNow],by simp⟩
 ·rintro _ ⟨a,rfl⟩;unfold u2;rw [h2]
 rintro _ ⟨a,rfl⟩;simp [Instr.sameBits]
section
variable {P:g7} {T kt et:g9} {K:Value->Prop}
theorem zU {d:TypeDesc} (hd:∀ a b,K a->K b->∃ q:Bool,Instr.sameNow d a b=some q/\(q=true↔a=b)) {k:Value} (hk:K k):∀ (dU:List (Value×Nat×V)) (n:Nat),(∀ e∈dU,K e.1) ->
  (iw d k dU n=some none/\∀ e∈dU,e.1≠k)\/∃ i e,dU[i]?=some e/\e.1=k/\iw d k dU n=some (some (n+i,e.2.2))
 | [],n,_=>.inl ⟨rfl,by simp⟩
 | e :: r,n,h=>by
  obtain⟨q,h1,hq⟩:=hd k e.1 hk (h e (by simp))
  by_cases he:k=e.1
  ·refine .inr ⟨0,e,rfl,he.symm,?_⟩
   rw [hq.2 he] at h1
   simp only [iw,h1,fI]
  obtain rfl:q=false:=by cases q <;> first|rfl|exact absurd (hq.1 rfl) he
  rcases zU hd hk r (n+1) (fun e' VX=>h e' (by simp [VX])) with ⟨h2,h3⟩|⟨i,e',h2,h3,h4⟩
  ·refine .inl ⟨?_,fun e' VX=>?_⟩
   ·simp only [iw,h1];exact h2
   rcases dp.1 VX with rfl|VX
   ·exact fun e=>he e.symm
   exact h3 e' VX
  refine .inr ⟨i+1,e',by simpa using h2,h3,?_⟩
  simp only [iw,h1]
  rw [h4,show n+1+i=n+(i+1) by omega]
theorem PE (hT:Xc P T kt et K) {k:Value} (hk:K k) (dU:List (Value×Nat×V)) (h:∀ e∈dU,K e.1) :
  (qv P kt k dU=some none/\∀ e∈dU,e.1≠k)\/∃ i e,dU[i]?=some e/\e.1=k/\qv P kt k dU=some (some (i,e.2.2)):=by
 obtain⟨d,hd,hs⟩:=hT.desc;unfold qv;rw [hd];dsimp only;rcases zU hs hk dU 0 h with ⟨h1,h2⟩|⟨i,e,h1,h2,h3⟩
 ·rw [h1];exact .inl ⟨rfl,h2⟩
 rw [h3];exact .inr ⟨i,e,h1,h2,by simp⟩
theorem LI (hT:Xc P T kt et K) {k:Value} (hk:K k) (ht:fq (.sc k)=some k) {mem:List bx} {b:Nat} {dU:List (Value×Nat×V)} {cl:Nat} (hm:mem[b]?=some (.map dU cl)) (h:∀ e∈dU,K e.1) {z:V} (hz:zeroV P et=some z) (ok:Bool) :
  (kR P mem T (.mp b) (.sc k) ok=some (YN ok false z)/\∀ e∈dU,e.1≠k)\/∃ e∈dU,e.1=k/\kR P mem T (.mp b) (.sc k) ok=some (YN ok true e.2.2):=by
 have hl:kR P mem T (.mp b) (.sc k) ok=qw P mem kt et (.mp b) k ok:=by unfold kR;rw [hT.map];dsimp only;rw [ht];dsimp only;rw [gH (hT.ok k hk)]
 rw [hl];unfold qw;dsimp only;rw [hm];dsimp only;rcases PE hT hk dU h with ⟨h1,h2⟩|⟨i,e,h1,h2,h3⟩
 ·rw [h1];dsimp only;rw [hz];exact .inl ⟨rfl,h2⟩
 rw [h3];exact .inr ⟨e,aw h1,h2,rfl⟩
end
end Go.Eng
end
section
namespace Go.Eng
variable [bJ]
end Go.Eng
end
