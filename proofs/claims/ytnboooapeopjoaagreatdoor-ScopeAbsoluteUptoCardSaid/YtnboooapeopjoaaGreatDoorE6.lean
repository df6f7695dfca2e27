import Derived.Test.YtnboooapeopjoaaGreatDoorE5
import Derived.Lib.Agree
open Bool renaming false_eq_true→cf
open ByteArray renaming ext→apM
open List renaming all_eq_true→a7,drop_succ_cons→yS,ext_getElem?→dy,getD_eq_getElem?_getD→eZ,getElem?_cons_succ→dx,getElem?_cons_zero→dk,getElem?_eq_getElem→ak,getElem?_eq_none→dQ,getElem?_eq_some_iff→az,getElem?_map→ae,getElem?_range→aqx,getElem?_set→bK,map_congr_left→gp,mem_cons→cb,mem_of_getElem?→aB,take_succ_cons→gq
open Nat renaming add_zero→kC,zero_add→bE
open Option renaming isNone_none→aaT,map_eq_some_iff→bA,map_some→cA
set_option linter.all false
section
namespace Go.Eng
variable [bg]
theorem Ea {P:Program} {tt:Table} {all:Array Oper} {K:St→Prop}:∀ (k:Nat) (l:List Oper) (st:St),gb P tt all (l.take k) st (fun s=>gb P tt all (l.drop k) s K)=gb P tt all l st K
 | 0,l,st=>rfl
 | k+1,[],st=>rfl
 | k+1,o :: r,st=>by
  have ih:=fun s=>Ea (P:=P) (tt:=tt) (all:=all) (K:=K) k r s
  simp only [gq,yS,gb,ih]

def BV (t:Nat) (b:V):List (Nat×V)→V
 | []=>b
 | p :: ws=>if p.1=t then p.2 else BV t b ws
def wr (n:Nat) (l:List V) (ws:List (Nat×V)):List V:=(List.range n).map fun i=>BV i (l.getD i .undef) ws
theorem uh (n:Nat) (l:List V) (ws:List (Nat×V)) (t:Nat):(wr n l ws)[t]?=if t<n then some (BV t (l.getD t .undef) ws) else none:=by
 unfold wr;rw [ae];by_cases h:t<n;·rw [if_pos h,aqx h]; rfl
 rw [if_neg h,dQ (by simp; omega)]; rfl
theorem Uf (n:Nat) (l:List V) (ws:List (Nat×V)) (t:Nat):(wr n l ws).getD t .undef=if t<n then BV t (l.getD t .undef) ws else .undef:=by rw [eZ,uh]; split <;> rfl
theorem xe (n:Nat) (l:List V) (ws:List (Nat×V)):(wr n l ws).length=n:=by simp [wr]
theorem YA (n:Nat) (l:List V) (ws:List (Nat×V)) (d:Nat) (v:V):(wr n l ws).set d v=wr n l ((d,v) :: ws):=by
 apply dy;intro i;rw [bK,uh,uh,xe];simp only [BV];by_cases h:d=i;·subst h; simp
 simp [h]
theorem I8 {n:Nat} {l:List V} (h:l.length=n):wr n l []=l:=by
 apply dy;intro i;rw [uh];simp only [BV];split;·rename_i hi;rw [eZ,ak (by omega)]; rfl
 rw [dQ (by omega)]
def tG (ws:List (Nat×V)):Nat→List Nat→List V→List V
 | _,_,[]=>[]
 | _,[],v :: l=>v :: l
 | i,c :: cs,v :: l=>(match c with | 0=>v | 1=>.undef | _=>BV i v ws) :: tG ws (i+1) cs l
def o0 (cs:List Nat) (ws:List (Nat×V)):Bool:=ws.all fun p=>match cs[p.1]? with | some 0=>false | none=>false | _=>true
theorem Gm {t:Nat} {b:V}:∀ {ws:List (Nat×V)},(∀ p∈ws,p.1≠t)→BV t b ws=b
 | [],_=>rfl
 | p :: ws,h=>by
  simp only [BV,if_neg (h p (by simp))]
  exact Gm fun q hq=>h q (by simp [hq])
theorem qx {cs:List Nat} {ws:List (Nat×V)} (h:o0 cs ws=true) {i:Nat} (hi:cs[i]?=some 0∨cs[i]?=none) (b:V):BV i b ws=b:=by refine Gm fun p hp e=>?_;have:=a7.1 h p hp;rw [e] at this;rcases hi with hi | hi <;> rw [hi] at this <;> cases this
theorem Eb (ws:List (Nat×V)):∀ (l:List V) (cs:List Nat) (k i:Nat),(tG ws k cs l)[i]?=l[i]?.map fun v=>match cs[i]? with | none=>v | some 0=>v | some 1=>.undef | _=>BV (k+i) v ws
 | [],cs,k,i=>by simp [tG]
 | v :: l,[],k,i=>by simp [tG]
 | v :: l,c :: cs,k,0=>by
  simp only [tG,dk,cA,kC]
  rcases c with _ | _ | c <;> rfl
 | v :: l,c :: cs,k,i+1=>by
  simp only [tG,dx]
  rw [Eb ws l cs (k+1) i,show k+1+i=k+(i+1) by omega]
theorem Pf {ws:List (Nat×V)} {l:List V} {cs:List Nat} (hk:o0 cs ws=true) {i:Nat} {v:V} (h:(tG ws 0 cs l)[i]?=some v):v = .undef∨(wr l.length l ws)[i]?=some v:=by
 rw [Eb,bA] at h;obtain⟨b,hb,hv⟩:=h;have hi:=(az.1 hb).1;have hd:l.getD i .undef=b:=by rw [eZ,hb]; rfl
 rw [uh,if_pos hi,hd];rw [bE] at hv;revert hv;cases hc:cs[i]? with | none=>intro hv; right; rw [qx hk (.inr hc)]; exact congrArg some hv | some c =>(rcases c with _ | _ | c);(·intro hv; right; rw [qx hk (.inl hc)]; exact congrArg some hv);(·intro hv; left; exact hv.symm);intro hv; right; exact congrArg some hv
theorem An (ws:List (Nat×V)):∀ (l:List V) (cs:List Nat) (k:Nat),(tG ws k cs l).length=l.length
 | [],cs,k=>by simp [tG]
 | v :: l,[],k=>by simp [tG]
 | v :: l,c :: cs,k=>by simp [tG,An ws l cs (k+1)]
theorem Ug {E:Env} {ws:List (Nat×V)} {l:List V} {cs:List Nat} {xs:List Value} (hk:o0 cs ws=true) (h:cY E (wr l.length l ws) xs):cY E (tG ws 0 cs l) xs:=by
 refine⟨by rw [An,← h.1,xe],fun i v x hv hx=>?_⟩;rcases Pf hk hv with rfl | h1
 ·exact .undef _ _
 exact h.2 i v x h1 hx
theorem YB {ws:List (Nat×V)} {l:List V} {cs:List Nat} (hk:o0 cs ws=true) (h1:cs.all (· != 1)=true):tG ws 0 cs l=wr l.length l ws:=by
 apply dy;intro i;rw [Eb,uh];by_cases hi:i<l.length;·rw [if_pos hi,ak hi,cA];(have hd:l.getD i .undef=l[i]:=by rw [eZ,ak hi]; rfl);rw [hd,bE];congr 1;cases hc:cs[i]? with | none=>exact (qx hk (.inr hc) _).symm | some c =>(rcases c with _ | _ | c);(·exact (qx hk (.inl hc) _).symm);(·have:=a7.1 h1 1 (aB hc);simp at this);rfl
 rw [if_neg hi,dQ (show l.length≤i by omega)]; rfl

def gT (j:Nat):List (Nat×Nat)→Option Nat
 | []=>none
 | p :: r=>if p.1=j then some p.2 else gT j r
def YC (all:Array Oper) (gl:List (Nat×Nat)):Bool:=gl.all fun p=>(match (all[p.1]?).bind (·.dst) with | some d=>decide (d=p.2) | none=>false)
def Pg (want:Bool):Option V→Option Bool
 | some (.sc (.bool b))=>some (b==want)
 | some (.sc _)=>some false
 | some _=>none
 | none=>some false
def sL (gl:List (Nat×Nat)) (all:Array Oper) (fr:List V) (o:Oper):Option Bool :=
 match o.guard with
 | none=>some true
 | some (j,want)=>match gT j gl with
  | none=>gr all fr o
  | some d=>Pg want fr[d]?
theorem WM {all:Array Oper}:∀ {gl:List (Nat×Nat)},YC all gl=true→∀ {j d:Nat},gT j gl=some d→(all[j]?).bind (·.dst)=some d
 | [],_,j,d,h=>by cases h
 | p :: r,hg,j,d,h=>by
  have h1:=a7.1 hg p (by simp)
  simp only [gT] at h
  split at h
  ·rename_i e
   cases h
   rw [e] at h1
   cases hd:(all[j]?).bind (·.dst) with
   | none=>rw [hd] at h1; cases h1
   | some d=>rw [hd] at h1; exact congrArg some (of_decide_eq_true h1)
  exact WM (a7.2 fun q hq=>a7.1 hg q (by simp [hq])) h
theorem I9 {all:Array Oper} {gl:List (Nat×Nat)} (hg:YC all gl=true) (fr:List V) (o:Oper):sL gl all fr o=gr all fr o:=by unfold sL;cases ho:o.guard with | none=>unfold gr; rw [ho] | some g =>obtain⟨j,want⟩:=g;simp only;cases ht:gT j gl with | none=>rfl | some d =>have:=WM hg ht;unfold gr;rw [ho];simp only [this];unfold Pg;cases fr[d]? with | none=>rfl | some v =>cases v with | sc x=>cases x <;> rfl | _=>rfl
def gu (P:Program) (tt:Table) (gl:List (Nat×Nat)) (all:Array Oper):List Oper→St→(St→Prop)→Prop
 | [],st,Q=>Q st
 | o :: r,st,Q=>match sL gl all st.fr o with
  | some true=>de P tt st.mem.length o st fun st'=>gu P tt gl all r st' Q
  | some false=>gu P tt gl all r (st.put o.dst (.sc undef)) Q
  | none=>False
@[congr] theorem Ta {P:Program} {tt:Table} {gl:List (Nat×Nat)} {all:Array Oper} {l l':List Oper} {st st':St} {Q:St→Prop} (hl:l=l') (h:st=st'):gu P tt gl all l st Q=gu P tt gl all l' st' Q:=by rw [hl,h]
theorem ui {P:Program} {tt:Table} {gl:List (Nat×Nat)} {all:Array Oper} (hg:YC all gl=true) {Q:St→Prop}:∀ (l:List Oper) (st:St),gu P tt gl all l st Q=gb P tt all l st Q
 | [],st=>rfl
 | o :: r,st=>by
  have ih:=fun s=>ui (P:=P) (tt:=tt) (Q:=Q) hg r s
  simp only [gu,gb,I9 hg,ih]
  rfl
theorem tH {P:Program} {tt:Table} {gl:List (Nat×Nat)} {all:Array Oper} {K:St→Prop}:∀ (k:Nat) (l:List Oper) (st:St),gu P tt gl all (l.take k) st (fun s=>gu P tt gl all (l.drop k) s K)=gu P tt gl all l st K
 | 0,l,st=>rfl
 | k+1,[],st=>rfl
 | k+1,o :: r,st=>by
  have ih:=fun s=>tH (P:=P) (tt:=tt) (gl:=gl) (all:=all) (K:=K) k r s
  simp only [gq,yS,gu,ih]
theorem np {P:Program} {tt:Table} {gl:List (Nat×Nat)} {all:Array Oper} (k:Nat) {l:List Oper} {st:St} {K:St→Prop}
  (h:∀ K1:St→Prop,(∀ s,gu P tt gl all (l.drop k) s K→K1 s)→gu P tt gl all (l.take k) st K1):gu P tt gl all l st K:=by rw [← tH k];exact h _ fun _ h=>h
section
variable {P:Program} {tt:Table} {ρ:Option Nat} {n0:Nat} {Q:Exit→St→Prop} {l:List V} {mem:List bm}
theorem K2 {c:Code} {cs:List Nat} {ws:List (Nat×V)} (hk:o0 cs ws=true) (h:eg P ρ n0 c { fr:=tG ws 0 cs l,mem:=mem } Q):eg P ρ n0 c { fr:=wr l.length l ws,mem:=mem } Q :=
 rH (st' := { fr:=tG ws 0 cs l,mem:=mem }) (fun E w a hs=>⟨hs.F,hs.lt,hs.mem,hs.top,hs.dV,hs.apart,Ug hk hs.fr⟩) h
theorem mN (ht:TT P tt) (n:Nat) (cs:List Nat) (gl:List (Nat×Nat)) (hn:l.length=n) {id:Nat} {ops:Array Oper} {y:Code} (hg:YC ops gl=true)
  (h:∀ K:St→Prop,(∀ ws bV,o0 cs ws=true→eg P ρ n0 y { fr:=tG ws 0 cs l,mem:=bV } Q→K { fr:=wr n l ws,mem:=bV })→gu P tt gl ops ops.toList { fr:=wr n l [],mem:=mem } K) :
  eg P ρ n0 (.seq (.region id ops false) y) { fr:=l,mem:=mem } Q:=by subst hn;refine ah ht fun K hK=>?_;have:=h K fun ws bV hk ht=>hK _ (K2 hk ht);rw [ui hg,I8 rfl] at this;exact this
theorem vk (ht:TT P tt) (n:Nat) (cs:List Nat) (gl:List (Nat×Nat)) (hn:l.length=n) (h1:cs.all (· != 1)=true) {id:Nat} {ops:Array Oper} (hg:YC ops gl=true)
  (h:∀ K:St→Prop,(∀ ws bV,o0 cs ws=true→Q .normal { fr:=tG ws 0 cs l,mem:=bV }→K { fr:=wr n l ws,mem:=bV })→gu P tt gl ops ops.toList { fr:=wr n l [],mem:=mem } K) :
  eg P ρ n0 (.region id ops false) { fr:=l,mem:=mem } Q:=by subst hn;refine a8 ht fun K hK=>?_;have:=h K fun ws bV hk ht=>hK _ (by rw [← YB hk h1]; exact ht);rw [ui hg,I8 rfl] at this;exact this
theorem nF (ht:TT P tt) (hm:P.follows .mixedOrders=true) (n:Nat) (cs:List Nat) (hn:l.length=n) (plan:List Pl) (m:Nat) {id:Nat} {ops:Array Oper} {y:Code} (fU:rO ops plan=true)
  (h:∀ K:St→Prop,(∀ ws bV,o0 cs ws=true→eg P ρ n0 y { fr:=tG ws 0 cs l,mem:=bV } Q→K { fr:=wr n l ws,mem:=bV })→runM P tt ops mem.length ops.toList plan { fr:=wr n l [],mem:=mem++List.replicate m .hole } K) :
  eg P ρ n0 (.seq (.region id ops true) y) { fr:=l,mem:=mem } Q:=by subst hn;refine m7 ht hm plan m fU fun K hK=>?_;have:=h K fun ws bV hk ht=>hK _ (K2 hk ht);rw [I8 rfl] at this;exact this
end
attribute [irreducible] gu
end Go.Eng
end

section
namespace Go.Eng
variable [bg]
def Ex (P:Program) (ρ:Option Nat) (n0:Nat) (c:Code) (st:St) (Q:Exit→St→Prop):Prop :=
  ∃ (e:Exit) (s:St),Q e s∧∀ Q':Exit→St→Prop,Q' e s→eg P ρ n0 c st Q'
section
variable {P:Program} {tt:Table} {ρ:Option Nat} {n0:Nat} {st:St} {Q:Exit→St→Prop}
theorem Ex.mono {c:Code} {Q2:Exit→St→Prop} (h:Ex P ρ n0 c st Q) (hq:∀ e s,Q e s→Q2 e s):Ex P ρ n0 c st Q2:=by obtain⟨e,s,h1,h⟩:=h;exact⟨e,s,hq _ _ h1,h⟩
theorem gU (h:Q .normal st):Ex P ρ n0 .skip st Q:=⟨_,_,h,fun _ h=>cn h⟩
theorem lr (h:Q .ret st):Ex P ρ n0 .ret st Q:=⟨_,_,h,fun _ h=>bW h⟩
theorem j8 {id:Nat} (h:Q (.exit id) st):Ex P ρ n0 (.exit id) st Q:=⟨_,_,h,fun _ h=>eC h⟩
theorem fc {x y:Code} (h:Ex P ρ n0 x st (il (fun st'=>Ex P ρ n0 y st' Q) Q)):Ex P ρ n0 (.seq x y) st Q:=by obtain⟨e,s,hq,h⟩:=h;cases e with | normal =>obtain⟨e2,s2,XJ,h2⟩:=hq;exact⟨e2,s2,XJ,fun Q' h'=>bC (h _ (h2 Q' h'))⟩ | _=>exact⟨_,s,hq,fun Q' h'=>bC (h (il (fun st'=>eg P ρ n0 y st' Q') Q') h')⟩
theorem sM {c:Operand} {x y:Code} {b:Bool} (hc:st.eval c = .sc (.bool b)) (h:Ex P ρ n0 (if b=true then x else y) st Q):Ex P ρ n0 (.cond c x y) st Q:=by obtain⟨e,s,hq,h⟩:=h;exact⟨e,s,hq,fun Q' h'=>aV hc (h Q' h')⟩
theorem om {c:Operand} {x y:Code} {b:Bool} (hc:st.eval c = .sc (.bool b)) (h1:b=true→Ex P ρ n0 x st Q) (h2:b=false→Ex P ρ n0 y st Q):Ex P ρ n0 (.cond c x y) st Q:=by refine sM hc ?_;cases b with | true=>exact h1 rfl | false=>exact h2 rfl
theorem eN {id:Nat} {c:Code} (h:Ex P ρ n0 c st (kg id Q)):Ex P ρ n0 (.block id c) st Q:=by obtain⟨e,s,hq,h⟩:=h;cases e with | exit j =>(by_cases hj:j=id;(·simp only [kg,if_pos hj] at hq;exact⟨_,s,hq,fun Q' h'=>bX (h (kg id Q') (by simpa only [kg,if_pos hj] using h'))⟩);·simp only [kg,if_neg hj] at hq;exact⟨_,s,hq,fun Q' h'=>bX (h (kg id Q') (by simpa only [kg,if_neg hj] using h'))⟩) | _=>exact⟨_,s,hq,fun Q' h'=>bX (h (kg id Q') h')⟩
theorem Ja {c:Code} {m:Nat} {Q':Exit→St→Prop} (n:Nat) (mk:List Bool) (hn:n0≤n) (hf:(aP mk st.fr).all (aA n)=true) (hm:(st.mem.take n).all (aJ n)=true)
    (h:lY P ρ n0 c m { fr:=aP mk st.fr,mem:=st.mem.take n } Q'):lY P ρ n0 c m st Q':=by cases m with | zero=>exact h.elim | succ m=>exact oh n mk hn hf hm h
theorem Gn {c:Code} (I:Nat→St→Prop) (N:Nat) (h0:CE n0 st (I N))
    (step:∀ n st,I n st→Ex P ρ n0 c st (il (fun st'=>∃ k,k<n∧CE n0 st' (I k)) Q)):Ex P ρ n0 (.loop c) st Q:=by
  have key:∀ (n:Nat) (st:St),I n st→∃ (e:Exit) (s:St),Q e s∧∀ Q':Exit→St→Prop,Q' e s→∃ m,lY P ρ n0 c m st Q':=by intro n;induction n using Nat.strongRecOn with | _ n ih =>intro st hI;obtain⟨e,s,hq,h⟩:=step n st hI;cases e with | normal =>obtain⟨k,hk,n1,mk,h1,h2,h3,h4⟩:=hq;obtain⟨e2,s2,XJ,h5⟩:=ih k hk _ h4;refine⟨e2,s2,XJ,fun Q' h'=>?_⟩;obtain⟨m,h6⟩:=h5 Q' h';exact⟨m+1,h _ (Ja n1 mk h1 h2 h3 h6)⟩ | _=>exact⟨_,s,hq,fun Q' h'=>⟨1,h (il (fun st'=>lY P ρ n0 c 0 st' Q') Q') h'⟩⟩
  obtain⟨n1,mk,h1,h2,h3,h4⟩:=h0;obtain⟨e,s,hq,h⟩:=key N _ h4;exact⟨e,s,hq,fun Q' h'=>oh n1 mk h1 h2 h3 (FP (h Q' h'))⟩
theorem Uh {c:Code} (n:Nat) (m:List Bool) (hn:n0≤n) (hf:(aP m st.fr).all (aA n)=true) (hm:(st.mem.take n).all (aJ n)=true)
    (h:Ex P ρ n0 c { fr:=aP m st.fr,mem:=st.mem.take n } Q):Ex P ρ n0 c st Q:=by obtain⟨e,s,hq,h⟩:=h;exact⟨e,s,hq,fun Q' h'=>oh n m hn hf hm (h Q' h')⟩

def vl (P:Program) (f:FuncId) (vs vs':List V) (keys:List (Nat×Nat)) (st:St) (dst:Option Tmp) (Q:St→Prop):Prop :=
  ∃ v,(bR P f vs' v∧Q ({ st with mem:=bT st.mem keys v }.put dst v))∨(rC P f vs v∧Q (st.put dst v))∨∃ m',bz P f vs st.mem v m'∧Q ({ st with mem:=m' }.put dst v)
def CO (P:Program) (f:FuncId) (vs:List V) (st:St) (dst:Option Tmp) (Q:St→Prop):Prop :=
  ∃ v m',bz P f vs st.mem v m'∧Q ({ st with mem:=m' }.put dst v)
def K3 (P:Program) (f:FuncId) (vs:List V) (st:St) (dst:Option Tmp) (Q:St→Prop):Prop :=
  match gx st.mem vs with
  | some vs'=>vl P f vs vs' (vs.flatMap fb) st dst Q
  | none=>CO P f vs st dst Q
@[congr] theorem WN {f f':FuncId} {us Ov vs vs':List V} {keys WO:List (Nat×Nat)} {st st':St} {dst:Option Tmp} {Q:St→Prop} (hf:f=f') (hu:us=Ov) (hv:vs=vs') (hk:keys=WO) (h:st=st'):vl P f us vs keys st dst Q=vl P f' Ov vs' WO st' dst Q:=by rw [hf,hu,hv,hk,h]
def lI (P:Program) (tt:Table) (key:Nat) (o:Oper) (st:St) (Q:St→Prop):Prop :=
  match o.op with
  | .alloc T=>match tt T with
    | some i=>Q ({ st with mem:=dB st.mem key (.box (i.zero.map V.sc)) }.put o.dst (.ptr key 0))
    | none=>False
  | .box _ x=>match lW (st.eval x) with
    | some cs=>Q ({ st with mem:=dB st.mem key (.box cs) }.put o.dst (.ptr key 0))
    | none=>False
  | .build T parts=>match nC P tt T parts.toList st.eval with
    | some v=>Q (st.put o.dst v)
    | none=>False
  | .buildSlice T len parts=>match wV tt T len parts.toList st.eval with
    | some (size,rs)=>Q ({ st with mem:=dB st.mem key (.rows 0 size rs) }.put o.dst (.ms key 0 0 len))
    | none=>False
  | .store T p x=>match nB tt st.mem T (st.eval p) (st.eval x) with
    | some bV=>Q ({ st with mem:=bV }.put o.dst (.sc undef))
    | none=>False
  | .call c=>match c.callee with
    | .value f=>match dn (st.eval f) (c.args.toList.map st.eval) with
      | some (g,vs)=>K3 P g vs st o.dst Q
      | none=>False
    | .builtin .append=>match c.args.toList.map st.eval with
      | [s,x]=>match ji tt st.mem c.argTypes.toList s x with
        | some (size,tW,rows)=>Q ({ st with mem:=(gE st.mem key size rows tW).1 }.put o.dst (gE st.mem key size rows tW).2)
        | none=>False
      | _=>False
    | .builtin .len=>match me P tt st o with
      | some v=>Q (st.put o.dst v)
      | none=>False
    | .builtin .max=>match me P tt st o with
      | some v=>Q (st.put o.dst v)
      | none=>False
    | .builtin .min=>match me P tt st o with
      | some v=>Q (st.put o.dst v)
      | none=>False
    | _=>False
  | .makeMap _ none=>Q ({ st with mem:=dB st.mem key (.map [] 0) }.put o.dst (.mp key))
  | .makeSlice T l c=>match xT tt T (st.eval l) (st.eval c) with
    | some (size,rs,_)=>Q ({ st with mem:=dB st.mem key (.rows 0 size rs) }.put o.dst (.ms key 0 0 rs.length))
    | none=>False
  | .mapUpdate T m k x=>match dR P st.mem T (st.eval m) (st.eval k) (st.eval x) with
    | some bV=>Q ({ st with mem:=bV }.put o.dst (.sc undef))
    | none=>False
  | .insert T m k x=>match dR P st.mem T (st.eval m) (st.eval k) (st.eval x) with
    | some bV=>Q ({ st with mem:=bV }.put o.dst (.sc undef))
    | none=>False
  | .binOp op T x y _=>match pd tt op T (st.eval x) (st.eval y) with
    | some _=>False
    | none=>match me P tt st o with
      | some v=>Q (st.put o.dst v)
      | none=>False
  | .move _=>match me P tt st o with
    | some v=>Q (st.put o.dst v)
    | none=>False
  | .assign _=>match me P tt st o with
    | some v=>Q (st.put o.dst v)
    | none=>False
  | .pick _ _ _=>match me P tt st o with
    | some v=>Q (st.put o.dst v)
    | none=>False
  | .load _ _=>match me P tt st o with
    | some v=>Q (st.put o.dst v)
    | none=>False
  | .nilCheck _=>match me P tt st o with
    | some v=>Q (st.put o.dst v)
    | none=>False
  | .unOp _ _ _=>match me P tt st o with
    | some v=>Q (st.put o.dst v)
    | none=>False
  | .convert _ _ _=>match me P tt st o with
    | some v=>Q (st.put o.dst v)
    | none=>False
  | .makeFunc _ _ _=>match me P tt st o with
    | some v=>Q (st.put o.dst v)
    | none=>False
  | .slice _ _ _ _ _=>match me P tt st o with
    | some v=>Q (st.put o.dst v)
    | none=>False
  | .fieldAddr _ _ _=>match me P tt st o with
    | some v=>Q (st.put o.dst v)
    | none=>False
  | .indexAddr _ _ _=>match me P tt st o with
    | some v=>Q (st.put o.dst v)
    | none=>False
  | .field _ _ _=>match me P tt st o with
    | some v=>Q (st.put o.dst v)
    | none=>False
  | .index _ _ _=>match me P tt st o with
    | some v=>Q (st.put o.dst v)
    | none=>False
  | .extract _ _=>match me P tt st o with
    | some v=>Q (st.put o.dst v)
    | none=>False
  | .lookup _ _ _ _=>match me P tt st o with
    | some v=>Q (st.put o.dst v)
    | none=>False
  | _=>False
@[congr] theorem WQ {key acD:Nat} {o:Oper} {st st':St} {Q:St→Prop} (hk:key=acD) (h:st=st'):lI P tt key o st Q=lI P tt acD o st' Q:=by rw [hk,h]
theorem Ph {key:Nat} {o:Oper} {Q:St→Prop} (h:lI P tt key o st Q):∃ s,Q s∧∀ K:St→Prop,K s→de P tt key o st K:=by
  obtain⟨dst,op,type,pos,after,guard⟩:=o;cases op
  case call c =>
    obtain⟨callee,args,ats⟩:=c
    cases callee
    case value f =>
      simp only [lI] at h
      split at h
      · rename_i g vs hg
        unfold K3 at h
        split at h
        · rename_i vs' hp
          obtain⟨v,⟨h1,h2⟩ | ⟨h1,h2⟩ | ⟨m',h1,h2⟩⟩:=h
          · refine⟨_,h2,fun K hK=>?_⟩
            simp only [de]
            split
            · rename_i k hy; rw [hy] at hg; simp [dn] at hg
            · rw [hg]; exact .inl ⟨vs',v,hp,h1,hK⟩
          · refine⟨_,h2,fun K hK=>?_⟩
            simp only [de]
            split
            · rename_i k hy; rw [hy] at hg; simp [dn] at hg
            · rw [hg]; exact .inr (.inr (.inr ⟨v,h1,hK⟩))
          · refine⟨_,h2,fun K hK=>?_⟩
            simp only [de]
            split
            · rename_i k hy; rw [hy] at hg; simp [dn] at hg
            · rw [hg]; exact .inr (.inl ⟨v,m',h1,hK⟩)
        · obtain⟨v,m',h1,h2⟩:=h
          refine⟨_,h2,fun K hK=>?_⟩
          simp only [de]
          split
          · rename_i k hy; rw [hy] at hg; simp [dn] at hg
          · rw [hg]; exact .inr (.inl ⟨v,m',h1,hK⟩)
      · exact h.elim
    case builtin b =>
      cases b
      case append =>
        simp only [lI] at h
        split at h
        · rename_i s x Tz
          split at h
          · rename_i size tW rows ha
            refine⟨_,h,fun K hK=>?_⟩
            simp only [de,Tz,ha]
            exact hK
          · exact h.elim
        · exact h.elim
      all_goals first
        | exact h.elim
        | (simp only [lI] at h
           split at h
           · rename_i v hv
             refine⟨_,h,fun K hK=>?_⟩
             simp only [de,hv]
             exact hK
           · exact h.elim)
    all_goals exact h.elim
  case binOp =>
    simp only [lI] at h
    split at h
    · exact h.elim
    · rename_i hn
      split at h
      · rename_i v hv
        refine⟨_,h,fun K hK=>?_⟩
        simp only [de,hn,hv]
        exact hK
      · exact h.elim
  case buildSlice =>
    simp only [lI] at h
    split at h
    · rename_i size rs hl
      refine⟨_,h,fun K hK=>?_⟩
      simp only [de,hl]
      exact hK
    · exact h.elim
  case store =>
    simp only [lI] at h
    split at h
    · rename_i m hl
      refine⟨_,h,fun K hK=>?_⟩
      simp only [de,hl]
      exact hK
    · exact h.elim
  case makeSlice T l c =>
    simp only [lI] at h
    split at h
    · rename_i size rs c' hl
      refine⟨_,h,fun K hK=>?_⟩
      simp only [de,hl]
      exact hK
    · exact h.elim
  case makeMap T l =>
    cases l with
    | none=>exact⟨_,h,fun K hK=>hK⟩
    | some l=>exact h.elim
  all_goals first
    | exact h.elim
    | (simp only [lI] at h
       split at h
       · rename_i v hv
         refine⟨_,h,fun K hK=>?_⟩
         simp only [de,hv]
         exact hK
       · exact h.elim)
def qy (P:Program) (tt:Table) (gl:List (Nat×Nat)) (all:Array Oper):List Oper→St→(St→Prop)→Prop
  | [],st,Q=>Q st
  | o :: r,st,Q=>match sL gl all st.fr o with
    | some true=>lI P tt st.mem.length o st fun st'=>qy P tt gl all r st' Q
    | some false=>qy P tt gl all r (st.put o.dst (.sc undef)) Q
    | none=>False
@[congr] theorem YD {gl:List (Nat×Nat)} {all:Array Oper} {l l':List Oper} {st st':St} {Q:St→Prop} (hl:l=l') (h:st=st'):qy P tt gl all l st Q=qy P tt gl all l' st' Q:=by rw [hl,h]
theorem y6 {gl:List (Nat×Nat)} {all:Array Oper} {Q:St→Prop}:∀ (l:List Oper) (st:St),qy P tt gl all l st Q→∃ s,Q s∧∀ K:St→Prop,K s→gu P tt gl all l st K
  | [],st,h=>⟨st,h,fun K hK=>by rw [gu]; exact hK⟩
  | o :: r,st,h=>by
    rw [qy] at h
    split at h
    · rename_i hw
      obtain⟨s,h1,h2⟩:=Ph h
      obtain⟨s2,h3,h4⟩:=y6 r s h1
      exact⟨s2,h3,fun K hK=>by rw [gu,hw]; exact h2 _ (h4 K hK)⟩
    · rename_i hw
      obtain⟨s2,h3,h4⟩:=y6 r _ h
      exact⟨s2,h3,fun K hK=>by rw [gu,hw]; exact h4 K hK⟩
    · exact h.elim
theorem Ao {gl:List (Nat×Nat)} {all:Array Oper} {K:St→Prop}:∀ (k:Nat) (l:List Oper) (st:St),qy P tt gl all (l.take k) st (fun s=>qy P tt gl all (l.drop k) s K)=qy P tt gl all l st K
  | 0,l,st=>rfl
  | k+1,[],st=>rfl
  | k+1,o :: r,st=>by
    have ih:=fun s=>Ao (gl:=gl) (all:=all) (K:=K) k r s
    simp only [gq,yS,qy,ih]
theorem fI {gl:List (Nat×Nat)} {all:Array Oper} (k:Nat) {l:List Oper} {st:St} {K:St→Prop}
    (h:∀ K1:St→Prop,(∀ s,qy P tt gl all (l.drop k) s K→K1 s)→qy P tt gl all (l.take k) st K1):qy P tt gl all l st K:=by rw [← Ao k];exact h _ fun _ h=>h
theorem jm {R:V→Prop} {f:FuncId} {vs vs':List V} {keys:List (Nat×Nat)} {dst:Option Tmp} {Q:St→Prop} (hr:∃ v,R v∧bR P f vs' v) (h:∀ v,R v→Q ({ st with mem:=bT st.mem keys v }.put dst v)):vl P f vs vs' keys st dst Q:=by obtain⟨v,h1,h2⟩:=hr;exact⟨v,.inl ⟨h2,h v h1⟩⟩
theorem Pj {f:FuncId} {fn:Func} {ext:Array Value→Sem Value} (hf:P.funcs[f]?=some fn) (hn:(fn.name == "runtime.NumGoroutine")=false) (hb:fn.body=none) (O9:Extern.findNext fn=none) (Fm:Extern.find fn=some ext)
    {vs:List V} {l:List Value} (hl:o9 vs=some l) {v:Value} (gO:∀ w,(ext l.toArray).run P w = .ok v w):rC P f vs (kX v):=fun E w xs hF hx=>by
  have qa:=qe hx hl
  refine⟨v,?_,kY E v⟩
  have hr:=gO w
  rw [← qa] at hr
  simp only [callFunc,program,Sem.run_bind]
  show (match P.funcs[f]? with | none=>_ | some fn=>_:Sem Next).run P w=_
  rw [hf]
  dsimp only
  rw [hn,hb]
  simp only [cf,if_false,aaT,if_true,O9,Fm,Sem.run_bind,mark,Sem.run,Result.andThen_ok]
  have Iz:(ext xs).run P w = .ok v w:=by simpa using hr
  rw [Iz]; rfl
theorem Gp {t:Nat} {b v:V} {ws:List (Nat×V)} (h:BV t b ws=v) (i:Nat) (c:V) (hc:i=t→c=b):BV i c ((t,v) :: ws)=BV i c ws:=by
  simp only [BV];by_cases e:t=i;·subst e; rw [if_pos rfl,hc rfl,h]
  ·rw [if_neg e]
theorem sN {gl:List (Nat×Nat)} {all:Array Oper} (t:Nat) {b0:Bool} {n:Nat} {base:List V} {ws:List (Nat×V)} {mem:List bm} {l:List Oper} {Kp:St→Prop}
    (hb:BV t (base.getD t .undef) ws = .sc (.bool b0)) (h:∀ b,b0=b→qy P tt gl all l { fr:=wr n base ((t,.sc (.bool b)) :: ws),mem:=mem } Kp):qy P tt gl all l { fr:=wr n base ws,mem:=mem } Kp:=by
  have:=h b0 rfl;have e:wr n base ((t,.sc (.bool b0)) :: ws)=wr n base ws:=by unfold wr;exact gp fun i _=>Gp hb i _ (fun e=>by rw [e])
  rw [e] at this;exact this
theorem bQ (ht:TT P tt) (n:Nat) (cs:List Nat) (gl:List (Nat×Nat)) {l:List V} {mem:List bm} (hn:l.length=n) {id:Nat} {ops:Array Oper} {y:Code} (hg:YC ops gl=true)
    (h:∀ K:St→Prop,(∀ ws bV,o0 cs ws=true→Ex P ρ n0 y { fr:=tG ws 0 cs l,mem:=bV } Q→K { fr:=wr n l ws,mem:=bV })→qy P tt gl ops ops.toList { fr:=wr n l [],mem:=mem } K) :
    Ex P ρ n0 (.seq (.region id ops false) y) { fr:=l,mem:=mem } Q:=by obtain⟨s,⟨ws,bV,rfl,hk,e,s2,hq,h2⟩,hr⟩:=y6 _ _ (h (fun s=>∃ ws bV,s = { fr:=wr n l ws,mem:=bV }∧o0 cs ws=true∧Ex P ρ n0 y { fr:=tG ws 0 cs l,mem:=bV } Q) fun ws bV hk he=>⟨ws,bV,rfl,hk,he⟩);exact⟨e,s2,hq,fun Q' h'=>mN ht n cs gl hn hg fun K hK=>hr K (hK ws bV hk (h2 Q' h'))⟩
theorem cL (ht:TT P tt) (n:Nat) (cs:List Nat) (gl:List (Nat×Nat)) {l:List V} {mem:List bm} (hn:l.length=n) (h1:cs.all (· != 1)=true) {id:Nat} {ops:Array Oper} (hg:YC ops gl=true)
    (h:∀ K:St→Prop,(∀ ws bV,o0 cs ws=true→Q .normal { fr:=tG ws 0 cs l,mem:=bV }→K { fr:=wr n l ws,mem:=bV })→qy P tt gl ops ops.toList { fr:=wr n l [],mem:=mem } K) :
    Ex P ρ n0 (.region id ops false) { fr:=l,mem:=mem } Q:=by obtain⟨s,⟨ws,bV,rfl,hk,hq⟩,hr⟩:=y6 _ _ (h (fun s=>∃ ws bV,s = { fr:=wr n l ws,mem:=bV }∧o0 cs ws=true∧Q .normal { fr:=tG ws 0 cs l,mem:=bV }) fun ws bV hk he=>⟨ws,bV,rfl,hk,he⟩);exact⟨.normal,_,hq,fun Q' h'=>vk ht n cs gl hn h1 hg fun K hK=>hr K (hK ws bV hk h')⟩
attribute [irreducible] qy
theorem CP {P:Program} {tt:Table} (ht:TT P tt) {R:V→Prop} {f:FuncId} {fn:Func} {body:Code} {args:List V} (hf:P.funcs[f]?=some fn) (hb:fn.body=some body)
    (gI:∀ (xs:Array Value) (w:World),(callFunc f xs).run P w = .ok (.enter f xs) w)
    (h:Ex P none 0 body (cH fn args []) fun ex st'=>(ex = .ret∨ex = .normal)∧∃ r,R r∧nU tt fn.results st'=some r):∃ r,R r∧bR P f args r:=by obtain⟨e,s,⟨h1,r,hr,h2⟩,h3⟩:=h;exact⟨r,hr,jA ht hf hb gI (h3 _ ⟨h1,h2⟩)⟩
def eO:List V→List Nat→List V→List V
  | l,t :: ts,v :: vs=>eO (l.set t v) ts vs
  | l,_,_=>l
def intOf:V→Int
  | .sc (.int _ n)=>n
  | _=>0
theorem kl {P:Program} {ρ:Option Nat} {n0:Nat} {Q:Exit→St→Prop} {c:Code} {l:List V} {mem:List bm} (ts:List Nat) (Tb:List V) (n:Nat) (m:List Bool) (μ:List V→Nat) (Inv:List V→Prop)
    (hn:n0≤n) (hf:(aP m l).all (aA n)=true) (hm:(mem.take n).all (aJ n)=true)
    (h0:eO (aP m l) ts Tb=aP m l) (hi:Inv Tb)
    (step:∀ vs,Inv vs→Ex P ρ n0 c { fr:=eO (aP m l) ts vs,mem:=mem.take n }
      (il (fun st'=>∃ vs',Inv vs'∧μ vs'<μ vs∧CE n0 st' (fun s=>s = { fr:=eO (aP m l) ts vs',mem:=mem.take n })) Q)):Ex P ρ n0 (.loop c) { fr:=l,mem:=mem } Q:=by refine Gn (fun k s=>∃ vs:List V,Inv vs∧k=μ vs∧s = { fr:=eO (aP m l) ts vs,mem:=mem.take n }) (μ Tb) ⟨n,m,hn,hf,hm,Tb,hi,rfl,by rw [h0]⟩ ?_;rintro k s ⟨vs,hv,rfl,rfl⟩;refine (step vs hv).mono fun e s' h=>?_;cases e with | normal =>obtain⟨vs',h4,h5,n1,m1,h6,h7,h8,h9⟩:=h;exact⟨μ vs',h5,n1,m1,h6,h7,h8,vs',h4,rfl,h9⟩ | _=>exact h
end
end Go.Eng
end

section
namespace Go.Eng
variable [bg]
section
variable {P:Program} {tt:Table} {ρ:Option Nat} {n0:Nat} {Q:Exit→St→Prop}
theorem Mx {o:Oper} {st:St} {Q:St→Prop} (h:pL P o st Q):∃ s,Q s∧∀ K:St→Prop,K s→pL P o st K:=by
 unfold pL at h;split at h;·rename_i f xs heq;split at h;(·rename_i g vs hg;obtain⟨vs',r,h1,h2,h3⟩:=h;refine⟨_,h3,fun K hK=>?_⟩;unfold pL;rw [heq];dsimp only;rw [hg];exact⟨vs',r,h1,h2,hK⟩);exact h.elim
 exact h.elim
theorem vm {all:Array Oper} {base:Nat} {Q:St→Prop}:∀ (l:List Oper) (ps:List Pl) (st:St),runM P tt all base l ps st Q→∃ s,Q s∧∀ K:St→Prop,K s→runM P tt all base l ps st K
 | [],ps,st,h=>⟨st,h,fun K hK=>hK⟩
 | o :: r,[],st,h=>h.elim
 | o :: r,p :: ps,st,h=>by
  rw [runM] at h
  by_cases hz:p.cls = .z
  ·unfold fH at h
   split at h
   ·rename_i hw
    rw [hz] at h
    obtain⟨s0,h1,h2⟩:=Mx h
    obtain⟨s,h3,h4⟩:=vm r ps _ h1
    exact⟨s,h3,fun K hK=>by rw [runM]; unfold fH; simp only [hw,hz]; exact h2 _ (h4 K hK)⟩
   ·rename_i hw
    obtain⟨s,h3,h4⟩:=vm r ps _ h
    exact⟨s,h3,fun K hK=>by rw [runM]; unfold fH; simp only [hw]; exact h4 K hK⟩
   exact h.elim
  obtain⟨v,m,h1,h2⟩:=(jS hz).1 h
  obtain⟨s,h3,h4⟩:=vm r ps _ h2
  exact⟨s,h3,fun K hK=>by rw [runM]; exact (jS hz).2 ⟨v,m,h1,h4 K hK⟩⟩
theorem mO (ht:TT P tt) (hm:P.follows .mixedOrders=true) (n:Nat) (cs:List Nat) {l:List V} {mem:List bm} (hn:l.length=n) (plan:List Pl) (m:Nat) {id:Nat} {ops:Array Oper} {y:Code} (fU:rO ops plan=true)
  (h:∀ K:St→Prop,(∀ ws bV,o0 cs ws=true→Ex P ρ n0 y { fr:=tG ws 0 cs l,mem:=bV } Q→K { fr:=wr n l ws,mem:=bV })→runM P tt ops mem.length ops.toList plan { fr:=wr n l [],mem:=mem++List.replicate m .hole } K) :
  Ex P ρ n0 (.seq (.region id ops true) y) { fr:=l,mem:=mem } Q:=by obtain⟨s,⟨ws,bV,rfl,hk,e,s2,hq,h2⟩,hr⟩:=vm _ _ _ (h (fun s=>∃ ws bV,s = { fr:=wr n l ws,mem:=bV }∧o0 cs ws=true∧Ex P ρ n0 y { fr:=tG ws 0 cs l,mem:=bV } Q) fun ws bV hk he=>⟨ws,bV,rfl,hk,he⟩);exact⟨e,s2,hq,fun Q' h'=>nF ht hm n cs hn plan m fU fun K hK=>hr K (hK ws bV hk (h2 Q' h'))⟩
theorem CQ {all:Array Oper} {base:Nat} (t:Nat) {b0:Bool} {n:Nat} {bs:List V} {ws:List (Nat×V)} {mem:List bm} {l:List Oper} {ps:List Pl} {Kp:St→Prop}
  (hb:BV t (bs.getD t .undef) ws = .sc (.bool b0)) (h:∀ b,b0=b→runM P tt all base l ps { fr:=wr n bs ((t,.sc (.bool b)) :: ws),mem:=mem } Kp):runM P tt all base l ps { fr:=wr n bs ws,mem:=mem } Kp:=by
 have:=h b0 rfl;have e:wr n bs ((t,.sc (.bool b0)) :: ws)=wr n bs ws:=by unfold wr;exact gp fun i _=>Gp hb i _ (fun e=>by rw [e])
 rw [e] at this;exact this
theorem Pk {R:V→Prop} {f:FuncId} {vs vs':List V} {st:St} {dst:Option Tmp} {Q:St→Prop} (hp:gx [] vs=some vs') (hr:∃ v,R v∧bR P f vs' v) (h:∀ v,R v→Q (st.put dst v)):KL P f vs st dst Q:=by obtain⟨v,h1,h2⟩:=hr;exact⟨vs',v,hp,.inl h2,h v h1⟩
end
end Go.Eng
end

section
namespace Go.Eng
variable [bg]
section
variable {P:Program} {tt:Table} {ρ:Option Nat} {n0:Nat} {Q:Exit→St→Prop}
theorem vn {x y:Code} {l:List V} {mem:List bm} (ts:List Nat) (n:Nat) (m:List Bool) (Inv:List V→Prop)
  (h1:Ex P ρ n0 x { fr:=l,mem:=mem } (il (fun s=>∃ vs,Inv vs∧CE n0 s (fun s=>s = { fr:=eO (aP m l) ts vs,mem:=mem.take n })) Q))
  (h2:∀ vs,Inv vs→Ex P ρ n0 y { fr:=eO (aP m l) ts vs,mem:=mem.take n } Q):Ex P ρ n0 (.seq x y) { fr:=l,mem:=mem } Q:=by refine fc (h1.mono fun e s h=>?_);cases e with | normal =>obtain⟨vs,hv,n1,m1,h3,h4,h5,h6⟩:=h;exact Uh n1 m1 h3 h4 h5 (by rw [h6]; exact h2 vs hv) | _=>exact h
end
end Go.Eng
end

section
namespace Go.Eng
variable [bg]
theorem rQ (n:Nat) (cs:List V):aJ n (.box cs)=cs.all (aA n):=rfl
theorem rR (n:Nat) (dO:List (Value×Nat×V)) (c:Nat):aJ n (.map dO c)=dO.all fun e=>aA n e.2.2:=rfl
theorem o1 (n v e:Nat) (rs:List V):aJ n (.rows v e rs)=true:=rfl
theorem rS (n v e:Nat) (rs:List V):aJ n (.uR v e rs)=true:=rfl
theorem o2 (n:Nat):aJ n .dead=true:=rfl
theorem o3 (n:Nat):aJ n .hole=true:=rfl
theorem sO (a b:ByteArray):(a==b)=true↔a=b:=by
 show ByteArray.beq a b=true↔_;unfold ByteArray.beq;constructor;·intro h;(have:a.data=b.data:=by simpa using h);exact apM this
 rintro rfl; simp
structure Ui (P:Program) (T kt et:TypeId) (K:Value→Prop):Prop where
 map:jh P T=some (kt,et)
 desc:∃ d,P.underlying kt=some d∧∀ a b,K a→K b→∃ q:Bool,Instr.sameNow d a b=some q∧(q=true↔a=b)
 ok:∀ a,K a→tA P kt a=true
 bits:∀ a,K a→Instr.sameBits 10000 a a=true
def Jb (k:IntKind) (v:Value):Prop:=∃ n,v = .int k n
theorem Pn {P:Program} {T kt et:TypeId} {k:IntKind} (h1:jh P T=some (kt,et)) (h2:P.underlying kt=some (.int k)):Ui P T kt et (Jb k):=by
 refine⟨h1,⟨_,h2,?_⟩,?_,?_⟩;·rintro _ _ ⟨a,rfl⟩ ⟨b,rfl⟩;exact⟨a==b,by simp [Instr.sameNow],by simp⟩
 ·rintro _ ⟨a,rfl⟩;unfold tA;rw [h2]
 rintro _ ⟨a,rfl⟩;simp [Instr.sameBits]
section
variable {P:Program} {T kt et:TypeId} {K:Value→Prop}
theorem yf {d:TypeDesc} (hd:∀ a b,K a→K b→∃ q:Bool,Instr.sameNow d a b=some q∧(q=true↔a=b)) {k:Value} (hk:K k):∀ (dO:List (Value×Nat×V)) (n:Nat),(∀ e∈dO,K e.1) →
  (ij d k dO n=some none∧∀ e∈dO,e.1≠k)∨∃ i e,dO[i]?=some e∧e.1=k∧ij d k dO n=some (some (n+i,e.2.2))
 | [],n,_=>.inl ⟨rfl,by simp⟩
 | e :: r,n,h=>by
  obtain⟨q,h1,hq⟩:=hd k e.1 hk (h e (by simp))
  by_cases he:k=e.1
  ·refine .inr ⟨0,e,rfl,he.symm,?_⟩
   rw [hq.2 he] at h1
   simp only [ij,h1,kC]
  obtain rfl:q=false:=by cases q <;> first | rfl | exact absurd (hq.1 rfl) he
  rcases yf hd hk r (n+1) (fun e' XE=>h e' (by simp [XE])) with ⟨h2,h3⟩ | ⟨i,e',h2,h3,h4⟩
  ·refine .inl ⟨?_,fun e' XE=>?_⟩
   ·simp only [ij,h1]; exact h2
   rcases cb.1 XE with rfl | XE
   ·exact fun e=>he e.symm
   exact h3 e' XE
  refine .inr ⟨i+1,e',by simpa using h2,h3,?_⟩
  simp only [ij,h1]
  rw [h4,show n+1+i=n+(i+1) by omega]
theorem My (hT:Ui P T kt et K) {k:Value} (hk:K k) (dO:List (Value×Nat×V)) (h:∀ e∈dO,K e.1) :
  (pG P kt k dO=some none∧∀ e∈dO,e.1≠k)∨∃ i e,dO[i]?=some e∧e.1=k∧pG P kt k dO=some (some (i,e.2.2)):=by
 obtain⟨d,hd,hs⟩:=hT.desc;unfold pG;rw [hd];dsimp only;rcases yf hs hk dO 0 h with ⟨h1,h2⟩ | ⟨i,e,h1,h2,h3⟩
 ·rw [h1]; exact .inl ⟨rfl,h2⟩
 rw [h3]; exact .inr ⟨i,e,h1,h2,by simp⟩
theorem Jc (hT:Ui P T kt et K) {k:Value} (hk:K k) (ht:fG (.sc k)=some k) {mem:List bm} {b:Nat} {dO:List (Value×Nat×V)} {cl:Nat} (hm:mem[b]?=some (.map dO cl)) (h:∀ e∈dO,K e.1) {z:V} (hz:zeroV P et=some z) (ok:Bool) :
  (kF P mem T (.mp b) (.sc k) ok=some (SS ok false z)∧∀ e∈dO,e.1≠k)∨∃ e∈dO,e.1=k∧kF P mem T (.mp b) (.sc k) ok=some (SS ok true e.2.2):=by
 have hl:kF P mem T (.mp b) (.sc k) ok=pH P mem kt et (.mp b) k ok:=by unfold kF;rw [hT.map];dsimp only;rw [ht];dsimp only;rw [if_pos (hT.ok k hk)]
 rw [hl];unfold pH;dsimp only;rw [hm];dsimp only;rcases My hT hk dO h with ⟨h1,h2⟩ | ⟨i,e,h1,h2,h3⟩
 ·rw [h1]; dsimp only; rw [hz]; exact .inl ⟨rfl,h2⟩
 rw [h3]; exact .inr ⟨e,aB h1,h2,rfl⟩
end
end Go.Eng
end

section
namespace Go.Eng
variable [bg]
end Go.Eng
end
