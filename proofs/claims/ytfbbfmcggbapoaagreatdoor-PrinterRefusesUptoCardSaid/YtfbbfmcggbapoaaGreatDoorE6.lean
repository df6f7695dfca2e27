import Derived.Test.YtfbbfmcggbapoaaGreatDoorE5
import Derived.Lib.Agree
open Bool renaming false_eq_true→bF
open ByteArray renaming ext→arB
open List renaming all_eq_true→aZ,drop_succ_cons→zq,ext_getElem?→dM,getD_eq_getElem?_getD→eN,getElem?_cons_succ→cp,getElem?_cons_zero→aJ,getElem?_eq_getElem→aw,getElem?_eq_none→ec,getElem?_eq_some_iff→az,getElem?_map→ak,getElem?_range→arQ,getElem?_set→bX,map_congr_left→pT,mem_cons→cI,mem_of_getElem?→aE,take_succ_cons→gf
open Nat renaming add_zero→jm,zero_add→cr
open Option renaming isNone_none→abY,map_eq_some_iff→bc,map_some→cx
set_option linter.all false
section
namespace Go.Eng
variable [bB]
theorem ER {P:Program} {tt:Table} {all:Array Oper} {K:St→Prop}:∀ (k:Nat) (l:List Oper) (st:St),fa P tt all (l.take k) st (fun s=>fa P tt all (l.drop k) s K)=fa P tt all l st K
 | 0,l,st=>rfl
 | k+1,[],st=>rfl
 | k+1,o :: r,st=>by
  have ih:=fun s=>ER (P:=P) (tt:=tt) (all:=all) (K:=K) k r s
  simp only [gf,zq,fa,ih]
def Ci (t:Nat) (b:V):List (Nat×V)→V
 | []=>b
 | p :: ws=>if p.1=t then p.2 else Ci t b ws
def wr (n:Nat) (l:List V) (ws:List (Nat×V)):List V:=(List.range n).map fun i=>Ci i (l.getD i .undef) ws
theorem uN (n:Nat) (l:List V) (ws:List (Nat×V)) (t:Nat):(wr n l ws)[t]?=if t<n then some (Ci t (l.getD t .undef) ws) else none:=by
 unfold wr;rw [ak];by_cases h:t<n;·rw [if_pos h,arQ h];rfl
 rw [if_neg h,ec (by simp;omega)];rfl
theorem Uy (n:Nat) (l:List V) (ws:List (Nat×V)) (t:Nat):(wr n l ws).getD t .undef=if t<n then Ci t (l.getD t .undef) ws else .undef:=by rw [eN,uN];split <;> rfl
theorem xD (n:Nat) (l:List V) (ws:List (Nat×V)):(wr n l ws).length=n:=by simp [wr]
theorem YV (n:Nat) (l:List V) (ws:List (Nat×V)) (d:Nat) (v:V):(wr n l ws).set d v=wr n l ((d,v) :: ws):=by
 apply dM;intro i;rw [bX,uN,uN,xD];simp only [Ci];by_cases h:d=i;·subst h;simp
 simp [h]
theorem JF {n:Nat} {l:List V} (h:l.length=n):wr n l []=l:=by
 apply dM;intro i;rw [uN];simp only [Ci];split;·rename_i hi;rw [eN,aw (by omega)];rfl
 rw [ec (by omega)]
def ui (ws:List (Nat×V)):Nat→List Nat→List V→List V
 | _,_,[]=>[]
 | _,[],v :: l=>v :: l
 | i,c :: cs,v :: l=>(match c with|0=>v|1=>.undef|_=>Ci i v ws) :: ui ws (i+1) cs l
def pd (cs:List Nat) (ws:List (Nat×V)):Bool:=ws.all fun p=>match cs[p.1]? with|some 0=>false|none=>false|_=>true
theorem Ha {t:Nat} {b:V}:∀ {ws:List (Nat×V)},(∀ p∈ws,p.1≠t)→Ci t b ws=b
 | [],_=>rfl
 | p :: ws,h=>by
  simp only [Ci,if_neg (h p (by simp))]
  exact Ha fun q hq=>h q (by simp [hq])
theorem qU {cs:List Nat} {ws:List (Nat×V)} (h:pd cs ws=true) {i:Nat} (hi:cs[i]?=some 0∨cs[i]?=none) (b:V):Ci i b ws=b:=by refine Ha fun p hp e=>?_;have:=aZ.1 h p hp;rw [e] at this;rcases hi with hi|hi <;> rw [hi] at this <;> cases this
theorem ES (ws:List (Nat×V)):∀ (l:List V) (cs:List Nat) (k i:Nat),(ui ws k cs l)[i]?=l[i]?.map fun v=>match cs[i]? with|none=>v|some 0=>v|some 1=>.undef|_=>Ci (k+i) v ws
 | [],cs,k,i=>by simp [ui]
 | v :: l,[],k,i=>by simp [ui]
 | v :: l,c :: cs,k,0=>by
  simp only [ui,aJ,cx,jm]
  rcases c with _|_|c <;> rfl
 | v :: l,c :: cs,k,i+1=>by
  simp only [ui,cp]
  rw [ES ws l cs (k+1) i,show k+1+i=k+(i+1) by omega]
theorem P7 {ws:List (Nat×V)} {l:List V} {cs:List Nat} (hk:pd cs ws=true) {i:Nat} {v:V} (h:(ui ws 0 cs l)[i]?=some v):v = .undef∨(wr l.length l ws)[i]?=some v:=by
 rw [ES,bc] at h;obtain⟨b,hb,hv⟩:=h;have hi:=(az.1 hb).1;have hd:l.getD i .undef=b:=by rw [eN,hb];rfl
 rw [uN,if_pos hi,hd];rw [cr] at hv;revert hv;cases hc:cs[i]? with|none=>intro hv;right;rw [qU hk (.inr hc)];exact congrArg some hv|some c =>(rcases c with _|_|c);(·intro hv;right;rw [qU hk (.inl hc)];exact congrArg some hv);(·intro hv;left;exact hv.symm);intro hv;right;exact congrArg some hv
theorem AY (ws:List (Nat×V)):∀ (l:List V) (cs:List Nat) (k:Nat),(ui ws k cs l).length=l.length
 | [],cs,k=>by simp [ui]
 | v :: l,[],k=>by simp [ui]
 | v :: l,c :: cs,k=>by simp [ui,AY ws l cs (k+1)]
theorem Uz {E:Env} {ws:List (Nat×V)} {l:List V} {cs:List Nat} {xs:List Value} (hk:pd cs ws=true) (h:cU E (wr l.length l ws) xs):cU E (ui ws 0 cs l) xs:=by
 refine⟨by rw [AY,← h.1,xD],fun i v x hv hx=>?_⟩;rcases P7 hk hv with rfl|h1
 ·exact .undef _ _
 exact h.2 i v x h1 hx
theorem YW {ws:List (Nat×V)} {l:List V} {cs:List Nat} (hk:pd cs ws=true) (h1:cs.all (· != 1)=true):ui ws 0 cs l=wr l.length l ws:=by
 apply dM;intro i;rw [ES,uN];by_cases hi:i<l.length;·rw [if_pos hi,aw hi,cx];(have hd:l.getD i .undef=l[i]:=by rw [eN,aw hi];rfl);rw [hd,cr];congr 1;cases hc:cs[i]? with|none=>exact (qU hk (.inr hc) _).symm|some c =>(rcases c with _|_|c);(·exact (qU hk (.inl hc) _).symm);(·have:=aZ.1 h1 1 (aE hc);simp at this);rfl
 rw [if_neg hi,ec (show l.length≤i by omega)];rfl
def gT (j:Nat):List (Nat×Nat)→Option Nat
 | []=>none
 | p :: r=>if p.1=j then some p.2 else gT j r
def YX (all:Array Oper) (gl:List (Nat×Nat)):Bool:=gl.all fun p=>(match (all[p.1]?).bind (·.dst) with|some d=>decide (d=p.2)|none=>false)
def P8 (want:Bool):Option V→Option Bool
 | some (.sc (.bool b))=>some (b==want)
 | some (.sc _)=>some false
 | some _=>none
 | none=>some false
def tm (gl:List (Nat×Nat)) (all:Array Oper) (fr:List V) (o:Oper):Option Bool :=
 match o.guard with
 | none=>some true
 | some (j,want)=>match gT j gl with
  | none=>gh all fr o
  | some d=>P8 want fr[d]?
theorem WM {all:Array Oper}:∀ {gl:List (Nat×Nat)},YX all gl=true→∀ {j d:Nat},gT j gl=some d→(all[j]?).bind (·.dst)=some d
 | [],_,j,d,h=>by cases h
 | p :: r,hg,j,d,h=>by
  have h1:=aZ.1 hg p (by simp)
  simp only [gT] at h
  split at h
  ·rename_i e
   cases h
   rw [e] at h1
   cases hd:(all[j]?).bind (·.dst) with
   | none=>rw [hd] at h1;cases h1
   | some d=>rw [hd] at h1;exact congrArg some (of_decide_eq_true h1)
  exact WM (aZ.2 fun q hq=>aZ.1 hg q (by simp [hq])) h
theorem JG {all:Array Oper} {gl:List (Nat×Nat)} (hg:YX all gl=true) (fr:List V) (o:Oper):tm gl all fr o=gh all fr o:=by unfold tm;cases ho:o.guard with|none=>unfold gh;rw [ho]|some g =>obtain⟨j,want⟩:=g;simp only;cases ht:gT j gl with|none=>rfl|some d =>have:=WM hg ht;unfold gh;rw [ho];simp only [this];unfold P8;cases fr[d]? with|none=>rfl|some v =>cases v with|sc x=>cases x <;> rfl|_=>rfl
def gj (P:Program) (tt:Table) (gl:List (Nat×Nat)) (all:Array Oper):List Oper→St→(St→Prop)→Prop
 | [],st,Q=>Q st
 | o :: r,st,Q=>match tm gl all st.fr o with
  | some true=>dn P tt st.mem.length o st fun st'=>gj P tt gl all r st' Q
  | some false=>gj P tt gl all r (st.put o.dst (.sc undef)) Q
  | none=>False
@[congr] theorem Tt {P:Program} {tt:Table} {gl:List (Nat×Nat)} {all:Array Oper} {l l':List Oper} {st st':St} {Q:St→Prop} (hl:l=l') (h:st=st'):gj P tt gl all l st Q=gj P tt gl all l' st' Q:=by rw [hl,h]
theorem uO {P:Program} {tt:Table} {gl:List (Nat×Nat)} {all:Array Oper} (hg:YX all gl=true) {Q:St→Prop}:∀ (l:List Oper) (st:St),gj P tt gl all l st Q=fa P tt all l st Q
 | [],st=>rfl
 | o :: r,st=>by
  have ih:=fun s=>uO (P:=P) (tt:=tt) (Q:=Q) hg r s
  simp only [gj,fa,JG hg,ih]
  rfl
theorem uj {P:Program} {tt:Table} {gl:List (Nat×Nat)} {all:Array Oper} {K:St→Prop}:∀ (k:Nat) (l:List Oper) (st:St),gj P tt gl all (l.take k) st (fun s=>gj P tt gl all (l.drop k) s K)=gj P tt gl all l st K
 | 0,l,st=>rfl
 | k+1,[],st=>rfl
 | k+1,o :: r,st=>by
  have ih:=fun s=>uj (P:=P) (tt:=tt) (gl:=gl) (all:=all) (K:=K) k r s
  simp only [gf,zq,gj,ih]
theorem nj {P:Program} {tt:Table} {gl:List (Nat×Nat)} {all:Array Oper} (k:Nat) {l:List Oper} {st:St} {K:St→Prop}
  (h:∀ K1:St→Prop,(∀ s,gj P tt gl all (l.drop k) s K→K1 s)→gj P tt gl all (l.take k) st K1):gj P tt gl all l st K:=by rw [← uj k];exact h _ fun _ h=>h
section
variable {P:Program} {tt:Table} {ρ:Option Nat} {n0:Nat} {Q:Exit→St→Prop} {l:List V} {mem:List bx}
theorem Lt {c:Code} {cs:List Nat} {ws:List (Nat×V)} (hk:pd cs ws=true) (h:ek P ρ n0 c { fr:=ui ws 0 cs l,mem:=mem } Q):ek P ρ n0 c { fr:=wr l.length l ws,mem:=mem } Q :=
 sg (st' := { fr:=ui ws 0 cs l,mem:=mem }) (fun E w a hs=>⟨hs.F,hs.lt,hs.mem,hs.top,hs.dZ,hs.apart,Uz hk hs.fr⟩) h
theorem mJ (ht:TT P tt) (n:Nat) (cs:List Nat) (gl:List (Nat×Nat)) (hn:l.length=n) {id:Nat} {ops:Array Oper} {y:Code} (hg:YX ops gl=true)
  (h:∀ K:St→Prop,(∀ ws bS,pd cs ws=true→ek P ρ n0 y { fr:=ui ws 0 cs l,mem:=bS } Q→K { fr:=wr n l ws,mem:=bS })→gj P tt gl ops ops.toList { fr:=wr n l [],mem:=mem } K) :
  ek P ρ n0 (.seq (.region id ops false) y) { fr:=l,mem:=mem } Q:=by subst hn;refine aq ht fun K hK=>?_;have:=h K fun ws bS hk ht=>hK _ (Lt hk ht);rw [uO hg,JF rfl] at this;exact this
theorem vY (ht:TT P tt) (n:Nat) (cs:List Nat) (gl:List (Nat×Nat)) (hn:l.length=n) (h1:cs.all (· != 1)=true) {id:Nat} {ops:Array Oper} (hg:YX ops gl=true)
  (h:∀ K:St→Prop,(∀ ws bS,pd cs ws=true→Q .normal { fr:=ui ws 0 cs l,mem:=bS }→K { fr:=wr n l ws,mem:=bS })→gj P tt gl ops ops.toList { fr:=wr n l [],mem:=mem } K) :
  ek P ρ n0 (.region id ops false) { fr:=l,mem:=mem } Q:=by subst hn;refine a7 ht fun K hK=>?_;have:=h K fun ws bS hk ht=>hK _ (by rw [← YW hk h1];exact ht);rw [uO hg,JF rfl] at this;exact this
theorem y4 (ht:TT P tt) (hm:P.follows .mixedOrders=true) (n:Nat) (cs:List Nat) (hn:l.length=n) (plan:List Pl) (m:Nat) {id:Nat} {ops:Array Oper} {y:Code} (gV:ug ops plan=true)
  (h:∀ K:St→Prop,(∀ ws bS,pd cs ws=true→ek P ρ n0 y { fr:=ui ws 0 cs l,mem:=bS } Q→K { fr:=wr n l ws,mem:=bS })→runM P tt ops mem.length ops.toList plan { fr:=wr n l [],mem:=mem++List.replicate m .hole } K) :
  ek P ρ n0 (.seq (.region id ops true) y) { fr:=l,mem:=mem } Q:=by subst hn;refine mS ht hm plan m gV fun K hK=>?_;have:=h K fun ws bS hk ht=>hK _ (Lt hk ht);rw [JF rfl] at this;exact this
end
attribute [irreducible] gj
end Go.Eng
end
section
namespace Go.Eng
variable [bB]
def Ex (P:Program) (ρ:Option Nat) (n0:Nat) (c:Code) (st:St) (Q:Exit→St→Prop):Prop :=
  ∃ (e:Exit) (s:St),Q e s∧∀ Q':Exit→St→Prop,Q' e s→ek P ρ n0 c st Q'
section
variable {P:Program} {tt:Table} {ρ:Option Nat} {n0:Nat} {st:St} {Q:Exit→St→Prop}
theorem Ex.mono {c:Code} {Q2:Exit→St→Prop} (h:Ex P ρ n0 c st Q) (hq:∀ e s,Q e s→Q2 e s):Ex P ρ n0 c st Q2:=by obtain⟨e,s,h1,h⟩:=h;exact⟨e,s,hq _ _ h1,h⟩
theorem gO (h:Q .normal st):Ex P ρ n0 .skip st Q:=⟨_,_,h,fun _ h=>cw h⟩
theorem lB (h:Q .ret st):Ex P ρ n0 .ret st Q:=⟨_,_,h,fun _ h=>cn h⟩
theorem j5 {id:Nat} (h:Q (.exit id) st):Ex P ρ n0 (.exit id) st Q:=⟨_,_,h,fun _ h=>ep h⟩
theorem eS {x y:Code} (h:Ex P ρ n0 x st (ir (fun st'=>Ex P ρ n0 y st' Q) Q)):Ex P ρ n0 (.seq x y) st Q:=by obtain⟨e,s,hq,h⟩:=h;cases e with|normal =>obtain⟨e2,s2,mi,h2⟩:=hq;exact⟨e2,s2,mi,fun Q' h'=>bE (h _ (h2 Q' h'))⟩|_=>exact⟨_,s,hq,fun Q' h'=>bE (h (ir (fun st'=>ek P ρ n0 y st' Q') Q') h')⟩
theorem tn {c:Operand} {x y:Code} {b:Bool} (hc:st.eval c = .sc (.bool b)) (h:Ex P ρ n0 (if b=true then x else y) st Q):Ex P ρ n0 (.cond c x y) st Q:=by obtain⟨e,s,hq,h⟩:=h;exact⟨e,s,hq,fun Q' h'=>bd hc (h Q' h')⟩
theorem oy {c:Operand} {x y:Code} {b:Bool} (hc:st.eval c = .sc (.bool b)) (h1:b=true→Ex P ρ n0 x st Q) (h2:b=false→Ex P ρ n0 y st Q):Ex P ρ n0 (.cond c x y) st Q:=by refine tn hc ?_;cases b with|true=>exact h1 rfl|false=>exact h2 rfl
theorem eA {id:Nat} {c:Code} (h:Ex P ρ n0 c st (kg id Q)):Ex P ρ n0 (.block id c) st Q:=by obtain⟨e,s,hq,h⟩:=h;cases e with|exit j =>(by_cases hj:j=id;(·simp only [kg,if_pos hj] at hq;exact⟨_,s,hq,fun Q' h'=>bU (h (kg id Q') (by simpa only [kg,if_pos hj] using h'))⟩);·simp only [kg,if_neg hj] at hq;exact⟨_,s,hq,fun Q' h'=>bU (h (kg id Q') (by simpa only [kg,if_neg hj] using h'))⟩)|_=>exact⟨_,s,hq,fun Q' h'=>bU (h (kg id Q') h')⟩
theorem JH {c:Code} {m:Nat} {Q':Exit→St→Prop} (n:Nat) (mk:List Bool) (hn:n0≤n) (hf:(aW mk st.fr).all (aG n)=true) (hm:(st.mem.take n).all (aK n)=true)
    (h:l5 P ρ n0 c m { fr:=aW mk st.fr,mem:=st.mem.take n } Q'):l5 P ρ n0 c m st Q':=by cases m with|zero=>exact h.elim|succ m=>exact ou n mk hn hf hm h
theorem Hb {c:Code} (I:Nat→St→Prop) (N:Nat) (h0:Da n0 st (I N))
    (step:∀ n st,I n st→Ex P ρ n0 c st (ir (fun st'=>∃ k,k<n∧Da n0 st' (I k)) Q)):Ex P ρ n0 (.loop c) st Q:=by
  have key:∀ (n:Nat) (st:St),I n st→∃ (e:Exit) (s:St),Q e s∧∀ Q':Exit→St→Prop,Q' e s→∃ m,l5 P ρ n0 c m st Q':=by intro n;induction n using Nat.strongRecOn with|_ n ih =>intro st hI;obtain⟨e,s,hq,h⟩:=step n st hI;cases e with|normal =>obtain⟨k,hk,n1,mk,h1,h2,h3,h4⟩:=hq;obtain⟨e2,s2,mi,h5⟩:=ih k hk _ h4;refine⟨e2,s2,mi,fun Q' h'=>?_⟩;obtain⟨m,h6⟩:=h5 Q' h';exact⟨m+1,h _ (JH n1 mk h1 h2 h3 h6)⟩|_=>exact⟨_,s,hq,fun Q' h'=>⟨1,h (ir (fun st'=>l5 P ρ n0 c 0 st' Q') Q') h'⟩⟩
  obtain⟨n1,mk,h1,h2,h3,h4⟩:=h0;obtain⟨e,s,hq,h⟩:=key N _ h4;exact⟨e,s,hq,fun Q' h'=>ou n1 mk h1 h2 h3 (Gy (h Q' h'))⟩
theorem UA {c:Code} (n:Nat) (m:List Bool) (hn:n0≤n) (hf:(aW m st.fr).all (aG n)=true) (hm:(st.mem.take n).all (aK n)=true)
    (h:Ex P ρ n0 c { fr:=aW m st.fr,mem:=st.mem.take n } Q):Ex P ρ n0 c st Q:=by obtain⟨e,s,hq,h⟩:=h;exact⟨e,s,hq,fun Q' h'=>ou n m hn hf hm (h Q' h')⟩
def wa (P:Program) (f:FuncId) (vs vs':List V) (keys:List (Nat×Nat)) (st:St) (dst:Option Tmp) (Q:St→Prop):Prop :=
  ∃ v,(b8 P f vs' v∧Q ({ st with mem:=iG st.mem keys v }.put dst v))∨(r7 P f vs v∧Q (st.put dst v))∨∃ m',bI P f vs st.mem v m'∧Q ({ st with mem:=m' }.put dst v)
def Dp (P:Program) (f:FuncId) (vs:List V) (st:St) (dst:Option Tmp) (Q:St→Prop):Prop :=
  ∃ v m',bI P f vs st.mem v m'∧Q ({ st with mem:=m' }.put dst v)
def Lu (P:Program) (f:FuncId) (vs:List V) (st:St) (dst:Option Tmp) (Q:St→Prop):Prop :=
  match iE st.mem vs with
  | some vs'=>wa P f vs vs' (vs.flatMap fP) st dst Q
  | none=>Dp P f vs st dst Q
@[congr] theorem WN {f f':FuncId} {us Pf vs vs':List V} {keys WO:List (Nat×Nat)} {st st':St} {dst:Option Tmp} {Q:St→Prop} (hf:f=f') (hu:us=Pf) (hv:vs=vs') (hk:keys=WO) (h:st=st'):wa P f us vs keys st dst Q=wa P f' Pf vs' WO st' dst Q:=by rw [hf,hu,hv,hk,h]
def lL (P:Program) (tt:Table) (key:Nat) (o:Oper) (st:St) (Q:St→Prop):Prop :=
  match o.op with
  | .alloc T=>match tt T with
    | some i=>Q ({ st with mem:=dm st.mem key (.box (i.zero.map V.sc)) }.put o.dst (.ptr key 0))
    | none=>False
  | .box _ x=>match l4 (st.eval x) with
    | some cs=>Q ({ st with mem:=dm st.mem key (.box cs) }.put o.dst (.ptr key 0))
    | none=>False
  | .build T parts=>match nB P tt T parts.toList st.eval with
    | some v=>Q (st.put o.dst v)
    | none=>False
  | .buildSlice T len parts=>match xk tt T len parts.toList st.eval with
    | some (size,rs)=>Q ({ st with mem:=dm st.mem key (.rows 0 size rs) }.put o.dst (.ms key 0 0 len))
    | none=>False
  | .store T p x=>match nz tt st.mem T (st.eval p) (st.eval x) with
    | some bS=>Q ({ st with mem:=bS }.put o.dst (.sc undef))
    | none=>False
  | .call c=>match c.callee with
    | .value f=>match di (st.eval f) (c.args.toList.map st.eval) with
      | some (g,vs)=>Lu P g vs st o.dst Q
      | none=>False
    | .builtin .append=>match c.args.toList.map st.eval with
      | [s,x]=>match fh tt st.mem c.argTypes.toList s x with
        | some (size,rY,rows)=>Q ({ st with mem:=(eM st.mem key size rows rY).1 }.put o.dst (eM st.mem key size rows rY).2)
        | none=>False
      | _=>False
    | .builtin .len=>match iY P tt st o with
      | some v=>Q (st.put o.dst v)
      | none=>False
    | .builtin .max=>match iY P tt st o with
      | some v=>Q (st.put o.dst v)
      | none=>False
    | .builtin .min=>match iY P tt st o with
      | some v=>Q (st.put o.dst v)
      | none=>False
    | _=>False
  | .makeMap _ none=>Q ({ st with mem:=dm st.mem key (.map [] 0) }.put o.dst (.mp key))
  | .makeSlice T l c=>match yl tt T (st.eval l) (st.eval c) with
    | some (size,rs,_)=>Q ({ st with mem:=dm st.mem key (.rows 0 size rs) }.put o.dst (.ms key 0 0 rs.length))
    | none=>False
  | .mapUpdate T m k x=>match dU P st.mem T (st.eval m) (st.eval k) (st.eval x) with
    | some bS=>Q ({ st with mem:=bS }.put o.dst (.sc undef))
    | none=>False
  | .insert T m k x=>match dU P st.mem T (st.eval m) (st.eval k) (st.eval x) with
    | some bS=>Q ({ st with mem:=bS }.put o.dst (.sc undef))
    | none=>False
  | .binOp op T x y _=>match pF tt op T (st.eval x) (st.eval y) with
    | some _=>False
    | none=>match iY P tt st o with
      | some v=>Q (st.put o.dst v)
      | none=>False
  | .move _=>match iY P tt st o with
    | some v=>Q (st.put o.dst v)
    | none=>False
  | .assign _=>match iY P tt st o with
    | some v=>Q (st.put o.dst v)
    | none=>False
  | .pick _ _ _=>match iY P tt st o with
    | some v=>Q (st.put o.dst v)
    | none=>False
  | .load _ _=>match iY P tt st o with
    | some v=>Q (st.put o.dst v)
    | none=>False
  | .nilCheck _=>match iY P tt st o with
    | some v=>Q (st.put o.dst v)
    | none=>False
  | .unOp _ _ _=>match iY P tt st o with
    | some v=>Q (st.put o.dst v)
    | none=>False
  | .convert _ _ _=>match iY P tt st o with
    | some v=>Q (st.put o.dst v)
    | none=>False
  | .makeFunc _ _ _=>match iY P tt st o with
    | some v=>Q (st.put o.dst v)
    | none=>False
  | .slice _ _ _ _ _=>match iY P tt st o with
    | some v=>Q (st.put o.dst v)
    | none=>False
  | .fieldAddr _ _ _=>match iY P tt st o with
    | some v=>Q (st.put o.dst v)
    | none=>False
  | .indexAddr _ _ _=>match iY P tt st o with
    | some v=>Q (st.put o.dst v)
    | none=>False
  | .field _ _ _=>match iY P tt st o with
    | some v=>Q (st.put o.dst v)
    | none=>False
  | .index _ _ _=>match iY P tt st o with
    | some v=>Q (st.put o.dst v)
    | none=>False
  | .extract _ _=>match iY P tt st o with
    | some v=>Q (st.put o.dst v)
    | none=>False
  | .lookup _ _ _ _=>match iY P tt st o with
    | some v=>Q (st.put o.dst v)
    | none=>False
  | _=>False
@[congr] theorem WQ {key adH:Nat} {o:Oper} {st st':St} {Q:St→Prop} (hk:key=adH) (h:st=st'):lL P tt key o st Q=lL P tt adH o st' Q:=by rw [hk,h]
theorem P9 {key:Nat} {o:Oper} {Q:St→Prop} (h:lL P tt key o st Q):∃ s,Q s∧∀ K:St→Prop,K s→dn P tt key o st K:=by
  obtain⟨dst,op,type,pos,after,guard⟩:=o;cases op
  case call c =>
    obtain⟨callee,args,ats⟩:=c
    cases callee
    case value f =>
      simp only [lL] at h
      split at h
      · rename_i g vs hg
        unfold Lu at h
        split at h
        · rename_i vs' hp
          obtain⟨v,⟨h1,h2⟩|⟨h1,h2⟩|⟨m',h1,h2⟩⟩:=h
          · refine⟨_,h2,fun K hK=>?_⟩
            simp only [dn]
            split
            · rename_i k hy;rw [hy] at hg;simp [di] at hg
            · rw [hg];exact .inl ⟨vs',v,hp,h1,hK⟩
          · refine⟨_,h2,fun K hK=>?_⟩
            simp only [dn]
            split
            · rename_i k hy;rw [hy] at hg;simp [di] at hg
            · rw [hg];exact .inr (.inr (.inr ⟨v,h1,hK⟩))
          · refine⟨_,h2,fun K hK=>?_⟩
            simp only [dn]
            split
            · rename_i k hy;rw [hy] at hg;simp [di] at hg
            · rw [hg];exact .inr (.inl ⟨v,m',h1,hK⟩)
        · obtain⟨v,m',h1,h2⟩:=h
          refine⟨_,h2,fun K hK=>?_⟩
          simp only [dn]
          split
          · rename_i k hy;rw [hy] at hg;simp [di] at hg
          · rw [hg];exact .inr (.inl ⟨v,m',h1,hK⟩)
      · exact h.elim
    case builtin b =>
      cases b
      case append =>
        simp only [lL] at h
        split at h
        · rename_i s x TW
          split at h
          · rename_i size rY rows ha
            refine⟨_,h,fun K hK=>?_⟩
            simp only [dn,TW,ha]
            exact hK
          · exact h.elim
        · exact h.elim
      all_goals first
        | exact h.elim
        | (simp only [lL] at h
           split at h
           · rename_i v hv
             refine⟨_,h,fun K hK=>?_⟩
             simp only [dn,hv]
             exact hK
           · exact h.elim)
    all_goals exact h.elim
  case binOp =>
    simp only [lL] at h
    split at h
    · exact h.elim
    · rename_i hn
      split at h
      · rename_i v hv
        refine⟨_,h,fun K hK=>?_⟩
        simp only [dn,hn,hv]
        exact hK
      · exact h.elim
  case buildSlice =>
    simp only [lL] at h
    split at h
    · rename_i size rs hl
      refine⟨_,h,fun K hK=>?_⟩
      simp only [dn,hl]
      exact hK
    · exact h.elim
  case store =>
    simp only [lL] at h
    split at h
    · rename_i m hl
      refine⟨_,h,fun K hK=>?_⟩
      simp only [dn,hl]
      exact hK
    · exact h.elim
  case makeSlice T l c =>
    simp only [lL] at h
    split at h
    · rename_i size rs c' hl
      refine⟨_,h,fun K hK=>?_⟩
      simp only [dn,hl]
      exact hK
    · exact h.elim
  case makeMap T l =>
    cases l with
    | none=>exact⟨_,h,fun K hK=>hK⟩
    | some l=>exact h.elim
  all_goals first
    | exact h.elim
    | (simp only [lL] at h
       split at h
       · rename_i v hv
         refine⟨_,h,fun K hK=>?_⟩
         simp only [dn,hv]
         exact hK
       · exact h.elim)
def qV (P:Program) (tt:Table) (gl:List (Nat×Nat)) (all:Array Oper):List Oper→St→(St→Prop)→Prop
  | [],st,Q=>Q st
  | o :: r,st,Q=>match tm gl all st.fr o with
    | some true=>lL P tt st.mem.length o st fun st'=>qV P tt gl all r st' Q
    | some false=>qV P tt gl all r (st.put o.dst (.sc undef)) Q
    | none=>False
@[congr] theorem YY {gl:List (Nat×Nat)} {all:Array Oper} {l l':List Oper} {st st':St} {Q:St→Prop} (hl:l=l') (h:st=st'):qV P tt gl all l st Q=qV P tt gl all l' st' Q:=by rw [hl,h]
theorem zM {gl:List (Nat×Nat)} {all:Array Oper} {Q:St→Prop}:∀ (l:List Oper) (st:St),qV P tt gl all l st Q→∃ s,Q s∧∀ K:St→Prop,K s→gj P tt gl all l st K
  | [],st,h=>⟨st,h,fun K hK=>by rw [gj];exact hK⟩
  | o :: r,st,h=>by
    rw [qV] at h
    split at h
    · rename_i hw
      obtain⟨s,h1,h2⟩:=P9 h
      obtain⟨s2,h3,h4⟩:=zM r s h1
      exact⟨s2,h3,fun K hK=>by rw [gj,hw];exact h2 _ (h4 K hK)⟩
    · rename_i hw
      obtain⟨s2,h3,h4⟩:=zM r _ h
      exact⟨s2,h3,fun K hK=>by rw [gj,hw];exact h4 K hK⟩
    · exact h.elim
theorem AZ {gl:List (Nat×Nat)} {all:Array Oper} {K:St→Prop}:∀ (k:Nat) (l:List Oper) (st:St),qV P tt gl all (l.take k) st (fun s=>qV P tt gl all (l.drop k) s K)=qV P tt gl all l st K
  | 0,l,st=>rfl
  | k+1,[],st=>rfl
  | k+1,o :: r,st=>by
    have ih:=fun s=>AZ (gl:=gl) (all:=all) (K:=K) k r s
    simp only [gf,zq,qV,ih]
theorem fA {gl:List (Nat×Nat)} {all:Array Oper} (k:Nat) {l:List Oper} {st:St} {K:St→Prop}
    (h:∀ K1:St→Prop,(∀ s,qV P tt gl all (l.drop k) s K→K1 s)→qV P tt gl all (l.take k) st K1):qV P tt gl all l st K:=by rw [← AZ k];exact h _ fun _ h=>h
theorem jc {R:V→Prop} {f:FuncId} {vs vs':List V} {keys:List (Nat×Nat)} {dst:Option Tmp} {Q:St→Prop} (hr:∃ v,R v∧b8 P f vs' v) (h:∀ v,R v→Q ({ st with mem:=iG st.mem keys v }.put dst v)):wa P f vs vs' keys st dst Q:=by obtain⟨v,h1,h2⟩:=hr;exact⟨v,.inl ⟨h2,h v h1⟩⟩
theorem Qa {f:FuncId} {fn:Func} {ext:Array Value→Sem Value} (hf:P.funcs[f]?=some fn) (hn:(fn.name == "runtime.NumGoroutine")=false) (hb:fn.body=none) (PZ:Extern.findNext fn=none) (F5:Extern.find fn=some ext)
    {vs:List V} {l:List Value} (hl:pB vs=some l) {v:Value} (fj:∀ w,(ext l.toArray).run P w = .ok v w):r7 P f vs (ka v):=fun E w xs hF hx=>by
  have n7:=qE hx hl
  refine⟨v,?_,kW E v⟩
  have hr:=fj w
  rw [← n7] at hr
  simp only [callFunc,program,Sem.run_bind]
  show (match P.funcs[f]? with|none=>_|some fn=>_:Sem Next).run P w=_
  rw [hf]
  dsimp only
  rw [hn,hb]
  simp only [bF,if_false,abY,if_true,PZ,F5,Sem.run_bind,mark,Sem.run,Result.andThen_ok]
  have Gj:(ext xs).run P w = .ok v w:=by simpa using hr
  rw [Gj];rfl
theorem Hc {t:Nat} {b v:V} {ws:List (Nat×V)} (h:Ci t b ws=v) (i:Nat) (c:V) (hc:i=t→c=b):Ci i c ((t,v) :: ws)=Ci i c ws:=by
  simp only [Ci];by_cases e:t=i;·subst e;rw [if_pos rfl,hc rfl,h]
  ·rw [if_neg e]
theorem tp {gl:List (Nat×Nat)} {all:Array Oper} (t:Nat) {b0:Bool} {n:Nat} {base:List V} {ws:List (Nat×V)} {mem:List bx} {l:List Oper} {Kp:St→Prop}
    (hb:Ci t (base.getD t .undef) ws = .sc (.bool b0)) (h:∀ b,b0=b→qV P tt gl all l { fr:=wr n base ((t,.sc (.bool b)) :: ws),mem:=mem } Kp):qV P tt gl all l { fr:=wr n base ws,mem:=mem } Kp:=by
  have:=h b0 rfl;have e:wr n base ((t,.sc (.bool b0)) :: ws)=wr n base ws:=by unfold wr;exact pT fun i _=>Hc hb i _ (fun e=>by rw [e])
  rw [e] at this;exact this
theorem bK (ht:TT P tt) (n:Nat) (cs:List Nat) (gl:List (Nat×Nat)) {l:List V} {mem:List bx} (hn:l.length=n) {id:Nat} {ops:Array Oper} {y:Code} (hg:YX ops gl=true)
    (h:∀ K:St→Prop,(∀ ws bS,pd cs ws=true→Ex P ρ n0 y { fr:=ui ws 0 cs l,mem:=bS } Q→K { fr:=wr n l ws,mem:=bS })→qV P tt gl ops ops.toList { fr:=wr n l [],mem:=mem } K) :
    Ex P ρ n0 (.seq (.region id ops false) y) { fr:=l,mem:=mem } Q:=by obtain⟨s,⟨ws,bS,rfl,hk,e,s2,hq,h2⟩,hr⟩:=zM _ _ (h (fun s=>∃ ws bS,s = { fr:=wr n l ws,mem:=bS }∧pd cs ws=true∧Ex P ρ n0 y { fr:=ui ws 0 cs l,mem:=bS } Q) fun ws bS hk he=>⟨ws,bS,rfl,hk,he⟩);exact⟨e,s2,hq,fun Q' h'=>mJ ht n cs gl hn hg fun K hK=>hr K (hK ws bS hk (h2 Q' h'))⟩
theorem cM (ht:TT P tt) (n:Nat) (cs:List Nat) (gl:List (Nat×Nat)) {l:List V} {mem:List bx} (hn:l.length=n) (h1:cs.all (· != 1)=true) {id:Nat} {ops:Array Oper} (hg:YX ops gl=true)
    (h:∀ K:St→Prop,(∀ ws bS,pd cs ws=true→Q .normal { fr:=ui ws 0 cs l,mem:=bS }→K { fr:=wr n l ws,mem:=bS })→qV P tt gl ops ops.toList { fr:=wr n l [],mem:=mem } K) :
    Ex P ρ n0 (.region id ops false) { fr:=l,mem:=mem } Q:=by obtain⟨s,⟨ws,bS,rfl,hk,hq⟩,hr⟩:=zM _ _ (h (fun s=>∃ ws bS,s = { fr:=wr n l ws,mem:=bS }∧pd cs ws=true∧Q .normal { fr:=ui ws 0 cs l,mem:=bS }) fun ws bS hk he=>⟨ws,bS,rfl,hk,he⟩);exact⟨.normal,_,hq,fun Q' h'=>vY ht n cs gl hn h1 hg fun K hK=>hr K (hK ws bS hk h')⟩
attribute [irreducible] qV
theorem Dq {P:Program} {tt:Table} (ht:TT P tt) {R:V→Prop} {f:FuncId} {fn:Func} {body:Code} {args:List V} (hf:P.funcs[f]?=some fn) (hb:fn.body=some body)
    (gL:∀ (xs:Array Value) (w:World),(callFunc f xs).run P w = .ok (.enter f xs) w)
    (h:Ex P none 0 body (cO fn args []) fun ex st'=>(ex = .ret∨ex = .normal)∧∃ r,R r∧nU tt fn.results st'=some r):∃ r,R r∧b8 P f args r:=by obtain⟨e,s,⟨h1,r,hr,h2⟩,h3⟩:=h;exact⟨r,hr,jL ht hf hb gL (h3 _ ⟨h1,h2⟩)⟩
def eB:List V→List Nat→List V→List V
  | l,t :: ts,v :: vs=>eB (l.set t v) ts vs
  | l,_,_=>l
def intOf:V→Int
  | .sc (.int _ n)=>n
  | _=>0
theorem ki {P:Program} {ρ:Option Nat} {n0:Nat} {Q:Exit→St→Prop} {c:Code} {l:List V} {mem:List bx} (ts:List Nat) (Tu:List V) (n:Nat) (m:List Bool) (μ:List V→Nat) (Inv:List V→Prop)
    (hn:n0≤n) (hf:(aW m l).all (aG n)=true) (hm:(mem.take n).all (aK n)=true)
    (h0:eB (aW m l) ts Tu=aW m l) (hi:Inv Tu)
    (step:∀ vs,Inv vs→Ex P ρ n0 c { fr:=eB (aW m l) ts vs,mem:=mem.take n }
      (ir (fun st'=>∃ vs',Inv vs'∧μ vs'<μ vs∧Da n0 st' (fun s=>s = { fr:=eB (aW m l) ts vs',mem:=mem.take n })) Q)):Ex P ρ n0 (.loop c) { fr:=l,mem:=mem } Q:=by refine Hb (fun k s=>∃ vs:List V,Inv vs∧k=μ vs∧s = { fr:=eB (aW m l) ts vs,mem:=mem.take n }) (μ Tu) ⟨n,m,hn,hf,hm,Tu,hi,rfl,by rw [h0]⟩ ?_;rintro k s ⟨vs,hv,rfl,rfl⟩;refine (step vs hv).mono fun e s' h=>?_;cases e with|normal =>obtain⟨vs',h4,h5,n1,m1,h6,h7,h8,h9⟩:=h;exact⟨μ vs',h5,n1,m1,h6,h7,h8,vs',h4,rfl,h9⟩|_=>exact h
theorem YZ (P:Program) (T:TypeId) (x y:Operand) (k k':IntKind) (a b:Int) (hb:¬ b<0):dJ P (qw .shr T x y) (.sc (.int k a)) (.sc (.int k' b))=some (.sc (.int k (a.fdiv (2 ^ min b.toNat k.bits)))):=by simp [dJ,fe,qw,binOp,Op.shift,eqGuard,dc,ka,bind,pure,Sem.bind,hb]
def UB (k:IntKind) (a b:Int):Int:=k.wrap (BitVec.ofInt k.bits a &&& BitVec.ofInt k.bits b).toNat
theorem Y0 (P:Program) (T:TypeId) (x y:Operand) (k:IntKind) (a b:Int):dJ P (qw .and T x y) (.sc (.int k a)) (.sc (.int k b))=some (.sc (.int k (UB k a b))):=by simp [dJ,fe,qw,binOp,eqGuard,dc,bind,pure,Sem.bind,Op.intBits,ka,UB]
end
end Go.Eng
end
section
namespace Go.Eng
variable [bB]
section
variable {P:Program} {tt:Table} {ρ:Option Nat} {n0:Nat} {Q:Exit→St→Prop}
theorem MY {o:Oper} {st:St} {Q:St→Prop} (h:o8 P o st Q):∃ s,Q s∧∀ K:St→Prop,K s→o8 P o st K:=by
 unfold o8 at h;split at h;·rename_i f xs heq;split at h;(·rename_i g vs hg;(rcases h with ⟨vs',r,h1,h2,h3⟩|⟨r,m',h2,h3⟩);(·refine⟨_,h3,fun K hK=>?_⟩;unfold o8;rw [heq];dsimp only;rw [hg];exact .inl ⟨vs',r,h1,h2,hK⟩);refine⟨_,h3,fun K hK=>?_⟩;unfold o8;rw [heq];dsimp only;rw [hg];exact .inr ⟨r,m',h2,hK⟩);exact h.elim
 exact h.elim
theorem wb {all:Array Oper} {base:Nat} {Q:St→Prop}:∀ (l:List Oper) (ps:List Pl) (st:St),runM P tt all base l ps st Q→∃ s,Q s∧∀ K:St→Prop,K s→runM P tt all base l ps st K
 | [],ps,st,h=>⟨st,h,fun K hK=>hK⟩
 | o :: r,[],st,h=>h.elim
 | o :: r,p :: ps,st,h=>by
  rw [runM] at h
  by_cases hz:p.cls = .z
  ·unfold gx at h
   split at h
   ·rename_i hw
    rw [hz] at h
    obtain⟨s0,h1,h2⟩:=MY h
    obtain⟨s,h3,h4⟩:=wb r ps _ h1
    exact⟨s,h3,fun K hK=>by rw [runM];unfold gx;simp only [hw,hz];exact h2 _ (h4 K hK)⟩
   ·rename_i hw
    obtain⟨s,h3,h4⟩:=wb r ps _ h
    exact⟨s,h3,fun K hK=>by rw [runM];unfold gx;simp only [hw];exact h4 K hK⟩
   exact h.elim
  obtain⟨v,m,h1,h2⟩:=(jP hz).1 h
  obtain⟨s,h3,h4⟩:=wb r ps _ h2
  exact⟨s,h3,fun K hK=>by rw [runM];exact (jP hz).2 ⟨v,m,h1,h4 K hK⟩⟩
theorem mK (ht:TT P tt) (hm:P.follows .mixedOrders=true) (n:Nat) (cs:List Nat) {l:List V} {mem:List bx} (hn:l.length=n) (plan:List Pl) (m:Nat) {id:Nat} {ops:Array Oper} {y:Code} (gV:ug ops plan=true)
  (h:∀ K:St→Prop,(∀ ws bS,pd cs ws=true→Ex P ρ n0 y { fr:=ui ws 0 cs l,mem:=bS } Q→K { fr:=wr n l ws,mem:=bS })→runM P tt ops mem.length ops.toList plan { fr:=wr n l [],mem:=mem++List.replicate m .hole } K) :
  Ex P ρ n0 (.seq (.region id ops true) y) { fr:=l,mem:=mem } Q:=by obtain⟨s,⟨ws,bS,rfl,hk,e,s2,hq,h2⟩,hr⟩:=wb _ _ _ (h (fun s=>∃ ws bS,s = { fr:=wr n l ws,mem:=bS }∧pd cs ws=true∧Ex P ρ n0 y { fr:=ui ws 0 cs l,mem:=bS } Q) fun ws bS hk he=>⟨ws,bS,rfl,hk,he⟩);exact⟨e,s2,hq,fun Q' h'=>y4 ht hm n cs hn plan m gV fun K hK=>hr K (hK ws bS hk (h2 Q' h'))⟩
theorem Dr {all:Array Oper} {base:Nat} (t:Nat) {b0:Bool} {n:Nat} {bs:List V} {ws:List (Nat×V)} {mem:List bx} {l:List Oper} {ps:List Pl} {Kp:St→Prop}
  (hb:Ci t (bs.getD t .undef) ws = .sc (.bool b0)) (h:∀ b,b0=b→runM P tt all base l ps { fr:=wr n bs ((t,.sc (.bool b)) :: ws),mem:=mem } Kp):runM P tt all base l ps { fr:=wr n bs ws,mem:=mem } Kp:=by
 have:=h b0 rfl;have e:wr n bs ((t,.sc (.bool b0)) :: ws)=wr n bs ws:=by unfold wr;exact pT fun i _=>Hc hb i _ (fun e=>by rw [e])
 rw [e] at this;exact this
theorem Qb {R:V→Prop} {f:FuncId} {vs vs':List V} {st:St} {dst:Option Tmp} {Q:St→Prop} (hp:iE [] vs=some vs') (hr:∃ v,R v∧b8 P f vs' v) (h:∀ v,R v→Q (st.put dst v)):Lf P f vs st dst Q:=by obtain⟨v,h1,h2⟩:=hr;exact⟨vs',v,hp,.inl h2,h v h1⟩
end
end Go.Eng
end
section
namespace Go.Eng
variable [bB]
section
variable {P:Program} {tt:Table} {ρ:Option Nat} {n0:Nat} {Q:Exit→St→Prop}
theorem we {x y:Code} {l:List V} {mem:List bx} (ts:List Nat) (n:Nat) (m:List Bool) (Inv:List V→Prop)
  (h1:Ex P ρ n0 x { fr:=l,mem:=mem } (ir (fun s=>∃ vs,Inv vs∧Da n0 s (fun s=>s = { fr:=eB (aW m l) ts vs,mem:=mem.take n })) Q))
  (h2:∀ vs,Inv vs→Ex P ρ n0 y { fr:=eB (aW m l) ts vs,mem:=mem.take n } Q):Ex P ρ n0 (.seq x y) { fr:=l,mem:=mem } Q:=by refine eS (h1.mono fun e s h=>?_);cases e with|normal =>obtain⟨vs,hv,n1,m1,h3,h4,h5,h6⟩:=h;exact UA n1 m1 h3 h4 h5 (by rw [h6];exact h2 vs hv)|_=>exact h
end
end Go.Eng
end
section
namespace Go.Eng
variable [bB]
theorem sA (n:Nat) (cs:List V):aK n (.box cs)=cs.all (aG n):=rfl
theorem sB (n:Nat) (dP:List (Value×Nat×V)) (c:Nat):aK n (.map dP c)=dP.all fun e=>aG n e.2.2:=rfl
theorem pe (n v e:Nat) (rs:List V):aK n (.rows v e rs)=true:=rfl
theorem sC (n v e:Nat) (rs:List V):aK n (.rP v e rs)=true:=rfl
theorem pf (n:Nat):aK n .dead=true:=rfl
theorem pg (n:Nat):aK n .hole=true:=rfl
theorem tq (a b:ByteArray):(a==b)=true↔a=b:=by
 show ByteArray.beq a b=true↔_;unfold ByteArray.beq;constructor;·intro h;(have:a.data=b.data:=by simpa using h);exact arB this
 rintro rfl;simp
structure UC (P:Program) (T kt et:TypeId) (K:Value→Prop):Prop where
 map:jw P T=some (kt,et)
 desc:∃ d,P.underlying kt=some d∧∀ a b,K a→K b→∃ q:Bool,Instr.sameNow d a b=some q∧(q=true↔a=b)
 ok:∀ a,K a→tY P kt a=true
 bits:∀ a,K a→Instr.sameBits 10000 a a=true
def JI (k:IntKind) (v:Value):Prop:=∃ n,v = .int k n
theorem Qc {P:Program} {T kt et:TypeId} {k:IntKind} (h1:jw P T=some (kt,et)) (h2:P.underlying kt=some (.int k)):UC P T kt et (JI k):=by
 refine⟨h1,⟨_,h2,?_⟩,?_,?_⟩;·rintro _ _ ⟨a,rfl⟩ ⟨b,rfl⟩;exact⟨a==b,by simp [Instr.sameNow],by simp⟩
 ·rintro _ ⟨a,rfl⟩;unfold tY;rw [h2]
 rintro _ ⟨a,rfl⟩;simp [Instr.sameBits]
section
variable {P:Program} {T kt et:TypeId} {K:Value→Prop}
theorem yE {d:TypeDesc} (hd:∀ a b,K a→K b→∃ q:Bool,Instr.sameNow d a b=some q∧(q=true↔a=b)) {k:Value} (hk:K k):∀ (dP:List (Value×Nat×V)) (n:Nat),(∀ e∈dP,K e.1) →
  (gX d k dP n=some none∧∀ e∈dP,e.1≠k)∨∃ i e,dP[i]?=some e∧e.1=k∧gX d k dP n=some (some (n+i,e.2.2))
 | [],n,_=>.inl ⟨rfl,by simp⟩
 | e :: r,n,h=>by
  obtain⟨q,h1,hq⟩:=hd k e.1 hk (h e (by simp))
  by_cases he:k=e.1
  ·refine .inr ⟨0,e,rfl,he.symm,?_⟩
   rw [hq.2 he] at h1
   simp only [gX,h1,jm]
  obtain rfl:q=false:=by cases q <;> first|rfl|exact absurd (hq.1 rfl) he
  rcases yE hd hk r (n+1) (fun e' Tj=>h e' (by simp [Tj])) with ⟨h2,h3⟩|⟨i,e',h2,h3,h4⟩
  ·refine .inl ⟨?_,fun e' Tj=>?_⟩
   ·simp only [gX,h1];exact h2
   rcases cI.1 Tj with rfl|Tj
   ·exact fun e=>he e.symm
   exact h3 e' Tj
  refine .inr ⟨i+1,e',by simpa using h2,h3,?_⟩
  simp only [gX,h1]
  rw [h4,show n+1+i=n+(i+1) by omega]
theorem MZ (hT:UC P T kt et K) {k:Value} (hk:K k) (dP:List (Value×Nat×V)) (h:∀ e∈dP,K e.1) :
  (pW P kt k dP=some none∧∀ e∈dP,e.1≠k)∨∃ i e,dP[i]?=some e∧e.1=k∧pW P kt k dP=some (some (i,e.2.2)):=by
 obtain⟨d,hd,hs⟩:=hT.desc;unfold pW;rw [hd];dsimp only;rcases yE hs hk dP 0 h with ⟨h1,h2⟩|⟨i,e,h1,h2,h3⟩
 ·rw [h1];exact .inl ⟨rfl,h2⟩
 rw [h3];exact .inr ⟨i,e,h1,h2,by simp⟩
theorem JJ (hT:UC P T kt et K) {k:Value} (hk:K k) (ht:fe (.sc k)=some k) {mem:List bx} {b:Nat} {dP:List (Value×Nat×V)} {cl:Nat} (hm:mem[b]?=some (.map dP cl)) (h:∀ e∈dP,K e.1) {z:V} (hz:zeroV P et=some z) (ok:Bool) :
  (kB P mem T (.mp b) (.sc k) ok=some (VY ok false z)∧∀ e∈dP,e.1≠k)∨∃ e∈dP,e.1=k∧kB P mem T (.mp b) (.sc k) ok=some (VY ok true e.2.2):=by
 have hl:kB P mem T (.mp b) (.sc k) ok=pX P mem kt et (.mp b) k ok:=by unfold kB;rw [hT.map];dsimp only;rw [ht];dsimp only;rw [if_pos (hT.ok k hk)]
 rw [hl];unfold pX;dsimp only;rw [hm];dsimp only;rcases MZ hT hk dP h with ⟨h1,h2⟩|⟨i,e,h1,h2,h3⟩
 ·rw [h1];dsimp only;rw [hz];exact .inl ⟨rfl,h2⟩
 rw [h3];exact .inr ⟨e,aE h1,h2,rfl⟩
end
end Go.Eng
end
section
namespace Go.Eng
variable [bB]
end Go.Eng
end
