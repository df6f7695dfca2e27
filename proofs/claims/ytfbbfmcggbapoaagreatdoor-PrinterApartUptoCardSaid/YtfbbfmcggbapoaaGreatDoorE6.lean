import Derived.Test.YtfbbfmcggbapoaaGreatDoorE5
import Derived.Lib.Agree
open Bool renaming false_eq_true→bu
open ByteArray renaming ext→atL
open List renaming all_eq_true→aN,drop_succ_cons→atK,ext_getElem?→dC,getD_eq_getElem?_getD→ey,getElem?_cons_succ→cO,getElem?_cons_zero→aF,getElem?_eq_getElem→au,getElem?_eq_none→cH,getElem?_eq_some_iff→aA,getElem?_map→aq,getElem?_range→auc,getElem?_set→bR,mem_cons→b8,mem_of_getElem?→aE,take_succ_cons→y5
open Nat renaming add_zero→jW,zero_add→dL
open Option renaming isNone_none→ac6,map_eq_some_iff→aY,map_some→b9
set_option linter.all false
section
namespace Go.Eng
variable [ba]
theorem Ek {P:Program} {tt:Table} {all:Array Oper} {K:St→Prop}:∀ (k:Nat) (l:List Oper) (st:St),eV P tt all (l.take k) st (fun s=>eV P tt all (l.drop k) s K)=eV P tt all l st K
 | 0,l,st=>rfl
 | k+1,[],st=>rfl
 | k+1,o :: r,st=>by
  have ih:=fun s=>Ek (P:=P) (tt:=tt) (all:=all) (K:=K) k r s
  simp only [y5,atK,eV,ih]
def Ii (t:Nat) (b:V):List (Nat×V)→V
 | []=>b
 | p :: ws=>if p.1=t then p.2 else Ii t b ws
def wr (n:Nat) (l:List V) (ws:List (Nat×V)):List V:=(List.range n).map fun i=>Ii i (l.getD i .undef) ws
theorem uG (n:Nat) (l:List V) (ws:List (Nat×V)) (t:Nat):(wr n l ws)[t]?=if t<n then some (Ii t (l.getD t .undef) ws) else none:=by
 unfold wr;rw [aq];by_cases h:t<n;·rw [if_pos h,auc h];rfl
 rw [if_neg h,cH (by simp;omega)];rfl
theorem U3 (n:Nat) (l:List V) (ws:List (Nat×V)) (t:Nat):(wr n l ws).getD t .undef=if t<n then Ii t (l.getD t .undef) ws else .undef:=by rw [ey,uG];split <;> rfl
theorem xm (n:Nat) (l:List V) (ws:List (Nat×V)):(wr n l ws).length=n:=by simp [wr]
theorem ZC (n:Nat) (l:List V) (ws:List (Nat×V)) (d:Nat) (v:V):(wr n l ws).set d v=wr n l ((d,v) :: ws):=by
 apply dC;intro i;rw [bR,uG,uG,xm];simp only [Ii];by_cases h:d=i;·subst h;simp
 simp [h]
theorem Qn {n:Nat} {l:List V} (h:l.length=n):wr n l []=l:=by
 apply dC;intro i;rw [uG];simp only [Ii];split;·rename_i hi;rw [ey,au (by omega)];rfl
 rw [cH (by omega)]
def vL (ws:List (Nat×V)):Nat→List Nat→List V→List V
 | _,_,[]=>[]
 | _,[],v :: l=>v :: l
 | i,c :: cs,v :: l=>(match c with|0=>v|1=>.undef|_=>Ii i v ws) :: vL ws (i+1) cs l
def r9 (cs:List Nat) (ws:List (Nat×V)):Bool:=ws.all fun p=>match cs[p.1]? with|some 0=>false|none=>false|_=>true
theorem Gx {t:Nat} {b:V}:∀ {ws:List (Nat×V)},(∀ p∈ws,p.1≠t)→Ii t b ws=b
 | [],_=>rfl
 | p :: ws,h=>by
  simp only [Ii,if_neg (h p (by simp))]
  exact Gx fun q hq=>h q (by simp [hq])
theorem qu {cs:List Nat} {ws:List (Nat×V)} (h:r9 cs ws=true) {i:Nat} (hi:cs[i]?=some 0∨cs[i]?=none) (b:V):Ii i b ws=b:=by refine Gx fun p hp e=>?_;have:=aN.1 h p hp;rw [e] at this;rcases hi with hi|hi <;> rw [hi] at this <;> cases this
theorem El (ws:List (Nat×V)):∀ (l:List V) (cs:List Nat) (k i:Nat),(vL ws k cs l)[i]?=l[i]?.map fun v=>match cs[i]? with|none=>v|some 0=>v|some 1=>.undef|_=>Ii (k+i) v ws
 | [],cs,k,i=>by simp [vL]
 | v :: l,[],k,i=>by simp [vL]
 | v :: l,c :: cs,k,0=>by
  simp only [vL,aF,b9,jW]
  rcases c with _|_|c <;> rfl
 | v :: l,c :: cs,k,i+1=>by
  simp only [vL,cO]
  rw [El ws l cs (k+1) i,show k+1+i=k+(i+1) by omega]
theorem Qo {ws:List (Nat×V)} {l:List V} {cs:List Nat} (hk:r9 cs ws=true) {i:Nat} {v:V} (h:(vL ws 0 cs l)[i]?=some v):v = .undef∨(wr l.length l ws)[i]?=some v:=by
 rw [El,aY] at h;obtain⟨b,hb,hv⟩:=h;have hi:=(aA.1 hb).1;have hd:l.getD i .undef=b:=by rw [ey,hb];rfl
 rw [uG,if_pos hi,hd];rw [dL] at hv;revert hv;cases hc:cs[i]? with|none=>intro hv;right;rw [qu hk (.inr hc)];exact congrArg some hv|some c =>(rcases c with _|_|c);(·intro hv;right;rw [qu hk (.inl hc)];exact congrArg some hv);(·intro hv;left;exact hv.symm);intro hv;right;exact congrArg some hv
theorem AH (ws:List (Nat×V)):∀ (l:List V) (cs:List Nat) (k:Nat),(vL ws k cs l).length=l.length
 | [],cs,k=>by simp [vL]
 | v :: l,[],k=>by simp [vL]
 | v :: l,c :: cs,k=>by simp [vL,AH ws l cs (k+1)]
theorem U4 {E:Env} {ws:List (Nat×V)} {l:List V} {cs:List Nat} {xs:List Value} (hk:r9 cs ws=true) (h:cU E (wr l.length l ws) xs):cU E (vL ws 0 cs l) xs:=by
 refine⟨by rw [AH,← h.1,xm],fun i v x hv hx=>?_⟩;rcases Qo hk hv with rfl|h1
 ·exact .undef _ _
 exact h.2 i v x h1 hx
theorem ZD {ws:List (Nat×V)} {l:List V} {cs:List Nat} (hk:r9 cs ws=true) (h1:cs.all (· != 1)=true):vL ws 0 cs l=wr l.length l ws:=by
 apply dC;intro i;rw [El,uG];by_cases hi:i<l.length;·rw [if_pos hi,au hi,b9];(have hd:l.getD i .undef=l[i]:=by rw [ey,au hi];rfl);rw [hd,dL];congr 1;cases hc:cs[i]? with|none=>exact (qu hk (.inr hc) _).symm|some c =>(rcases c with _|_|c);(·exact (qu hk (.inl hc) _).symm);(·have:=aN.1 h1 1 (aE hc);simp at this);rfl
 rw [if_neg hi,cH (show l.length≤i by omega)];rfl
def gT (j:Nat):List (Nat×Nat)→Option Nat
 | []=>none
 | p :: r=>if p.1=j then some p.2 else gT j r
def ZE (all:Array Oper) (gl:List (Nat×Nat)):Bool:=gl.all fun p=>(match (all[p.1]?).bind (·.dst) with|some d=>decide (d=p.2)|none=>false)
def Qp (want:Bool):Option V→Option Bool
 | some (.sc (.bool b))=>some (b==want)
 | some (.sc _)=>some false
 | some _=>none
 | none=>some false
def th (gl:List (Nat×Nat)) (all:Array Oper) (fr:List V) (o:Oper):Option Bool :=
 match o.guard with
 | none=>some true
 | some (j,want)=>match gT j gl with
  | none=>fC all fr o
  | some d=>Qp want fr[d]?
theorem Xy {all:Array Oper}:∀ {gl:List (Nat×Nat)},ZE all gl=true→∀ {j d:Nat},gT j gl=some d→(all[j]?).bind (·.dst)=some d
 | [],_,j,d,h=>by cases h
 | p :: r,hg,j,d,h=>by
  have h1:=aN.1 hg p (by simp)
  simp only [gT] at h
  split at h
  ·rename_i e
   cases h
   rw [e] at h1
   cases hd:(all[j]?).bind (·.dst) with
   | none=>rw [hd] at h1;cases h1
   | some d=>rw [hd] at h1;exact congrArg some (of_decide_eq_true h1)
  exact Xy (aN.2 fun q hq=>aN.1 hg q (by simp [hq])) h
theorem Jb {all:Array Oper} {gl:List (Nat×Nat)} (hg:ZE all gl=true) (fr:List V) (o:Oper):th gl all fr o=fC all fr o:=by unfold th;cases ho:o.guard with|none=>unfold fC;rw [ho]|some g =>obtain⟨j,want⟩:=g;simp only;cases ht:gT j gl with|none=>rfl|some d =>have:=Xy hg ht;unfold fC;rw [ho];simp only [this];unfold Qp;cases fr[d]? with|none=>rfl|some v =>cases v with|sc x=>cases x <;> rfl|_=>rfl
def fE (P:Program) (tt:Table) (gl:List (Nat×Nat)) (all:Array Oper):List Oper→St→(St→Prop)→Prop
 | [],st,Q=>Q st
 | o :: r,st,Q=>match th gl all st.fr o with
  | some true=>cY P tt st.mem.length o st fun st'=>fE P tt gl all r st' Q
  | some false=>fE P tt gl all r (st.put o.dst (.sc undef)) Q
  | none=>False
@[congr] theorem T4 {P:Program} {tt:Table} {gl:List (Nat×Nat)} {all:Array Oper} {l l':List Oper} {st st':St} {Q:St→Prop} (hl:l=l') (h:st=st'):fE P tt gl all l st Q=fE P tt gl all l' st' Q:=by rw [hl,h]
theorem uH {P:Program} {tt:Table} {gl:List (Nat×Nat)} {all:Array Oper} (hg:ZE all gl=true) {Q:St→Prop}:∀ (l:List Oper) (st:St),fE P tt gl all l st Q=eV P tt all l st Q
 | [],st=>rfl
 | o :: r,st=>by
  have ih:=fun s=>uH (P:=P) (tt:=tt) (Q:=Q) hg r s
  simp only [fE,eV,Jb hg,ih]
  rfl
theorem uc {P:Program} {tt:Table} {gl:List (Nat×Nat)} {all:Array Oper} {K:St→Prop}:∀ (k:Nat) (l:List Oper) (st:St),fE P tt gl all (l.take k) st (fun s=>fE P tt gl all (l.drop k) s K)=fE P tt gl all l st K
 | 0,l,st=>rfl
 | k+1,[],st=>rfl
 | k+1,o :: r,st=>by
  have ih:=fun s=>uc (P:=P) (tt:=tt) (gl:=gl) (all:=all) (K:=K) k r s
  simp only [y5,atK,fE,ih]
theorem cp {P:Program} {tt:Table} {gl:List (Nat×Nat)} {all:Array Oper} (k:Nat) {l:List Oper} {st:St} {K:St→Prop}
  (h:∀ K1:St→Prop,(∀ s,fE P tt gl all (l.drop k) s K→K1 s)→fE P tt gl all (l.take k) st K1):fE P tt gl all l st K:=by rw [← uc k];exact h _ fun _ h=>h
section
variable {P:Program} {tt:Table} {ρ:Option Nat} {n0:Nat} {Q:Exit→St→Prop} {l:List V} {mem:List bf}
theorem U5 {c:Code} {cs:List Nat} {ws:List (Nat×V)} (hk:r9 cs ws=true) (h:dS P ρ n0 c { fr:=vL ws 0 cs l,mem:=mem } Q):dS P ρ n0 c { fr:=wr l.length l ws,mem:=mem } Q :=
 rQ (st' := { fr:=vL ws 0 cs l,mem:=mem }) (fun E w a hs=>⟨hs.F,hs.lt,hs.mem,hs.top,hs.dI,hs.apart,U4 hk hs.fr⟩) h
theorem iy (ht:TT P tt) (n:Nat) (cs:List Nat) (gl:List (Nat×Nat)) (hn:l.length=n) {id:Nat} {ops:Array Oper} {y:Code} (hg:ZE ops gl=true)
  (h:∀ K:St→Prop,(∀ ws bI,r9 cs ws=true→dS P ρ n0 y { fr:=vL ws 0 cs l,mem:=bI } Q→K { fr:=wr n l ws,mem:=bI })→fE P tt gl ops ops.toList { fr:=wr n l [],mem:=mem } K) :
  dS P ρ n0 (.seq (.region id ops false) y) { fr:=l,mem:=mem } Q:=by subst hn;refine ak ht fun K hK=>?_;have:=h K fun ws bI hk ht=>hK _ (U5 hk ht);rw [uH hg,Qn rfl] at this;exact this
theorem vM (ht:TT P tt) (n:Nat) (cs:List Nat) (gl:List (Nat×Nat)) (hn:l.length=n) (h1:cs.all (· != 1)=true) {id:Nat} {ops:Array Oper} (hg:ZE ops gl=true)
  (h:∀ K:St→Prop,(∀ ws bI,r9 cs ws=true→Q .normal { fr:=vL ws 0 cs l,mem:=bI }→K { fr:=wr n l ws,mem:=bI })→fE P tt gl ops ops.toList { fr:=wr n l [],mem:=mem } K) :
  dS P ρ n0 (.region id ops false) { fr:=l,mem:=mem } Q:=by subst hn;refine aR ht fun K hK=>?_;have:=h K fun ws bI hk ht=>hK _ (by rw [← ZD hk h1];exact ht);rw [uH hg,Qn rfl] at this;exact this
end
attribute [irreducible] fE
end Go.Eng
end
section
namespace Go.Eng
variable [ba]
def Ex (P:Program) (ρ:Option Nat) (n0:Nat) (c:Code) (st:St) (Q:Exit→St→Prop):Prop :=
  ∃ (e:Exit) (s:St),Q e s∧∀ Q':Exit→St→Prop,Q' e s→dS P ρ n0 c st Q'
section
variable {P:Program} {tt:Table} {ρ:Option Nat} {n0:Nat} {st:St} {Q:Exit→St→Prop}
theorem Ex.tri {c:Code} (h:Ex P ρ n0 c st Q):dS P ρ n0 c st Q:=by obtain⟨e,s,hq,h⟩:=h;exact h Q hq
theorem Ex.mono {c:Code} {Q2:Exit→St→Prop} (h:Ex P ρ n0 c st Q) (hq:∀ e s,Q e s→Q2 e s):Ex P ρ n0 c st Q2:=by obtain⟨e,s,h1,h⟩:=h;exact⟨e,s,hq _ _ h1,h⟩
theorem Em (h:Q .normal st):Ex P ρ n0 .skip st Q:=⟨_,_,h,fun _ h=>bZ h⟩
theorem Qq (h:Q .ret st):Ex P ρ n0 .ret st Q:=⟨_,_,h,fun _ h=>bE h⟩
theorem Lf {id:Nat} (h:Q (.exit id) st):Ex P ρ n0 (.exit id) st Q:=⟨_,_,h,fun _ h=>dK h⟩
theorem AI {x y:Code} (h:Ex P ρ n0 x st (gS (fun st'=>Ex P ρ n0 y st' Q) Q)):Ex P ρ n0 (.seq x y) st Q:=by obtain⟨e,s,hq,h⟩:=h;cases e with|normal =>obtain⟨e2,s2,mi,h2⟩:=hq;exact⟨e2,s2,mi,fun Q' h'=>bc (h _ (h2 Q' h'))⟩|_=>exact⟨_,s,hq,fun Q' h'=>bc (h (gS (fun st'=>dS P ρ n0 y st' Q') Q') h')⟩
theorem Lg {c:Operand} {x y:Code} {b:Bool} (hc:st.eval c = .sc (.bool b)) (h:Ex P ρ n0 (if b=true then x else y) st Q):Ex P ρ n0 (.cond c x y) st Q:=by obtain⟨e,s,hq,h⟩:=h;exact⟨e,s,hq,fun Q' h'=>aO hc (h Q' h')⟩
theorem aeO {c:Operand} {x y:Code} {b:Bool} (hc:st.eval c = .sc (.bool b)) (h1:b=true→Ex P ρ n0 x st Q) (h2:b=false→Ex P ρ n0 y st Q):Ex P ρ n0 (.cond c x y) st Q:=by refine Lg hc ?_;cases b with|true=>exact h1 rfl|false=>exact h2 rfl
theorem AJ {id:Nat} {c:Code} (h:Ex P ρ n0 c st (jN id Q)):Ex P ρ n0 (.block id c) st Q:=by obtain⟨e,s,hq,h⟩:=h;cases e with|exit j =>(by_cases hj:j=id;(·simp only [jN,if_pos hj] at hq;exact⟨_,s,hq,fun Q' h'=>bC (h (jN id Q') (by simpa only [jN,if_pos hj] using h'))⟩);·simp only [jN,if_neg hj] at hq;exact⟨_,s,hq,fun Q' h'=>bC (h (jN id Q') (by simpa only [jN,if_neg hj] using h'))⟩)|_=>exact⟨_,s,hq,fun Q' h'=>bC (h (jN id Q') h')⟩
theorem Jc {c:Code} {m:Nat} {Q':Exit→St→Prop} (n:Nat) (mk:List Bool) (hn:n0≤n) (hf:(bg mk st.fr).all (aI n)=true) (hm:(st.mem.take n).all (aL n)=true)
    (h:lx P ρ n0 c m { fr:=bg mk st.fr,mem:=st.mem.take n } Q'):lx P ρ n0 c m st Q':=by cases m with|zero=>exact h.elim|succ m=>exact pw n mk hn hf hm h
theorem Gy {c:Code} (I:Nat→St→Prop) (N:Nat) (h0:F1 n0 st (I N))
    (step:∀ n st,I n st→Ex P ρ n0 c st (gS (fun st'=>∃ k,k<n∧F1 n0 st' (I k)) Q)):Ex P ρ n0 (.loop c) st Q:=by
  have key:∀ (n:Nat) (st:St),I n st→∃ (e:Exit) (s:St),Q e s∧∀ Q':Exit→St→Prop,Q' e s→∃ m,lx P ρ n0 c m st Q':=by intro n;induction n using Nat.strongRecOn with|_ n ih =>intro st hI;obtain⟨e,s,hq,h⟩:=step n st hI;cases e with|normal =>obtain⟨k,hk,n1,mk,h1,h2,h3,h4⟩:=hq;obtain⟨e2,s2,mi,h5⟩:=ih k hk _ h4;refine⟨e2,s2,mi,fun Q' h'=>?_⟩;obtain⟨m,h6⟩:=h5 Q' h';exact⟨m+1,h _ (Jc n1 mk h1 h2 h3 h6)⟩|_=>exact⟨_,s,hq,fun Q' h'=>⟨1,h (gS (fun st'=>lx P ρ n0 c 0 st' Q') Q') h'⟩⟩
  obtain⟨n1,mk,h1,h2,h3,h4⟩:=h0;obtain⟨e,s,hq,h⟩:=key N _ h4;exact⟨e,s,hq,fun Q' h'=>pw n1 mk h1 h2 h3 (F2 (h Q' h'))⟩
def vN (P:Program) (f:FuncId) (vs vs':List V) (keys:List (Nat×Nat)) (st:St) (dst:Option Tmp) (Q:St→Prop):Prop :=
  ∃ v,(bJ P f vs' v∧Q ({ st with mem:=gQ st.mem keys v }.put dst v))∨(rL P f vs v∧Q (st.put dst v))∨∃ m',bo P f vs st.mem v m'∧Q ({ st with mem:=m' }.put dst v)
def C0 (P:Program) (f:FuncId) (vs:List V) (st:St) (dst:Option Tmp) (Q:St→Prop):Prop :=
  ∃ v m',bo P f vs st.mem v m'∧Q ({ st with mem:=m' }.put dst v)
def Lh (P:Program) (f:FuncId) (vs:List V) (st:St) (dst:Option Tmp) (Q:St→Prop):Prop :=
  match ij st.mem vs with
  | some vs'=>vN P f vs vs' (vs.flatMap gq) st dst Q
  | none=>C0 P f vs st dst Q
@[congr] theorem Xz {f f':FuncId} {us Pz vs vs':List V} {keys XA:List (Nat×Nat)} {st st':St} {dst:Option Tmp} {Q:St→Prop} (hf:f=f') (hu:us=Pz) (hv:vs=vs') (hk:keys=XA) (h:st=st'):vN P f us vs keys st dst Q=vN P f' Pz vs' XA st' dst Q:=by rw [hf,hu,hv,hk,h]
def kP (P:Program) (tt:Table) (key:Nat) (o:Oper) (st:St) (Q:St→Prop):Prop :=
  match o.op with
  | .alloc T=>match tt T with
    | some i=>Q ({ st with mem:=da st.mem key (.box (i.zero.map V.sc)) }.put o.dst (.ptr key 0))
    | none=>False
  | .box _ x=>match lr (st.eval x) with
    | some cs=>Q ({ st with mem:=da st.mem key (.box cs) }.put o.dst (.ptr key 0))
    | none=>False
  | .build T parts=>match mL P tt T parts.toList st.eval with
    | some v=>Q (st.put o.dst v)
    | none=>False
  | .buildSlice T len parts=>match w6 tt T len parts.toList st.eval with
    | some (size,rs)=>Q ({ st with mem:=da st.mem key (.rows 0 size rs) }.put o.dst (.ms key 0 0 len))
    | none=>False
  | .store T p x=>match mJ tt st.mem T (st.eval p) (st.eval x) with
    | some bI=>Q ({ st with mem:=bI }.put o.dst (.sc undef))
    | none=>False
  | .call c=>match c.callee with
    | .value f=>match c6 (st.eval f) (c.args.toList.map st.eval) with
      | some (g,vs)=>Lh P g vs st o.dst Q
      | none=>False
    | .builtin .append=>match c.args.toList.map st.eval with
      | [s,x]=>match eM tt st.mem c.argTypes.toList s x with
        | some (size,rH,rows)=>Q ({ st with mem:=(ew st.mem key size rows rH).1 }.put o.dst (ew st.mem key size rows rH).2)
        | none=>False
      | _=>False
    | .builtin .len=>match iq P tt st o with
      | some v=>Q (st.put o.dst v)
      | none=>False
    | .builtin .max=>match iq P tt st o with
      | some v=>Q (st.put o.dst v)
      | none=>False
    | .builtin .min=>match iq P tt st o with
      | some v=>Q (st.put o.dst v)
      | none=>False
    | _=>False
  | .makeMap _ none=>Q ({ st with mem:=da st.mem key (.map [] 0) }.put o.dst (.mp key))
  | .makeSlice T l c=>match x7 tt T (st.eval l) (st.eval c) with
    | some (size,rs,_)=>Q ({ st with mem:=da st.mem key (.rows 0 size rs) }.put o.dst (.ms key 0 0 rs.length))
    | none=>False
  | .mapUpdate T m k x=>match dB P st.mem T (st.eval m) (st.eval k) (st.eval x) with
    | some bI=>Q ({ st with mem:=bI }.put o.dst (.sc undef))
    | none=>False
  | .insert T m k x=>match dB P st.mem T (st.eval m) (st.eval k) (st.eval x) with
    | some bI=>Q ({ st with mem:=bI }.put o.dst (.sc undef))
    | none=>False
  | .binOp op T x y _=>match oO tt op T (st.eval x) (st.eval y) with
    | some _=>False
    | none=>match iq P tt st o with
      | some v=>Q (st.put o.dst v)
      | none=>False
  | .move _=>match iq P tt st o with
    | some v=>Q (st.put o.dst v)
    | none=>False
  | .assign _=>match iq P tt st o with
    | some v=>Q (st.put o.dst v)
    | none=>False
  | .pick _ _ _=>match iq P tt st o with
    | some v=>Q (st.put o.dst v)
    | none=>False
  | .load _ _=>match iq P tt st o with
    | some v=>Q (st.put o.dst v)
    | none=>False
  | .nilCheck _=>match iq P tt st o with
    | some v=>Q (st.put o.dst v)
    | none=>False
  | .unOp _ _ _=>match iq P tt st o with
    | some v=>Q (st.put o.dst v)
    | none=>False
  | .convert _ _ _=>match iq P tt st o with
    | some v=>Q (st.put o.dst v)
    | none=>False
  | .makeFunc _ _ _=>match iq P tt st o with
    | some v=>Q (st.put o.dst v)
    | none=>False
  | .slice _ _ _ _ _=>match iq P tt st o with
    | some v=>Q (st.put o.dst v)
    | none=>False
  | .fieldAddr _ _ _=>match iq P tt st o with
    | some v=>Q (st.put o.dst v)
    | none=>False
  | .indexAddr _ _ _=>match iq P tt st o with
    | some v=>Q (st.put o.dst v)
    | none=>False
  | .field _ _ _=>match iq P tt st o with
    | some v=>Q (st.put o.dst v)
    | none=>False
  | .index _ _ _=>match iq P tt st o with
    | some v=>Q (st.put o.dst v)
    | none=>False
  | .extract _ _=>match iq P tt st o with
    | some v=>Q (st.put o.dst v)
    | none=>False
  | .lookup _ _ _ _=>match iq P tt st o with
    | some v=>Q (st.put o.dst v)
    | none=>False
  | _=>False
@[congr] theorem XB {key PE:Nat} {o:Oper} {st st':St} {Q:St→Prop} (hk:key=PE) (h:st=st'):kP P tt key o st Q=kP P tt PE o st' Q:=by rw [hk,h]
theorem Qr {key:Nat} {o:Oper} {Q:St→Prop} (h:kP P tt key o st Q):∃ s,Q s∧∀ K:St→Prop,K s→cY P tt key o st K:=by
  obtain⟨dst,op,type,pos,after,guard⟩:=o;cases op
  case call c =>
    obtain⟨callee,args,ats⟩:=c
    cases callee
    case value f =>
      simp only [kP] at h
      split at h
      · rename_i g vs hg
        unfold Lh at h
        split at h
        · rename_i vs' hp
          obtain⟨v,⟨h1,h2⟩|⟨h1,h2⟩|⟨m',h1,h2⟩⟩:=h
          · refine⟨_,h2,fun K hK=>?_⟩
            simp only [cY]
            split
            · rename_i k hy;rw [hy] at hg;simp [c6] at hg
            · rw [hg];exact .inl ⟨vs',v,hp,h1,hK⟩
          · refine⟨_,h2,fun K hK=>?_⟩
            simp only [cY]
            split
            · rename_i k hy;rw [hy] at hg;simp [c6] at hg
            · rw [hg];exact .inr (.inr (.inr ⟨v,h1,hK⟩))
          · refine⟨_,h2,fun K hK=>?_⟩
            simp only [cY]
            split
            · rename_i k hy;rw [hy] at hg;simp [c6] at hg
            · rw [hg];exact .inr (.inl ⟨v,m',h1,hK⟩)
        · obtain⟨v,m',h1,h2⟩:=h
          refine⟨_,h2,fun K hK=>?_⟩
          simp only [cY]
          split
          · rename_i k hy;rw [hy] at hg;simp [c6] at hg
          · rw [hg];exact .inr (.inl ⟨v,m',h1,hK⟩)
      · exact h.elim
    case builtin b =>
      cases b
      case append =>
        simp only [kP] at h
        split at h
        · rename_i s x Uu
          split at h
          · rename_i size rH rows ha
            refine⟨_,h,fun K hK=>?_⟩
            simp only [cY,Uu,ha]
            exact hK
          · exact h.elim
        · exact h.elim
      all_goals first
        | exact h.elim
        | (simp only [kP] at h
           split at h
           · rename_i v hv
             refine⟨_,h,fun K hK=>?_⟩
             simp only [cY,hv]
             exact hK
           · exact h.elim)
    all_goals exact h.elim
  case binOp =>
    simp only [kP] at h
    split at h
    · exact h.elim
    · rename_i hn
      split at h
      · rename_i v hv
        refine⟨_,h,fun K hK=>?_⟩
        simp only [cY,hn,hv]
        exact hK
      · exact h.elim
  case buildSlice =>
    simp only [kP] at h
    split at h
    · rename_i size rs hl
      refine⟨_,h,fun K hK=>?_⟩
      simp only [cY,hl]
      exact hK
    · exact h.elim
  case store =>
    simp only [kP] at h
    split at h
    · rename_i m hl
      refine⟨_,h,fun K hK=>?_⟩
      simp only [cY,hl]
      exact hK
    · exact h.elim
  case makeSlice T l c =>
    simp only [kP] at h
    split at h
    · rename_i size rs c' hl
      refine⟨_,h,fun K hK=>?_⟩
      simp only [cY,hl]
      exact hK
    · exact h.elim
  case makeMap T l =>
    cases l with
    | none=>exact⟨_,h,fun K hK=>hK⟩
    | some l=>exact h.elim
  all_goals first
    | exact h.elim
    | (simp only [kP] at h
       split at h
       · rename_i v hv
         refine⟨_,h,fun K hK=>?_⟩
         simp only [cY,hv]
         exact hK
       · exact h.elim)
def sd (P:Program) (tt:Table) (gl:List (Nat×Nat)) (all:Array Oper):List Oper→St→(St→Prop)→Prop
  | [],st,Q=>Q st
  | o :: r,st,Q=>match th gl all st.fr o with
    | some true=>kP P tt st.mem.length o st fun st'=>sd P tt gl all r st' Q
    | some false=>sd P tt gl all r (st.put o.dst (.sc undef)) Q
    | none=>False
@[congr] theorem ZF {gl:List (Nat×Nat)} {all:Array Oper} {l l':List Oper} {st st':St} {Q:St→Prop} (hl:l=l') (h:st=st'):sd P tt gl all l st Q=sd P tt gl all l' st' Q:=by rw [hl,h]
theorem zj {gl:List (Nat×Nat)} {all:Array Oper} {Q:St→Prop}:∀ (l:List Oper) (st:St),sd P tt gl all l st Q→∃ s,Q s∧∀ K:St→Prop,K s→fE P tt gl all l st K
  | [],st,h=>⟨st,h,fun K hK=>by rw [fE];exact hK⟩
  | o :: r,st,h=>by
    rw [sd] at h
    split at h
    · rename_i hw
      obtain⟨s,h1,h2⟩:=Qr h
      obtain⟨s2,h3,h4⟩:=zj r s h1
      exact⟨s2,h3,fun K hK=>by rw [fE,hw];exact h2 _ (h4 K hK)⟩
    · rename_i hw
      obtain⟨s2,h3,h4⟩:=zj r _ h
      exact⟨s2,h3,fun K hK=>by rw [fE,hw];exact h4 K hK⟩
    · exact h.elim
theorem AK {gl:List (Nat×Nat)} {all:Array Oper} {K:St→Prop}:∀ (k:Nat) (l:List Oper) (st:St),sd P tt gl all (l.take k) st (fun s=>sd P tt gl all (l.drop k) s K)=sd P tt gl all l st K
  | 0,l,st=>rfl
  | k+1,[],st=>rfl
  | k+1,o :: r,st=>by
    have ih:=fun s=>AK (gl:=gl) (all:=all) (K:=K) k r s
    simp only [y5,atK,sd,ih]
theorem Qs {gl:List (Nat×Nat)} {all:Array Oper} (k:Nat) {l:List Oper} {st:St} {K:St→Prop}
    (h:∀ K1:St→Prop,(∀ s,sd P tt gl all (l.drop k) s K→K1 s)→sd P tt gl all (l.take k) st K1):sd P tt gl all l st K:=by rw [← AK k];exact h _ fun _ h=>h
theorem Qt {R:V→Prop} {f:FuncId} {vs vs':List V} {keys:List (Nat×Nat)} {dst:Option Tmp} {Q:St→Prop} (hr:∃ v,R v∧bJ P f vs' v) (h:∀ v,R v→Q ({ st with mem:=gQ st.mem keys v }.put dst v)):vN P f vs vs' keys st dst Q:=by obtain⟨v,h1,h2⟩:=hr;exact⟨v,.inl ⟨h2,h v h1⟩⟩
theorem Qu {f:FuncId} {fn:Func} {ext:Array Value→Sem Value} (hf:P.funcs[f]?=some fn) (hn:(fn.name == "runtime.NumGoroutine")=false) (hb:fn.body=none) (Qf:Extern.findNext fn=none) (Fx:Extern.find fn=some ext)
    {vs:List V} {l:List Value} (hl:oK vs=some l) {v:Value} (eQ:∀ w,(ext l.toArray).run P w = .ok v w):rL P f vs (kf v):=fun E w xs hF hx=>by
  have rj:=qc hx hl
  refine⟨v,?_,kn E v⟩
  have hr:=eQ w
  rw [← rj] at hr
  simp only [callFunc,program,Sem.run_bind]
  show (match P.funcs[f]? with|none=>_|some fn=>_:Sem Next).run P w=_
  rw [hf]
  dsimp only
  rw [hn,hb]
  simp only [bu,if_false,ac6,if_true,Qf,Fx,Sem.run_bind,mark,Sem.run,Result.andThen_ok]
  have FM:(ext xs).run P w = .ok v w:=by simpa using hr
  rw [FM];rfl
theorem kQ (ht:TT P tt) (n:Nat) (cs:List Nat) (gl:List (Nat×Nat)) {l:List V} {mem:List bf} (hn:l.length=n) {id:Nat} {ops:Array Oper} {y:Code} (hg:ZE ops gl=true)
    (h:∀ K:St→Prop,(∀ ws bI,r9 cs ws=true→Ex P ρ n0 y { fr:=vL ws 0 cs l,mem:=bI } Q→K { fr:=wr n l ws,mem:=bI })→sd P tt gl ops ops.toList { fr:=wr n l [],mem:=mem } K) :
    Ex P ρ n0 (.seq (.region id ops false) y) { fr:=l,mem:=mem } Q:=by obtain⟨s,⟨ws,bI,rfl,hk,e,s2,hq,h2⟩,hr⟩:=zj _ _ (h (fun s=>∃ ws bI,s = { fr:=wr n l ws,mem:=bI }∧r9 cs ws=true∧Ex P ρ n0 y { fr:=vL ws 0 cs l,mem:=bI } Q) fun ws bI hk he=>⟨ws,bI,rfl,hk,he⟩);exact⟨e,s2,hq,fun Q' h'=>iy ht n cs gl hn hg fun K hK=>hr K (hK ws bI hk (h2 Q' h'))⟩
theorem pH (ht:TT P tt) (n:Nat) (cs:List Nat) (gl:List (Nat×Nat)) {l:List V} {mem:List bf} (hn:l.length=n) (h1:cs.all (· != 1)=true) {id:Nat} {ops:Array Oper} (hg:ZE ops gl=true)
    (h:∀ K:St→Prop,(∀ ws bI,r9 cs ws=true→Q .normal { fr:=vL ws 0 cs l,mem:=bI }→K { fr:=wr n l ws,mem:=bI })→sd P tt gl ops ops.toList { fr:=wr n l [],mem:=mem } K) :
    Ex P ρ n0 (.region id ops false) { fr:=l,mem:=mem } Q:=by obtain⟨s,⟨ws,bI,rfl,hk,hq⟩,hr⟩:=zj _ _ (h (fun s=>∃ ws bI,s = { fr:=wr n l ws,mem:=bI }∧r9 cs ws=true∧Q .normal { fr:=vL ws 0 cs l,mem:=bI }) fun ws bI hk he=>⟨ws,bI,rfl,hk,he⟩);exact⟨.normal,_,hq,fun Q' h'=>vM ht n cs gl hn h1 hg fun K hK=>hr K (hK ws bI hk h')⟩
attribute [irreducible] sd
theorem aeP {P:Program} {tt:Table} (ht:TT P tt) {R:V→Prop} {f:FuncId} {fn:Func} {body:Code} {args:List V} (hf:P.funcs[f]?=some fn) (hb:fn.body=some body)
    (fS:∀ (xs:Array Value) (w:World),(callFunc f xs).run P w = .ok (.enter f xs) w)
    (h:Ex P none 0 body (cK fn args []) fun ex st'=>(ex = .ret∨ex = .normal)∧∃ r,R r∧qZ tt fn.results st'=some r):∃ r,R r∧bJ P f args r:=by obtain⟨e,s,⟨h1,r,hr,h2⟩,h3⟩:=h;exact⟨r,hr,iN ht hf hb fS (h3 _ ⟨h1,h2⟩)⟩
def uI:List V→List Nat→List V→List V
  | l,t :: ts,v :: vs=>uI (l.set t v) ts vs
  | l,_,_=>l
def intOf:V→Int
  | .sc (.int _ n)=>n
  | _=>0
theorem Qv {P:Program} {ρ:Option Nat} {n0:Nat} {Q:Exit→St→Prop} {c:Code} {l:List V} {mem:List bf} (ts:List Nat) (T5:List V) (n:Nat) (m:List Bool) (μ:List V→Nat) (Inv:List V→Prop)
    (hn:n0≤n) (hf:(bg m l).all (aI n)=true) (hm:(mem.take n).all (aL n)=true)
    (h0:uI (bg m l) ts T5=bg m l) (hi:Inv T5)
    (step:∀ vs,Inv vs→Ex P ρ n0 c { fr:=uI (bg m l) ts vs,mem:=mem.take n }
      (gS (fun st'=>∃ vs',Inv vs'∧μ vs'<μ vs∧F1 n0 st' (fun s=>s = { fr:=uI (bg m l) ts vs',mem:=mem.take n })) Q)):Ex P ρ n0 (.loop c) { fr:=l,mem:=mem } Q:=by refine Gy (fun k s=>∃ vs:List V,Inv vs∧k=μ vs∧s = { fr:=uI (bg m l) ts vs,mem:=mem.take n }) (μ T5) ⟨n,m,hn,hf,hm,T5,hi,rfl,by rw [h0]⟩ ?_;rintro k s ⟨vs,hv,rfl,rfl⟩;refine (step vs hv).mono fun e s' h=>?_;cases e with|normal =>obtain⟨vs',h4,h5,n1,m1,h6,h7,h8,h9⟩:=h;exact⟨μ vs',h5,n1,m1,h6,h7,h8,vs',h4,rfl,h9⟩|_=>exact h
theorem ZG (P:Program) (T:TypeId) (x y:Operand) (k k':IntKind) (a b:Int) (hb:¬ b<0):dE P (s7 .shr T x y) (.sc (.int k a)) (.sc (.int k' b))=some (.sc (.int k (a.fdiv (2 ^ min b.toNat k.bits)))):=by simp [dE,fa,s7,binOp,Op.shift,eqGuard,dv,kf,bind,pure,Sem.bind,hb]
def U6 (k:IntKind) (a b:Int):Int:=k.wrap (BitVec.ofInt k.bits a &&& BitVec.ofInt k.bits b).toNat
theorem ZH (P:Program) (T:TypeId) (x y:Operand) (k:IntKind) (a b:Int):dE P (s7 .and T x y) (.sc (.int k a)) (.sc (.int k b))=some (.sc (.int k (U6 k a b))):=by simp [dE,fa,s7,binOp,eqGuard,dv,bind,pure,Sem.bind,Op.intBits,kf,U6]
end
end Go.Eng
end
section
namespace Go.Eng
variable [ba]
section
variable {P:Program} {tt:Table} {ρ:Option Nat} {n0:Nat} {Q:Exit→St→Prop}
theorem M1 {o:Oper} {st:St} {Q:St→Prop} (h:oo P o st Q):∃ s,Q s∧∀ K:St→Prop,K s→oo P o st K:=by
 unfold oo at h;split at h;·rename_i f xs heq;split at h;(·rename_i g vs hg;(rcases h with ⟨vs',r,h1,h2,h3⟩|⟨r,m',h2,h3⟩);(·refine⟨_,h3,fun K hK=>?_⟩;unfold oo;rw [heq];dsimp only;rw [hg];exact .inl ⟨vs',r,h1,h2,hK⟩);refine⟨_,h3,fun K hK=>?_⟩;unfold oo;rw [heq];dsimp only;rw [hg];exact .inr ⟨r,m',h2,hK⟩);exact h.elim
 exact h.elim
theorem zo {all:Array Oper} {base:Nat} {Q:St→Prop}:∀ (l:List Oper) (ps:List Pl) (st:St),runM P tt all base l ps st Q→∃ s,Q s∧∀ K:St→Prop,K s→runM P tt all base l ps st K
 | [],ps,st,h=>⟨st,h,fun K hK=>hK⟩
 | o :: r,[],st,h=>h.elim
 | o :: r,p :: ps,st,h=>by
  rw [runM] at h
  by_cases hz:p.cls = .z
  ·unfold fq at h
   split at h
   ·rename_i hw
    rw [hz] at h
    obtain⟨s0,h1,h2⟩:=M1 h
    obtain⟨s,h3,h4⟩:=zo r ps _ h1
    exact⟨s,h3,fun K hK=>by rw [runM];unfold fq;simp only [hw,hz];exact h2 _ (h4 K hK)⟩
   ·rename_i hw
    obtain⟨s,h3,h4⟩:=zo r ps _ h
    exact⟨s,h3,fun K hK=>by rw [runM];unfold fq;simp only [hw];exact h4 K hK⟩
   exact h.elim
  obtain⟨v,m,h1,h2⟩:=(jm hz).1 h
  obtain⟨s,h3,h4⟩:=zo r ps _ h2
  exact⟨s,h3,fun K hK=>by rw [runM];exact (jm hz).2 ⟨v,m,h1,h4 K hK⟩⟩
end
end Go.Eng
end
section
namespace Go.Eng
variable [ba]
section
variable {P:Program} {tt:Table} {ρ:Option Nat} {n0:Nat} {Q:Exit→St→Prop}
end
end Go.Eng
end
section
namespace Go.Eng
variable [ba]
theorem sf (n:Nat) (cs:List V):aL n (.box cs)=cs.all (aI n):=rfl
theorem sg (n:Nat) (dx:List (Value×Nat×V)) (c:Nat):aL n (.map dx c)=dx.all fun e=>aI n e.2.2:=rfl
theorem ov (n v e:Nat) (rs:List V):aL n (.rows v e rs)=true:=rfl
theorem sh (n v e:Nat) (rs:List V):aL n (.rv v e rs)=true:=rfl
theorem ow (n:Nat):aL n .dead=true:=rfl
theorem ox (n:Nat):aL n .hole=true:=rfl
theorem C1 (a b:ByteArray):(a==b)=true↔a=b:=by
 show ByteArray.beq a b=true↔_;unfold ByteArray.beq;constructor;·intro h;(have:a.data=b.data:=by simpa using h);exact atL this
 rintro rfl;simp
structure U7 (P:Program) (T kt et:TypeId) (K:Value→Prop):Prop where
 map:iQ P T=some (kt,et)
 desc:∃ d,P.underlying kt=some d∧∀ a b,K a→K b→∃ q:Bool,Instr.sameNow d a b=some q∧(q=true↔a=b)
 ok:∀ a,K a→tS P kt a=true
 bits:∀ a,K a→Instr.sameBits 10000 a a=true
def Jd (k:IntKind) (v:Value):Prop:=∃ n,v = .int k n
theorem Qw {P:Program} {T kt et:TypeId} {k:IntKind} (h1:iQ P T=some (kt,et)) (h2:P.underlying kt=some (.int k)):U7 P T kt et (Jd k):=by
 refine⟨h1,⟨_,h2,?_⟩,?_,?_⟩;·rintro _ _ ⟨a,rfl⟩ ⟨b,rfl⟩;exact⟨a==b,by simp [Instr.sameNow],by simp⟩
 ·rintro _ ⟨a,rfl⟩;unfold tS;rw [h2]
 rintro _ ⟨a,rfl⟩;simp [Instr.sameBits]
section
variable {P:Program} {T kt et:TypeId} {K:Value→Prop}
theorem yq {d:TypeDesc} (hd:∀ a b,K a→K b→∃ q:Bool,Instr.sameNow d a b=some q∧(q=true↔a=b)) {k:Value} (hk:K k):∀ (dx:List (Value×Nat×V)) (n:Nat),(∀ e∈dx,K e.1) →
  (gi d k dx n=some none∧∀ e∈dx,e.1≠k)∨∃ i e,dx[i]?=some e∧e.1=k∧gi d k dx n=some (some (n+i,e.2.2))
 | [],n,_=>.inl ⟨rfl,by simp⟩
 | e :: r,n,h=>by
  obtain⟨q,h1,hq⟩:=hd k e.1 hk (h e (by simp))
  by_cases he:k=e.1
  ·refine .inr ⟨0,e,rfl,he.symm,?_⟩
   rw [hq.2 he] at h1
   simp only [gi,h1,jW]
  obtain rfl:q=false:=by cases q <;> first|rfl|exact absurd (hq.1 rfl) he
  rcases yq hd hk r (n+1) (fun e' YE=>h e' (by simp [YE])) with ⟨h2,h3⟩|⟨i,e',h2,h3,h4⟩
  ·refine .inl ⟨?_,fun e' YE=>?_⟩
   ·simp only [gi,h1];exact h2
   rcases b8.1 YE with rfl|YE
   ·exact fun e=>he e.symm
   exact h3 e' YE
  refine .inr ⟨i+1,e',by simpa using h2,h3,?_⟩
  simp only [gi,h1]
  rw [h4,show n+1+i=n+(i+1) by omega]
theorem M3 (hT:U7 P T kt et K) {k:Value} (hk:K k) (dx:List (Value×Nat×V)) (h:∀ e∈dx,K e.1) :
  (pe P kt k dx=some none∧∀ e∈dx,e.1≠k)∨∃ i e,dx[i]?=some e∧e.1=k∧pe P kt k dx=some (some (i,e.2.2)):=by
 obtain⟨d,hd,hs⟩:=hT.desc;unfold pe;rw [hd];dsimp only;rcases yq hs hk dx 0 h with ⟨h1,h2⟩|⟨i,e,h1,h2,h3⟩
 ·rw [h1];exact .inl ⟨rfl,h2⟩
 rw [h3];exact .inr ⟨i,e,h1,h2,by simp⟩
theorem Je (hT:U7 P T kt et K) {k:Value} (hk:K k) (ht:fa (.sc k)=some k) {mem:List bf} {b:Nat} {dx:List (Value×Nat×V)} {cl:Nat} (hm:mem[b]?=some (.map dx cl)) (h:∀ e∈dx,K e.1) {z:V} (hz:zeroV P et=some z) (ok:Bool) :
  (j0 P mem T (.mp b) (.sc k) ok=some (WH ok false z)∧∀ e∈dx,e.1≠k)∨∃ e∈dx,e.1=k∧j0 P mem T (.mp b) (.sc k) ok=some (WH ok true e.2.2):=by
 have hl:j0 P mem T (.mp b) (.sc k) ok=pf P mem kt et (.mp b) k ok:=by unfold j0;rw [hT.map];dsimp only;rw [ht];dsimp only;rw [if_pos (hT.ok k hk)]
 rw [hl];unfold pf;dsimp only;rw [hm];dsimp only;rcases M3 hT hk dx h with ⟨h1,h2⟩|⟨i,e,h1,h2,h3⟩
 ·rw [h1];dsimp only;rw [hz];exact .inl ⟨rfl,h2⟩
 rw [h3];exact .inr ⟨e,aE h1,h2,rfl⟩
end
end Go.Eng
end
section
namespace Go.Eng
variable [ba]
end Go.Eng
end
