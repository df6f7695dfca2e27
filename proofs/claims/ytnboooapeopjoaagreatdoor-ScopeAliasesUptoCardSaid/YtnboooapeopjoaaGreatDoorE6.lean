import Derived.Test.YtnboooapeopjoaaGreatDoorE5
import Derived.Lib.Agree
open Bool renaming false_eq_true→b9
open ByteArray renaming ext→anB
open List renaming all_eq_true→aY,drop_succ_cons→am6,ext_getElem?→di,getD_eq_getElem?_getD→eH,getElem?_cons_succ→mg,getElem?_cons_zero→fb,getElem?_eq_getElem→ah,getElem?_eq_none→dF,getElem?_eq_some_iff→ax,getElem?_map→ae,getElem?_range→an1,getElem?_set→bw,mem_cons→cp,mem_of_getElem?→ay,take_succ_cons→U0
open Nat renaming add_zero→jS,zero_add→ct
open Option renaming isNone_none→Yy,map_eq_some_iff→br,map_some→bz
set_option linter.all false
section
namespace Go.Eng
variable [a6]
theorem Cr {P:Program} {tt:Table} {all:Array Oper} {K:St→Prop}:∀ (k:Nat) (l:List Oper) (st:St),fq P tt all (l.take k) st (fun s=>fq P tt all (l.drop k) s K)=fq P tt all l st K
 | 0,l,st=>rfl
 | k+1,[],st=>rfl
 | k+1,o :: r,st=>by
  have ih:=fun s=>Cr (P:=P) (tt:=tt) (all:=all) (K:=K) k r s
  simp only [U0,am6,fq,ih]

def Gg (t:Nat) (b:V):List (Nat×V)→V
 | []=>b
 | p :: ws=>if p.1=t then p.2 else Gg t b ws
def wr (n:Nat) (l:List V) (ws:List (Nat×V)):List V:=(List.range n).map fun i=>Gg i (l.getD i .undef) ws
theorem sN (n:Nat) (l:List V) (ws:List (Nat×V)) (t:Nat):(wr n l ws)[t]?=if t<n then some (Gg t (l.getD t .undef) ws) else none:=by
 unfold wr;rw [ae];by_cases h:t<n;·rw [if_pos h,an1 h]; rfl
 rw [if_neg h,dF (by simp; omega)]; rfl
theorem RM (n:Nat) (l:List V) (ws:List (Nat×V)) (t:Nat):(wr n l ws).getD t .undef=if t<n then Gg t (l.getD t .undef) ws else .undef:=by rw [eH,sN]; split <;> rfl
theorem vC (n:Nat) (l:List V) (ws:List (Nat×V)):(wr n l ws).length=n:=by simp [wr]
theorem Wd (n:Nat) (l:List V) (ws:List (Nat×V)) (d:Nat) (v:V):(wr n l ws).set d v=wr n l ((d,v) :: ws):=by
 apply di;intro i;rw [bw,sN,sN,vC];simp only [Gg];by_cases h:d=i;·subst h; simp
 simp [h]
theorem MX {n:Nat} {l:List V} (h:l.length=n):wr n l []=l:=by
 apply di;intro i;rw [sN];simp only [Gg];split;·rename_i hi;rw [eH,ah (by omega)]; rfl
 rw [dF (by omega)]
def ua (ws:List (Nat×V)):Nat→List Nat→List V→List V
 | _,_,[]=>[]
 | _,[],v :: l=>v :: l
 | i,c :: cs,v :: l=>(match c with | 0=>v | 1=>.undef | _=>Gg i v ws) :: ua ws (i+1) cs l
def qC (cs:List Nat) (ws:List (Nat×V)):Bool:=ws.all fun p=>match cs[p.1]? with | some 0=>false | none=>false | _=>true
theorem Ew {t:Nat} {b:V}:∀ {ws:List (Nat×V)},(∀ p∈ws,p.1≠t)→Gg t b ws=b
 | [],_=>rfl
 | p :: ws,h=>by
  simp only [Gg,if_neg (h p (by simp))]
  exact Ew fun q hq=>h q (by simp [hq])
theorem pn {cs:List Nat} {ws:List (Nat×V)} (h:qC cs ws=true) {i:Nat} (hi:cs[i]?=some 0∨cs[i]?=none) (b:V):Gg i b ws=b:=by refine Ew fun p hp e=>?_;have:=aY.1 h p hp;rw [e] at this;rcases hi with hi | hi <;> rw [hi] at this <;> cases this
theorem Cs (ws:List (Nat×V)):∀ (l:List V) (cs:List Nat) (k i:Nat),(ua ws k cs l)[i]?=l[i]?.map fun v=>match cs[i]? with | none=>v | some 0=>v | some 1=>.undef | _=>Gg (k+i) v ws
 | [],cs,k,i=>by simp [ua]
 | v :: l,[],k,i=>by simp [ua]
 | v :: l,c :: cs,k,0=>by
  simp only [ua,fb,bz,jS]
  rcases c with _ | _ | c <;> rfl
 | v :: l,c :: cs,k,i+1=>by
  simp only [ua,mg]
  rw [Cs ws l cs (k+1) i,show k+1+i=k+(i+1) by omega]
theorem MY {ws:List (Nat×V)} {l:List V} {cs:List Nat} (hk:qC cs ws=true) {i:Nat} {v:V} (h:(ua ws 0 cs l)[i]?=some v):v = .undef∨(wr l.length l ws)[i]?=some v:=by
 rw [Cs,br] at h;obtain⟨b,hb,hv⟩:=h;have hi:=(ax.1 hb).1;have hd:l.getD i .undef=b:=by rw [eH,hb]; rfl
 rw [sN,if_pos hi,hd];rw [ct] at hv;revert hv;cases hc:cs[i]? with | none=>intro hv; right; rw [pn hk (.inr hc)]; exact congrArg some hv | some c =>(rcases c with _ | _ | c);(·intro hv; right; rw [pn hk (.inl hc)]; exact congrArg some hv);(·intro hv; left; exact hv.symm);intro hv; right; exact congrArg some hv
theorem yH (ws:List (Nat×V)):∀ (l:List V) (cs:List Nat) (k:Nat),(ua ws k cs l).length=l.length
 | [],cs,k=>by simp [ua]
 | v :: l,[],k=>by simp [ua]
 | v :: l,c :: cs,k=>by simp [ua,yH ws l cs (k+1)]
theorem RO {E:Env} {ws:List (Nat×V)} {l:List V} {cs:List Nat} {xs:List Value} (hk:qC cs ws=true) (h:cz E (wr l.length l ws) xs):cz E (ua ws 0 cs l) xs:=by
 refine⟨by rw [yH,← h.1,vC],fun i v x hv hx=>?_⟩;rcases MY hk hv with rfl | h1
 ·exact .undef _ _
 exact h.2 i v x h1 hx
theorem We {ws:List (Nat×V)} {l:List V} {cs:List Nat} (hk:qC cs ws=true) (h1:cs.all (· != 1)=true):ua ws 0 cs l=wr l.length l ws:=by
 apply di;intro i;rw [Cs,sN];by_cases hi:i<l.length;·rw [if_pos hi,ah hi,bz];(have hd:l.getD i .undef=l[i]:=by rw [eH,ah hi]; rfl);rw [hd,ct];congr 1;cases hc:cs[i]? with | none=>exact (pn hk (.inr hc) _).symm | some c =>(rcases c with _ | _ | c);(·exact (pn hk (.inl hc) _).symm);(·have:=aY.1 h1 1 (ay hc);simp at this);rfl
 rw [if_neg hi,dF (show l.length≤i by omega)]; rfl

def gT (j:Nat):List (Nat×Nat)→Option Nat
 | []=>none
 | p :: r=>if p.1=j then some p.2 else gT j r
def Wf (all:Array Oper) (gl:List (Nat×Nat)):Bool:=gl.all fun p=>(match (all[p.1]?).bind (·.dst) with | some d=>decide (d=p.2) | none=>false)
def MZ (want:Bool):Option V→Option Bool
 | some (.sc (.bool b))=>some (b==want)
 | some (.sc _)=>some false
 | some _=>none
 | none=>some false
def rA (gl:List (Nat×Nat)) (all:Array Oper) (fr:List V) (o:Oper):Option Bool :=
 match o.guard with
 | none=>some true
 | some (j,want)=>match gT j gl with
  | none=>fE all fr o
  | some d=>MZ want fr[d]?
theorem Ug {all:Array Oper}:∀ {gl:List (Nat×Nat)},Wf all gl=true→∀ {j d:Nat},gT j gl=some d→(all[j]?).bind (·.dst)=some d
 | [],_,j,d,h=>by cases h
 | p :: r,hg,j,d,h=>by
  have h1:=aY.1 hg p (by simp)
  simp only [gT] at h
  split at h
  ·rename_i e
   cases h
   rw [e] at h1
   cases hd:(all[j]?).bind (·.dst) with
   | none=>rw [hd] at h1; cases h1
   | some d=>rw [hd] at h1; exact congrArg some (of_decide_eq_true h1)
  exact Ug (aY.2 fun q hq=>aY.1 hg q (by simp [hq])) h
theorem Ha {all:Array Oper} {gl:List (Nat×Nat)} (hg:Wf all gl=true) (fr:List V) (o:Oper):rA gl all fr o=fE all fr o:=by unfold rA;cases ho:o.guard with | none=>unfold fE; rw [ho] | some g =>obtain⟨j,want⟩:=g;simp only;cases ht:gT j gl with | none=>rfl | some d =>have:=Ug hg ht;unfold fE;rw [ho];simp only [this];unfold MZ;cases fr[d]? with | none=>rfl | some v =>cases v with | sc x=>cases x <;> rfl | _=>rfl
def fF (P:Program) (tt:Table) (gl:List (Nat×Nat)) (all:Array Oper):List Oper→St→(St→Prop)→Prop
 | [],st,Q=>Q st
 | o :: r,st,Q=>match rA gl all st.fr o with
  | some true=>c8 P tt st.mem.length o st fun st'=>fF P tt gl all r st' Q
  | some false=>fF P tt gl all r (st.put o.dst (.sc undef)) Q
  | none=>False
@[congr] theorem QN {P:Program} {tt:Table} {gl:List (Nat×Nat)} {all:Array Oper} {l l':List Oper} {st st':St} {Q:St→Prop} (hl:l=l') (h:st=st'):fF P tt gl all l st Q=fF P tt gl all l' st' Q:=by rw [hl,h]
theorem sO {P:Program} {tt:Table} {gl:List (Nat×Nat)} {all:Array Oper} (hg:Wf all gl=true) {Q:St→Prop}:∀ (l:List Oper) (st:St),fF P tt gl all l st Q=fq P tt all l st Q
 | [],st=>rfl
 | o :: r,st=>by
  have ih:=fun s=>sO (P:=P) (tt:=tt) (Q:=Q) hg r s
  simp only [fF,fq,Ha hg,ih]
  rfl
theorem sn {P:Program} {tt:Table} {gl:List (Nat×Nat)} {all:Array Oper} {K:St→Prop}:∀ (k:Nat) (l:List Oper) (st:St),fF P tt gl all (l.take k) st (fun s=>fF P tt gl all (l.drop k) s K)=fF P tt gl all l st K
 | 0,l,st=>rfl
 | k+1,[],st=>rfl
 | k+1,o :: r,st=>by
  have ih:=fun s=>sn (P:=P) (tt:=tt) (gl:=gl) (all:=all) (K:=K) k r s
  simp only [U0,am6,fF,ih]
theorem mv {P:Program} {tt:Table} {gl:List (Nat×Nat)} {all:Array Oper} (k:Nat) {l:List Oper} {st:St} {K:St→Prop}
  (h:∀ K1:St→Prop,(∀ s,fF P tt gl all (l.drop k) s K→K1 s)→fF P tt gl all (l.take k) st K1):fF P tt gl all l st K:=by rw [← sn k];exact h _ fun _ h=>h
section
variable {P:Program} {tt:Table} {ρ:Option Nat} {n0:Nat} {Q:Exit→St→Prop} {l:List V} {mem:List ba}
theorem RP {c:Code} {cs:List Nat} {ws:List (Nat×V)} (hk:qC cs ws=true) (h:dN P ρ n0 c { fr:=ua ws 0 cs l,mem:=mem } Q):dN P ρ n0 c { fr:=wr l.length l ws,mem:=mem } Q :=
 qu (st' := { fr:=ua ws 0 cs l,mem:=mem }) (fun E w a hs=>⟨hs.F,hs.lt,hs.mem,hs.top,hs.dw,hs.apart,RO hk hs.fr⟩) h
theorem lR (ht:TT P tt) (n:Nat) (cs:List Nat) (gl:List (Nat×Nat)) (hn:l.length=n) {id:Nat} {ops:Array Oper} {y:Code} (hg:Wf ops gl=true)
  (h:∀ K:St→Prop,(∀ ws bM,qC cs ws=true→dN P ρ n0 y { fr:=ua ws 0 cs l,mem:=bM } Q→K { fr:=wr n l ws,mem:=bM })→fF P tt gl ops ops.toList { fr:=wr n l [],mem:=mem } K) :
  dN P ρ n0 (.seq (.region id ops false) y) { fr:=l,mem:=mem } Q:=by subst hn;refine af ht fun K hK=>?_;have:=h K fun ws bM hk ht=>hK _ (RP hk ht);rw [sO hg,MX rfl] at this;exact this
theorem ub (ht:TT P tt) (n:Nat) (cs:List Nat) (gl:List (Nat×Nat)) (hn:l.length=n) (h1:cs.all (· != 1)=true) {id:Nat} {ops:Array Oper} (hg:Wf ops gl=true)
  (h:∀ K:St→Prop,(∀ ws bM,qC cs ws=true→Q .normal { fr:=ua ws 0 cs l,mem:=bM }→K { fr:=wr n l ws,mem:=bM })→fF P tt gl ops ops.toList { fr:=wr n l [],mem:=mem } K) :
  dN P ρ n0 (.region id ops false) { fr:=l,mem:=mem } Q:=by subst hn;refine aV ht fun K hK=>?_;have:=h K fun ws bM hk ht=>hK _ (by rw [← We hk h1]; exact ht);rw [sO hg,MX rfl] at this;exact this
end
attribute [irreducible] fF
end Go.Eng
end

section
namespace Go.Eng
variable [a6]
def Ex (P:Program) (ρ:Option Nat) (n0:Nat) (c:Code) (st:St) (Q:Exit→St→Prop):Prop :=
  ∃ (e:Exit) (s:St),Q e s∧∀ Q':Exit→St→Prop,Q' e s→dN P ρ n0 c st Q'
section
variable {P:Program} {tt:Table} {ρ:Option Nat} {n0:Nat} {st:St} {Q:Exit→St→Prop}
theorem Ex.mono {c:Code} {Q2:Exit→St→Prop} (h:Ex P ρ n0 c st Q) (hq:∀ e s,Q e s→Q2 e s):Ex P ρ n0 c st Q2:=by obtain⟨e,s,h1,h⟩:=h;exact⟨e,s,hq _ _ h1,h⟩
theorem Ct (h:Q .normal st):Ex P ρ n0 .skip st Q:=⟨_,_,h,fun _ h=>bZ h⟩
theorem M0 (h:Q .ret st):Ex P ρ n0 .ret st Q:=⟨_,_,h,fun _ h=>bK h⟩
theorem IW {id:Nat} (h:Q (.exit id) st):Ex P ρ n0 (.exit id) st Q:=⟨_,_,h,fun _ h=>dZ h⟩
theorem yI {x y:Code} (h:Ex P ρ n0 x st (gz (fun st'=>Ex P ρ n0 y st' Q) Q)):Ex P ρ n0 (.seq x y) st Q:=by obtain⟨e,s,hq,h⟩:=h;cases e with | normal =>obtain⟨e2,s2,Vf,h2⟩:=hq;exact⟨e2,s2,Vf,fun Q' h'=>bj (h _ (h2 Q' h'))⟩ | _=>exact⟨_,s,hq,fun Q' h'=>bj (h (gz (fun st'=>dN P ρ n0 y st' Q') Q') h')⟩
theorem IX {c:Operand} {x y:Code} {b:Bool} (hc:st.eval c = .sc (.bool b)) (h:Ex P ρ n0 (if b=true then x else y) st Q):Ex P ρ n0 (.cond c x y) st Q:=by obtain⟨e,s,hq,h⟩:=h;exact⟨e,s,hq,fun Q' h'=>aU hc (h Q' h')⟩
theorem aan {c:Operand} {x y:Code} {b:Bool} (hc:st.eval c = .sc (.bool b)) (h1:b=true→Ex P ρ n0 x st Q) (h2:b=false→Ex P ρ n0 y st Q):Ex P ρ n0 (.cond c x y) st Q:=by refine IX hc ?_;cases b with | true=>exact h1 rfl | false=>exact h2 rfl
theorem yJ {id:Nat} {c:Code} (h:Ex P ρ n0 c st (jC id Q)):Ex P ρ n0 (.block id c) st Q:=by obtain⟨e,s,hq,h⟩:=h;cases e with | exit j =>(by_cases hj:j=id;(·simp only [jC,if_pos hj] at hq;exact⟨_,s,hq,fun Q' h'=>bP (h (jC id Q') (by simpa only [jC,if_pos hj] using h'))⟩);·simp only [jC,if_neg hj] at hq;exact⟨_,s,hq,fun Q' h'=>bP (h (jC id Q') (by simpa only [jC,if_neg hj] using h'))⟩) | _=>exact⟨_,s,hq,fun Q' h'=>bP (h (jC id Q') h')⟩
theorem Hb {c:Code} {m:Nat} {Q':Exit→St→Prop} (n:Nat) (mk:List Bool) (hn:n0≤n) (hf:(bp mk st.fr).all (aH n)=true) (hm:(st.mem.take n).all (aI n)=true)
    (h:k9 P ρ n0 c m { fr:=bp mk st.fr,mem:=st.mem.take n } Q'):k9 P ρ n0 c m st Q':=by cases m with | zero=>exact h.elim | succ m=>exact oE n mk hn hf hm h
theorem Ey {c:Code} (I:Nat→St→Prop) (N:Nat) (h0:D0 n0 st (I N))
    (step:∀ n st,I n st→Ex P ρ n0 c st (gz (fun st'=>∃ k,k<n∧D0 n0 st' (I k)) Q)):Ex P ρ n0 (.loop c) st Q:=by
  have key:∀ (n:Nat) (st:St),I n st→∃ (e:Exit) (s:St),Q e s∧∀ Q':Exit→St→Prop,Q' e s→∃ m,k9 P ρ n0 c m st Q':=by intro n;induction n using Nat.strongRecOn with | _ n ih =>intro st hI;obtain⟨e,s,hq,h⟩:=step n st hI;cases e with | normal =>obtain⟨k,hk,n1,mk,h1,h2,h3,h4⟩:=hq;obtain⟨e2,s2,Vf,h5⟩:=ih k hk _ h4;refine⟨e2,s2,Vf,fun Q' h'=>?_⟩;obtain⟨m,h6⟩:=h5 Q' h';exact⟨m+1,h _ (Hb n1 mk h1 h2 h3 h6)⟩ | _=>exact⟨_,s,hq,fun Q' h'=>⟨1,h (gz (fun st'=>k9 P ρ n0 c 0 st' Q') Q') h'⟩⟩
  obtain⟨n1,mk,h1,h2,h3,h4⟩:=h0;obtain⟨e,s,hq,h⟩:=key N _ h4;exact⟨e,s,hq,fun Q' h'=>oE n1 mk h1 h2 h3 (D1 (h Q' h'))⟩

def Ez (P:Program) (f:FuncId) (vs vs':List V) (keys:List (Nat×Nat)) (st:St) (dst:Option Tmp) (Q:St→Prop):Prop :=
  ∃ v,(bG P f vs' v∧Q ({ st with mem:=fQ st.mem keys v }.put dst v))∨(qo P f vs v∧Q (st.put dst v))∨∃ m',bk P f vs st.mem v m'∧Q ({ st with mem:=m' }.put dst v)
def Uh (P:Program) (f:FuncId) (vs:List V) (st:St) (dst:Option Tmp) (Q:St→Prop):Prop :=
  ∃ v m',bk P f vs st.mem v m'∧Q ({ st with mem:=m' }.put dst v)
def IY (P:Program) (f:FuncId) (vs:List V) (st:St) (dst:Option Tmp) (Q:St→Prop):Prop :=
  match fh st.mem vs with
  | some vs'=>Ez P f vs vs' (vs.flatMap eR) st dst Q
  | none=>Uh P f vs st dst Q
@[congr] theorem Ui {f f':FuncId} {us Mb vs vs':List V} {keys Uj:List (Nat×Nat)} {st st':St} {dst:Option Tmp} {Q:St→Prop} (hf:f=f') (hu:us=Mb) (hv:vs=vs') (hk:keys=Uj) (h:st=st'):Ez P f us vs keys st dst Q=Ez P f' Mb vs' Uj st' dst Q:=by rw [hf,hu,hv,hk,h]
def mV (P:Program) (tt:Table) (key:Nat) (o:Oper) (st:St) (Q:St→Prop):Prop :=
  match o.op with
  | .alloc T=>match tt T with
    | some i=>Q ({ st with mem:=c7 st.mem key (.box (i.zero.map V.sc)) }.put o.dst (.ptr key 0))
    | none=>False
  | .box _ x=>match k7 (st.eval x) with
    | some cs=>Q ({ st with mem:=c7 st.mem key (.box cs) }.put o.dst (.ptr key 0))
    | none=>False
  | .build T parts=>match mH P tt T parts.toList st.eval with
    | some v=>Q (st.put o.dst v)
    | none=>False
  | .buildSlice T len parts=>match vl tt T len parts.toList st.eval with
    | some (size,rs)=>Q ({ st with mem:=c7 st.mem key (.rows 0 size rs) }.put o.dst (.ms key 0 0 len))
    | none=>False
  | .store T p x=>match mG tt st.mem T (st.eval p) (st.eval x) with
    | some bM=>Q ({ st with mem:=bM }.put o.dst (.sc undef))
    | none=>False
  | .call c=>match c.callee with
    | .value f=>match cP (st.eval f) (c.args.toList.map st.eval) with
      | some (g,vs)=>IY P g vs st o.dst Q
      | none=>False
    | .builtin .append=>match c.args.toList.map st.eval with
      | [s,x]=>match iw tt st.mem c.argTypes.toList s x with
        | some (size,sD,rows)=>Q ({ st with mem:=(fM st.mem key size rows sD).1 }.put o.dst (fM st.mem key size rows sD).2)
        | none=>False
      | _=>False
    | .builtin .len=>match lr P tt st o with
      | some v=>Q (st.put o.dst v)
      | none=>False
    | .builtin .max=>match lr P tt st o with
      | some v=>Q (st.put o.dst v)
      | none=>False
    | .builtin .min=>match lr P tt st o with
      | some v=>Q (st.put o.dst v)
      | none=>False
    | _=>False
  | .makeMap _ none=>Q ({ st with mem:=c7 st.mem key (.map [] 0) }.put o.dst (.mp key))
  | .makeSlice T l c=>match wy tt T (st.eval l) (st.eval c) with
    | some (size,rs,_)=>Q ({ st with mem:=c7 st.mem key (.rows 0 size rs) }.put o.dst (.ms key 0 0 rs.length))
    | none=>False
  | .mapUpdate T m k x=>match dt P st.mem T (st.eval m) (st.eval k) (st.eval x) with
    | some bM=>Q ({ st with mem:=bM }.put o.dst (.sc undef))
    | none=>False
  | .insert T m k x=>match dt P st.mem T (st.eval m) (st.eval k) (st.eval x) with
    | some bM=>Q ({ st with mem:=bM }.put o.dst (.sc undef))
    | none=>False
  | .binOp op T x y _=>match od tt op T (st.eval x) (st.eval y) with
    | some _=>False
    | none=>match lr P tt st o with
      | some v=>Q (st.put o.dst v)
      | none=>False
  | .move _=>match lr P tt st o with
    | some v=>Q (st.put o.dst v)
    | none=>False
  | .assign _=>match lr P tt st o with
    | some v=>Q (st.put o.dst v)
    | none=>False
  | .pick _ _ _=>match lr P tt st o with
    | some v=>Q (st.put o.dst v)
    | none=>False
  | .load _ _=>match lr P tt st o with
    | some v=>Q (st.put o.dst v)
    | none=>False
  | .nilCheck _=>match lr P tt st o with
    | some v=>Q (st.put o.dst v)
    | none=>False
  | .unOp _ _ _=>match lr P tt st o with
    | some v=>Q (st.put o.dst v)
    | none=>False
  | .convert _ _ _=>match lr P tt st o with
    | some v=>Q (st.put o.dst v)
    | none=>False
  | .makeFunc _ _ _=>match lr P tt st o with
    | some v=>Q (st.put o.dst v)
    | none=>False
  | .slice _ _ _ _ _=>match lr P tt st o with
    | some v=>Q (st.put o.dst v)
    | none=>False
  | .fieldAddr _ _ _=>match lr P tt st o with
    | some v=>Q (st.put o.dst v)
    | none=>False
  | .indexAddr _ _ _=>match lr P tt st o with
    | some v=>Q (st.put o.dst v)
    | none=>False
  | .field _ _ _=>match lr P tt st o with
    | some v=>Q (st.put o.dst v)
    | none=>False
  | .index _ _ _=>match lr P tt st o with
    | some v=>Q (st.put o.dst v)
    | none=>False
  | .extract _ _=>match lr P tt st o with
    | some v=>Q (st.put o.dst v)
    | none=>False
  | .lookup _ _ _ _=>match lr P tt st o with
    | some v=>Q (st.put o.dst v)
    | none=>False
  | _=>False
@[congr] theorem Uk {key aao:Nat} {o:Oper} {st st':St} {Q:St→Prop} (hk:key=aao) (h:st=st'):mV P tt key o st Q=mV P tt aao o st' Q:=by rw [hk,h]
theorem M1 {key:Nat} {o:Oper} {Q:St→Prop} (h:mV P tt key o st Q):∃ s,Q s∧∀ K:St→Prop,K s→c8 P tt key o st K:=by
  obtain⟨dst,op,type,pos,after,guard⟩:=o;cases op
  case call c =>
    obtain⟨callee,args,ats⟩:=c
    cases callee
    case value f =>
      simp only [mV] at h
      split at h
      · rename_i g vs hg
        unfold IY at h
        split at h
        · rename_i vs' hp
          obtain⟨v,⟨h1,h2⟩ | ⟨h1,h2⟩ | ⟨m',h1,h2⟩⟩:=h
          · refine⟨_,h2,fun K hK=>?_⟩
            simp only [c8]
            split
            · rename_i k hy; rw [hy] at hg; simp [cP] at hg
            · rw [hg]; exact .inl ⟨vs',v,hp,h1,hK⟩
          · refine⟨_,h2,fun K hK=>?_⟩
            simp only [c8]
            split
            · rename_i k hy; rw [hy] at hg; simp [cP] at hg
            · rw [hg]; exact .inr (.inr (.inr ⟨v,h1,hK⟩))
          · refine⟨_,h2,fun K hK=>?_⟩
            simp only [c8]
            split
            · rename_i k hy; rw [hy] at hg; simp [cP] at hg
            · rw [hg]; exact .inr (.inl ⟨v,m',h1,hK⟩)
        · obtain⟨v,m',h1,h2⟩:=h
          refine⟨_,h2,fun K hK=>?_⟩
          simp only [c8]
          split
          · rename_i k hy; rw [hy] at hg; simp [cP] at hg
          · rw [hg]; exact .inr (.inl ⟨v,m',h1,hK⟩)
      · exact h.elim
    case builtin b =>
      cases b
      case append =>
        simp only [mV] at h
        split at h
        · rename_i s x Q8
          split at h
          · rename_i size sD rows ha
            refine⟨_,h,fun K hK=>?_⟩
            simp only [c8,Q8,ha]
            exact hK
          · exact h.elim
        · exact h.elim
      all_goals first
        | exact h.elim
        | (simp only [mV] at h
           split at h
           · rename_i v hv
             refine⟨_,h,fun K hK=>?_⟩
             simp only [c8,hv]
             exact hK
           · exact h.elim)
    all_goals exact h.elim
  case binOp =>
    simp only [mV] at h
    split at h
    · exact h.elim
    · rename_i hn
      split at h
      · rename_i v hv
        refine⟨_,h,fun K hK=>?_⟩
        simp only [c8,hn,hv]
        exact hK
      · exact h.elim
  case buildSlice =>
    simp only [mV] at h
    split at h
    · rename_i size rs hl
      refine⟨_,h,fun K hK=>?_⟩
      simp only [c8,hl]
      exact hK
    · exact h.elim
  case store =>
    simp only [mV] at h
    split at h
    · rename_i m hl
      refine⟨_,h,fun K hK=>?_⟩
      simp only [c8,hl]
      exact hK
    · exact h.elim
  case makeSlice T l c =>
    simp only [mV] at h
    split at h
    · rename_i size rs c' hl
      refine⟨_,h,fun K hK=>?_⟩
      simp only [c8,hl]
      exact hK
    · exact h.elim
  case makeMap T l =>
    cases l with
    | none=>exact⟨_,h,fun K hK=>hK⟩
    | some l=>exact h.elim
  all_goals first
    | exact h.elim
    | (simp only [mV] at h
       split at h
       · rename_i v hv
         refine⟨_,h,fun K hK=>?_⟩
         simp only [c8,hv]
         exact hK
       · exact h.elim)
def qD (P:Program) (tt:Table) (gl:List (Nat×Nat)) (all:Array Oper):List Oper→St→(St→Prop)→Prop
  | [],st,Q=>Q st
  | o :: r,st,Q=>match rA gl all st.fr o with
    | some true=>mV P tt st.mem.length o st fun st'=>qD P tt gl all r st' Q
    | some false=>qD P tt gl all r (st.put o.dst (.sc undef)) Q
    | none=>False
@[congr] theorem Wg {gl:List (Nat×Nat)} {all:Array Oper} {l l':List Oper} {st st':St} {Q:St→Prop} (hl:l=l') (h:st=st'):qD P tt gl all l st Q=qD P tt gl all l' st' Q:=by rw [hl,h]
theorem xD {gl:List (Nat×Nat)} {all:Array Oper} {Q:St→Prop}:∀ (l:List Oper) (st:St),qD P tt gl all l st Q→∃ s,Q s∧∀ K:St→Prop,K s→fF P tt gl all l st K
  | [],st,h=>⟨st,h,fun K hK=>by rw [fF]; exact hK⟩
  | o :: r,st,h=>by
    rw [qD] at h
    split at h
    · rename_i hw
      obtain⟨s,h1,h2⟩:=M1 h
      obtain⟨s2,h3,h4⟩:=xD r s h1
      exact⟨s2,h3,fun K hK=>by rw [fF,hw]; exact h2 _ (h4 K hK)⟩
    · rename_i hw
      obtain⟨s2,h3,h4⟩:=xD r _ h
      exact⟨s2,h3,fun K hK=>by rw [fF,hw]; exact h4 K hK⟩
    · exact h.elim
theorem yK {gl:List (Nat×Nat)} {all:Array Oper} {K:St→Prop}:∀ (k:Nat) (l:List Oper) (st:St),qD P tt gl all (l.take k) st (fun s=>qD P tt gl all (l.drop k) s K)=qD P tt gl all l st K
  | 0,l,st=>rfl
  | k+1,[],st=>rfl
  | k+1,o :: r,st=>by
    have ih:=fun s=>yK (gl:=gl) (all:=all) (K:=K) k r s
    simp only [U0,am6,qD,ih]
theorem M3 {gl:List (Nat×Nat)} {all:Array Oper} (k:Nat) {l:List Oper} {st:St} {K:St→Prop}
    (h:∀ K1:St→Prop,(∀ s,qD P tt gl all (l.drop k) s K→K1 s)→qD P tt gl all (l.take k) st K1):qD P tt gl all l st K:=by rw [← yK k];exact h _ fun _ h=>h
theorem M4 {R:V→Prop} {f:FuncId} {vs vs':List V} {keys:List (Nat×Nat)} {dst:Option Tmp} {Q:St→Prop} (hr:∃ v,R v∧bG P f vs' v) (h:∀ v,R v→Q ({ st with mem:=fQ st.mem keys v }.put dst v)):Ez P f vs vs' keys st dst Q:=by obtain⟨v,h1,h2⟩:=hr;exact⟨v,.inl ⟨h2,h v h1⟩⟩
theorem M5 {f:FuncId} {fn:Func} {ext:Array Value→Sem Value} (hf:P.funcs[f]?=some fn) (hn:(fn.name == "runtime.NumGoroutine")=false) (hb:fn.body=none) (MS:Extern.findNext fn=none) (DB:Extern.find fn=some ext)
    {vs:List V} {l:List Value} (hl:oa vs=some l) {v:Value} (fZ:∀ w,(ext l.toArray).run P w = .ok v w):qo P f vs (kx v):=fun E w xs hF hx=>by
  have u6:=o1 hx hl
  refine⟨v,?_,kj E v⟩
  have hr:=fZ w
  rw [← u6] at hr
  simp only [callFunc,program,Sem.run_bind]
  show (match P.funcs[f]? with | none=>_ | some fn=>_:Sem Next).run P w=_
  rw [hf]
  dsimp only
  rw [hn,hb]
  simp only [b9,if_false,Yy,if_true,MS,DB,Sem.run_bind,mark,Sem.run,Result.andThen_ok]
  have Dq:(ext xs).run P w = .ok v w:=by simpa using hr
  rw [Dq]; rfl
theorem kO (ht:TT P tt) (n:Nat) (cs:List Nat) (gl:List (Nat×Nat)) {l:List V} {mem:List ba} (hn:l.length=n) {id:Nat} {ops:Array Oper} {y:Code} (hg:Wf ops gl=true)
    (h:∀ K:St→Prop,(∀ ws bM,qC cs ws=true→Ex P ρ n0 y { fr:=ua ws 0 cs l,mem:=bM } Q→K { fr:=wr n l ws,mem:=bM })→qD P tt gl ops ops.toList { fr:=wr n l [],mem:=mem } K) :
    Ex P ρ n0 (.seq (.region id ops false) y) { fr:=l,mem:=mem } Q:=by obtain⟨s,⟨ws,bM,rfl,hk,e,s2,hq,h2⟩,hr⟩:=xD _ _ (h (fun s=>∃ ws bM,s = { fr:=wr n l ws,mem:=bM }∧qC cs ws=true∧Ex P ρ n0 y { fr:=ua ws 0 cs l,mem:=bM } Q) fun ws bM hk he=>⟨ws,bM,rfl,hk,he⟩);exact⟨e,s2,hq,fun Q' h'=>lR ht n cs gl hn hg fun K hK=>hr K (hK ws bM hk (h2 Q' h'))⟩
theorem oO (ht:TT P tt) (n:Nat) (cs:List Nat) (gl:List (Nat×Nat)) {l:List V} {mem:List ba} (hn:l.length=n) (h1:cs.all (· != 1)=true) {id:Nat} {ops:Array Oper} (hg:Wf ops gl=true)
    (h:∀ K:St→Prop,(∀ ws bM,qC cs ws=true→Q .normal { fr:=ua ws 0 cs l,mem:=bM }→K { fr:=wr n l ws,mem:=bM })→qD P tt gl ops ops.toList { fr:=wr n l [],mem:=mem } K) :
    Ex P ρ n0 (.region id ops false) { fr:=l,mem:=mem } Q:=by obtain⟨s,⟨ws,bM,rfl,hk,hq⟩,hr⟩:=xD _ _ (h (fun s=>∃ ws bM,s = { fr:=wr n l ws,mem:=bM }∧qC cs ws=true∧Q .normal { fr:=ua ws 0 cs l,mem:=bM }) fun ws bM hk he=>⟨ws,bM,rfl,hk,he⟩);exact⟨.normal,_,hq,fun Q' h'=>ub ht n cs gl hn h1 hg fun K hK=>hr K (hK ws bM hk h')⟩
attribute [irreducible] qD
theorem aap {P:Program} {tt:Table} (ht:TT P tt) {R:V→Prop} {f:FuncId} {fn:Func} {body:Code} {args:List V} (hf:P.funcs[f]?=some fn) (hb:fn.body=some body)
    (fR:∀ (xs:Array Value) (w:World),(callFunc f xs).run P w = .ok (.enter f xs) w)
    (h:Ex P none 0 body (cn fn args []) fun ex st'=>(ex = .ret∨ex = .normal)∧∃ r,R r∧pV tt fn.results st'=some r):∃ r,R r∧bG P f args r:=by obtain⟨e,s,⟨h1,r,hr,h2⟩,h3⟩:=h;exact⟨r,hr,je ht hf hb fR (h3 _ ⟨h1,h2⟩)⟩
def sP:List V→List Nat→List V→List V
  | l,t :: ts,v :: vs=>sP (l.set t v) ts vs
  | l,_,_=>l
def intOf:V→Int
  | .sc (.int _ n)=>n
  | _=>0
theorem M6 {P:Program} {ρ:Option Nat} {n0:Nat} {Q:Exit→St→Prop} {c:Code} {l:List V} {mem:List ba} (ts:List Nat) (QO:List V) (n:Nat) (m:List Bool) (μ:List V→Nat) (Inv:List V→Prop)
    (hn:n0≤n) (hf:(bp m l).all (aH n)=true) (hm:(mem.take n).all (aI n)=true)
    (h0:sP (bp m l) ts QO=bp m l) (hi:Inv QO)
    (step:∀ vs,Inv vs→Ex P ρ n0 c { fr:=sP (bp m l) ts vs,mem:=mem.take n }
      (gz (fun st'=>∃ vs',Inv vs'∧μ vs'<μ vs∧D0 n0 st' (fun s=>s = { fr:=sP (bp m l) ts vs',mem:=mem.take n })) Q)):Ex P ρ n0 (.loop c) { fr:=l,mem:=mem } Q:=by refine Ey (fun k s=>∃ vs:List V,Inv vs∧k=μ vs∧s = { fr:=sP (bp m l) ts vs,mem:=mem.take n }) (μ QO) ⟨n,m,hn,hf,hm,QO,hi,rfl,by rw [h0]⟩ ?_;rintro k s ⟨vs,hv,rfl,rfl⟩;refine (step vs hv).mono fun e s' h=>?_;cases e with | normal =>obtain⟨vs',h4,h5,n1,m1,h6,h7,h8,h9⟩:=h;exact⟨μ vs',h5,n1,m1,h6,h7,h8,vs',h4,rfl,h9⟩ | _=>exact h
end
end Go.Eng
end

section
namespace Go.Eng
variable [a6]
section
variable {P:Program} {tt:Table} {ρ:Option Nat} {n0:Nat} {Q:Exit→St→Prop}
theorem Ke {o:Oper} {st:St} {Q:St→Prop} (h:oF P o st Q):∃ s,Q s∧∀ K:St→Prop,K s→oF P o st K:=by
 unfold oF at h;split at h;·rename_i f xs heq;split at h;(·rename_i g vs hg;obtain⟨vs',r,h1,h2,h3⟩:=h;refine⟨_,h3,fun K hK=>?_⟩;unfold oF;rw [heq];dsimp only;rw [hg];exact⟨vs',r,h1,h2,hK⟩);exact h.elim
 exact h.elim
theorem xE {all:Array Oper} {base:Nat} {Q:St→Prop}:∀ (l:List Oper) (ps:List Pl) (st:St),runM P tt all base l ps st Q→∃ s,Q s∧∀ K:St→Prop,K s→runM P tt all base l ps st K
 | [],ps,st,h=>⟨st,h,fun K hK=>hK⟩
 | o :: r,[],st,h=>h.elim
 | o :: r,p :: ps,st,h=>by
  rw [runM] at h
  by_cases hz:p.cls = .z
  ·unfold gv at h
   split at h
   ·rename_i hw
    rw [hz] at h
    obtain⟨s0,h1,h2⟩:=Ke h
    obtain⟨s,h3,h4⟩:=xE r ps _ h1
    exact⟨s,h3,fun K hK=>by rw [runM]; unfold gv; simp only [hw,hz]; exact h2 _ (h4 K hK)⟩
   ·rename_i hw
    obtain⟨s,h3,h4⟩:=xE r ps _ h
    exact⟨s,h3,fun K hK=>by rw [runM]; unfold gv; simp only [hw]; exact h4 K hK⟩
   exact h.elim
  obtain⟨v,m,h1,h2⟩:=(jj hz).1 h
  obtain⟨s,h3,h4⟩:=xE r ps _ h2
  exact⟨s,h3,fun K hK=>by rw [runM]; exact (jj hz).2 ⟨v,m,h1,h4 K hK⟩⟩
end
end Go.Eng
end

section
namespace Go.Eng
variable [a6]
section
variable {P:Program} {tt:Table} {ρ:Option Nat} {n0:Nat} {Q:Exit→St→Prop}
end
end Go.Eng
end

section
namespace Go.Eng
variable [a6]
theorem qE (n:Nat) (cs:List V):aI n (.box cs)=cs.all (aH n):=rfl
theorem qF (n:Nat) (dq:List (Value×Nat×V)) (c:Nat):aI n (.map dq c)=dq.all fun e=>aH n e.2.2:=rfl
theorem nX (n v e:Nat) (rs:List V):aI n (.rows v e rs)=true:=rfl
theorem qG (n v e:Nat) (rs:List V):aI n (.tv v e rs)=true:=rfl
theorem nY (n:Nat):aI n .dead=true:=rfl
theorem nZ (n:Nat):aI n .hole=true:=rfl
theorem Bb (a b:ByteArray):(a==b)=true↔a=b:=by
 show ByteArray.beq a b=true↔_;unfold ByteArray.beq;constructor;·intro h;(have:a.data=b.data:=by simpa using h);exact anB this
 rintro rfl; simp
structure RQ (P:Program) (T kt et:TypeId) (K:Value→Prop):Prop where
 map:iv P T=some (kt,et)
 desc:∃ d,P.underlying kt=some d∧∀ a b,K a→K b→∃ q:Bool,Instr.sameNow d a b=some q∧(q=true↔a=b)
 ok:∀ a,K a→sh P kt a=true
 bits:∀ a,K a→Instr.sameBits 10000 a a=true
def Hc (k:IntKind) (v:Value):Prop:=∃ n,v = .int k n
theorem M7 {P:Program} {T kt et:TypeId} {k:IntKind} (h1:iv P T=some (kt,et)) (h2:P.underlying kt=some (.int k)):RQ P T kt et (Hc k):=by
 refine⟨h1,⟨_,h2,?_⟩,?_,?_⟩;·rintro _ _ ⟨a,rfl⟩ ⟨b,rfl⟩;exact⟨a==b,by simp [Instr.sameNow],by simp⟩
 ·rintro _ ⟨a,rfl⟩;unfold sh;rw [h2]
 rintro _ ⟨a,rfl⟩;simp [Instr.sameBits]
section
variable {P:Program} {T kt et:TypeId} {K:Value→Prop}
theorem wR {d:TypeDesc} (hd:∀ a b,K a→K b→∃ q:Bool,Instr.sameNow d a b=some q∧(q=true↔a=b)) {k:Value} (hk:K k):∀ (dq:List (Value×Nat×V)) (n:Nat),(∀ e∈dq,K e.1) →
  (gr d k dq n=some none∧∀ e∈dq,e.1≠k)∨∃ i e,dq[i]?=some e∧e.1=k∧gr d k dq n=some (some (n+i,e.2.2))
 | [],n,_=>.inl ⟨rfl,by simp⟩
 | e :: r,n,h=>by
  obtain⟨q,h1,hq⟩:=hd k e.1 hk (h e (by simp))
  by_cases he:k=e.1
  ·refine .inr ⟨0,e,rfl,he.symm,?_⟩
   rw [hq.2 he] at h1
   simp only [gr,h1,jS]
  obtain rfl:q=false:=by cases q <;> first | rfl | exact absurd (hq.1 rfl) he
  rcases wR hd hk r (n+1) (fun e' U8=>h e' (by simp [U8])) with ⟨h2,h3⟩ | ⟨i,e',h2,h3,h4⟩
  ·refine .inl ⟨?_,fun e' U8=>?_⟩
   ·simp only [gr,h1]; exact h2
   rcases cp.1 U8 with rfl | U8
   ·exact fun e=>he e.symm
   exact h3 e' U8
  refine .inr ⟨i+1,e',by simpa using h2,h3,?_⟩
  simp only [gr,h1]
  rw [h4,show n+1+i=n+(i+1) by omega]
theorem Kf (hT:RQ P T kt et K) {k:Value} (hk:K k) (dq:List (Value×Nat×V)) (h:∀ e∈dq,K e.1) :
  (oz P kt k dq=some none∧∀ e∈dq,e.1≠k)∨∃ i e,dq[i]?=some e∧e.1=k∧oz P kt k dq=some (some (i,e.2.2)):=by
 obtain⟨d,hd,hs⟩:=hT.desc;unfold oz;rw [hd];dsimp only;rcases wR hs hk dq 0 h with ⟨h1,h2⟩ | ⟨i,e,h1,h2,h3⟩
 ·rw [h1]; exact .inl ⟨rfl,h2⟩
 rw [h3]; exact .inr ⟨i,e,h1,h2,by simp⟩
theorem Hd (hT:RQ P T kt et K) {k:Value} (hk:K k) (ht:fw (.sc k)=some k) {mem:List ba} {b:Nat} {dq:List (Value×Nat×V)} {cl:Nat} (hm:mem[b]?=some (.map dq cl)) (h:∀ e∈dq,K e.1) {z:V} (hz:zeroV P et=some z) (ok:Bool) :
  (jV P mem T (.mp b) (.sc k) ok=some (QA ok false z)∧∀ e∈dq,e.1≠k)∨∃ e∈dq,e.1=k∧jV P mem T (.mp b) (.sc k) ok=some (QA ok true e.2.2):=by
 have hl:jV P mem T (.mp b) (.sc k) ok=oA P mem kt et (.mp b) k ok:=by unfold jV;rw [hT.map];dsimp only;rw [ht];dsimp only;rw [if_pos (hT.ok k hk)]
 rw [hl];unfold oA;dsimp only;rw [hm];dsimp only;rcases Kf hT hk dq h with ⟨h1,h2⟩ | ⟨i,e,h1,h2,h3⟩
 ·rw [h1]; dsimp only; rw [hz]; exact .inl ⟨rfl,h2⟩
 rw [h3]; exact .inr ⟨e,ay h1,h2,rfl⟩
end
end Go.Eng
end

section
namespace Go.Eng
variable [a6]
end Go.Eng
end
