import Derived.Test.YtnboooapeopjoaaGreatDoorE5
import Derived.Lib.Agree
open Bool renaming false_eq_true→bJ
open ByteArray renaming ext→as4
open List renaming all_eq_true→aX,drop_succ_cons→ZR,ext_getElem?→dq,getD_eq_getElem?_getD→eU,getElem?_cons_succ→ia,getElem?_cons_zero→ee,getElem?_eq_getElem→af,getElem?_eq_none→dN,getElem?_eq_some_iff→aq,getElem?_map→ae,getElem?_range→atN,getElem?_set→bK,mem_cons→dj,mem_of_getElem?→ay,take_succ_cons→ZQ
open Nat renaming add_zero→kG,zero_add→aZ
open Option renaming isNone_none→ads,map_eq_some_iff→bH,map_some→aC
set_option linter.all false
section
namespace Go.Eng
variable [bk]
theorem Ft {P:Program} {tt:Table} {all:Array Oper} {K:St→Prop}:∀ (k:Nat) (l:List Oper) (st:St),fe P tt all (l.take k) st (fun s=>fe P tt all (l.drop k) s K)=fe P tt all l st K
 | 0,l,st=>rfl
 | k+1,[],st=>rfl
 | k+1,o :: r,st=>by
  have ih:=fun s=>Ft (P:=P) (tt:=tt) (all:=all) (K:=K) k r s
  simp only [ZQ,ZR,fe,ih]
def JP (t:Nat) (b:V):List (Nat×V)→V
 | []=>b
 | p :: ws=>if p.1=t then p.2 else JP t b ws
def wr (n:Nat) (l:List V) (ws:List (Nat×V)):List V:=(List.range n).map fun i=>JP i (l.getD i .undef) ws
theorem u1 (n:Nat) (l:List V) (ws:List (Nat×V)) (t:Nat):(wr n l ws)[t]?=if t<n then some (JP t (l.getD t .undef) ws) else none:=by
 unfold wr;rw [ae];by_cases h:t<n;·rw [if_pos h,atN h];rfl
 rw [if_neg h,dN (by simp;omega)];rfl
theorem Wg (n:Nat) (l:List V) (ws:List (Nat×V)) (t:Nat):(wr n l ws).getD t .undef=if t<n then JP t (l.getD t .undef) ws else .undef:=by rw [eU,u1];split <;> rfl
theorem xV (n:Nat) (l:List V) (ws:List (Nat×V)):(wr n l ws).length=n:=by simp [wr]
theorem aaZ (n:Nat) (l:List V) (ws:List (Nat×V)) (d:Nat) (v:V):(wr n l ws).set d v=wr n l ((d,v) :: ws):=by
 apply dq;intro i;rw [bK,u1,u1,xV];simp only [JP];by_cases h:d=i;·subst h;simp
 simp [h]
theorem QS {n:Nat} {l:List V} (h:l.length=n):wr n l []=l:=by
 apply dq;intro i;rw [u1];simp only [JP];split;·rename_i hi;rw [eU,af (by omega)];rfl
 rw [dN (by omega)]
def wm (ws:List (Nat×V)):Nat→List Nat→List V→List V
 | _,_,[]=>[]
 | _,[],v :: l=>v :: l
 | i,c :: cs,v :: l=>(match c with|0=>v|1=>.undef|_=>JP i v ws) :: wm ws (i+1) cs l
def sO (cs:List Nat) (ws:List (Nat×V)):Bool:=ws.all fun p=>match cs[p.1]? with|some 0=>false|none=>false|_=>true
theorem HP {t:Nat} {b:V}:∀ {ws:List (Nat×V)},(∀ p∈ws,p.1≠t)→JP t b ws=b
 | [],_=>rfl
 | p :: ws,h=>by
  simp only [JP,if_neg (h p (by simp))]
  exact HP fun q hq=>h q (by simp [hq])
theorem ru {cs:List Nat} {ws:List (Nat×V)} (h:sO cs ws=true) {i:Nat} (hi:cs[i]?=some 0∨cs[i]?=none) (b:V):JP i b ws=b:=by refine HP fun p hp e=>?_;have:=aX.1 h p hp;rw [e] at this;rcases hi with hi|hi <;> rw [hi] at this <;> cases this
theorem Fu (ws:List (Nat×V)):∀ (l:List V) (cs:List Nat) (k i:Nat),(wm ws k cs l)[i]?=l[i]?.map fun v=>match cs[i]? with|none=>v|some 0=>v|some 1=>.undef|_=>JP (k+i) v ws
 | [],cs,k,i=>by simp [wm]
 | v :: l,[],k,i=>by simp [wm]
 | v :: l,c :: cs,k,0=>by
  simp only [wm,ee,aC,kG]
  rcases c with _|_|c <;> rfl
 | v :: l,c :: cs,k,i+1=>by
  simp only [wm,ia]
  rw [Fu ws l cs (k+1) i,show k+1+i=k+(i+1) by omega]
theorem QT {ws:List (Nat×V)} {l:List V} {cs:List Nat} (hk:sO cs ws=true) {i:Nat} {v:V} (h:(wm ws 0 cs l)[i]?=some v):v = .undef∨(wr l.length l ws)[i]?=some v:=by
 rw [Fu,bH] at h;obtain⟨b,hb,hv⟩:=h;have hi:=(aq.1 hb).1;have hd:l.getD i .undef=b:=by rw [eU,hb];rfl
 rw [u1,if_pos hi,hd];rw [aZ] at hv;revert hv;cases hc:cs[i]? with|none=>intro hv;right;rw [ru hk (.inr hc)];exact congrArg some hv|some c =>(rcases c with _|_|c);(·intro hv;right;rw [ru hk (.inl hc)];exact congrArg some hv);(·intro hv;left;exact hv.symm);intro hv;right;exact congrArg some hv
theorem Bg (ws:List (Nat×V)):∀ (l:List V) (cs:List Nat) (k:Nat),(wm ws k cs l).length=l.length
 | [],cs,k=>by simp [wm]
 | v :: l,[],k=>by simp [wm]
 | v :: l,c :: cs,k=>by simp [wm,Bg ws l cs (k+1)]
theorem Wh {E:Env} {ws:List (Nat×V)} {l:List V} {cs:List Nat} {xs:List Value} (hk:sO cs ws=true) (h:cJ E (wr l.length l ws) xs):cJ E (wm ws 0 cs l) xs:=by
 refine⟨by rw [Bg,← h.1,xV],fun i v x hv hx=>?_⟩;rcases QT hk hv with rfl|h1
 ·exact .undef _ _
 exact h.2 i v x h1 hx
theorem aa0 {ws:List (Nat×V)} {l:List V} {cs:List Nat} (hk:sO cs ws=true) (h1:cs.all (· != 1)=true):wm ws 0 cs l=wr l.length l ws:=by
 apply dq;intro i;rw [Fu,u1];by_cases hi:i<l.length;·rw [if_pos hi,af hi,aC];(have hd:l.getD i .undef=l[i]:=by rw [eU,af hi];rfl);rw [hd,aZ];congr 1;cases hc:cs[i]? with|none=>exact (ru hk (.inr hc) _).symm|some c =>(rcases c with _|_|c);(·exact (ru hk (.inl hc) _).symm);(·have:=aX.1 h1 1 (ay hc);simp at this);rfl
 rw [if_neg hi,dN (show l.length≤i by omega)];rfl
def gT (j:Nat):List (Nat×Nat)→Option Nat
 | []=>none
 | p :: r=>if p.1=j then some p.2 else gT j r
def gOk (all:Array Oper) (gl:List (Nat×Nat)):Bool:=gl.all fun p=>(match (all[p.1]?).bind (·.dst) with|some d=>decide (d=p.2)|none=>false)
def QU (want:Bool):Option V→Option Bool
 | some (.sc (.bool b))=>some (b==want)
 | some (.sc _)=>some false
 | some _=>none
 | none=>some false
def tO (gl:List (Nat×Nat)) (all:Array Oper) (fr:List V) (o:Oper):Option Bool :=
 match o.guard with
 | none=>some true
 | some (j,want)=>match gT j gl with
  | none=>gi all fr o
  | some d=>QU want fr[d]?
theorem YI {all:Array Oper}:∀ {gl:List (Nat×Nat)},gOk all gl=true→∀ {j d:Nat},gT j gl=some d→(all[j]?).bind (·.dst)=some d
 | [],_,j,d,h=>by cases h
 | p :: r,hg,j,d,h=>by
  have h1:=aX.1 hg p (by simp)
  simp only [gT] at h
  split at h
  ·rename_i e
   cases h
   rw [e] at h1
   cases hd:(all[j]?).bind (·.dst) with
   | none=>rw [hd] at h1;cases h1
   | some d=>rw [hd] at h1;exact congrArg some (of_decide_eq_true h1)
  exact YI (aX.2 fun q hq=>aX.1 hg q (by simp [hq])) h
theorem KG {all:Array Oper} {gl:List (Nat×Nat)} (hg:gOk all gl=true) (fr:List V) (o:Oper):tO gl all fr o=gi all fr o:=by unfold tO;cases ho:o.guard with|none=>unfold gi;rw [ho]|some g =>obtain⟨j,want⟩:=g;simp only;cases ht:gT j gl with|none=>rfl|some d =>have:=YI hg ht;unfold gi;rw [ho];simp only [this];unfold QU;cases fr[d]? with|none=>rfl|some v =>cases v with|sc x=>cases x <;> rfl|_=>rfl
def gj (P:Program) (tt:Table) (gl:List (Nat×Nat)) (all:Array Oper):List Oper→St→(St→Prop)→Prop
 | [],st,Q=>Q st
 | o :: r,st,Q=>match tO gl all st.fr o with
  | some true=>cR P tt st.mem.length o st fun st'=>gj P tt gl all r st' Q
  | some false=>gj P tt gl all r (st.put o.dst (.sc undef)) Q
  | none=>False
@[congr] theorem Vd {P:Program} {tt:Table} {gl:List (Nat×Nat)} {all:Array Oper} {l l':List Oper} {st st':St} {Q:St→Prop} (hl:l=l') (h:st=st'):gj P tt gl all l st Q=gj P tt gl all l' st' Q:=by rw [hl,h]
theorem u2 {P:Program} {tt:Table} {gl:List (Nat×Nat)} {all:Array Oper} (hg:gOk all gl=true) {Q:St→Prop}:∀ (l:List Oper) (st:St),gj P tt gl all l st Q=fe P tt all l st Q
 | [],st=>rfl
 | o :: r,st=>by
  have ih:=fun s=>u2 (P:=P) (tt:=tt) (Q:=Q) hg r s
  simp only [gj,fe,KG hg,ih]
  rfl
theorem uE {P:Program} {tt:Table} {gl:List (Nat×Nat)} {all:Array Oper} {K:St→Prop}:∀ (k:Nat) (l:List Oper) (st:St),gj P tt gl all (l.take k) st (fun s=>gj P tt gl all (l.drop k) s K)=gj P tt gl all l st K
 | 0,l,st=>rfl
 | k+1,[],st=>rfl
 | k+1,o :: r,st=>by
  have ih:=fun s=>uE (P:=P) (tt:=tt) (gl:=gl) (all:=all) (K:=K) k r s
  simp only [ZQ,ZR,gj,ih]
theorem nG {P:Program} {tt:Table} {gl:List (Nat×Nat)} {all:Array Oper} (k:Nat) {l:List Oper} {st:St} {K:St→Prop}
  (h:∀ K1:St→Prop,(∀ s,gj P tt gl all (l.drop k) s K→K1 s)→gj P tt gl all (l.take k) st K1):gj P tt gl all l st K:=by rw [← uE k];exact h _ fun _ h=>h
section
variable {P:Program} {tt:Table} {ρ:Option Nat} {n0:Nat} {Q:Exit→St→Prop} {l:List V} {mem:List bm}
theorem Wi {c:Code} {cs:List Nat} {ws:List (Nat×V)} (hk:sO cs ws=true) (h:eg P ρ n0 c { fr:=wm ws 0 cs l,mem:=mem } Q):eg P ρ n0 c { fr:=wr l.length l ws,mem:=mem } Q :=
 sD (st' := { fr:=wm ws 0 cs l,mem:=mem }) (fun E w a hs=>⟨hs.F,hs.lt,hs.mem,hs.top,hs.dF,hs.apart,Wh hk hs.fr⟩) h
theorem mX (ht:TT P tt) (n:Nat) (cs:List Nat) (gl:List (Nat×Nat)) (hn:l.length=n) {id:Nat} {ops:Array Oper} {y:Code} (hg:gOk ops gl=true)
  (h:∀ K:St→Prop,(∀ ws bV,sO cs ws=true→eg P ρ n0 y { fr:=wm ws 0 cs l,mem:=bV } Q→K { fr:=wr n l ws,mem:=bV })→gj P tt gl ops ops.toList { fr:=wr n l [],mem:=mem } K) :
  eg P ρ n0 (.seq (.region id ops false) y) { fr:=l,mem:=mem } Q:=by subst hn;refine ag ht fun K hK=>?_;have:=h K fun ws bV hk ht=>hK _ (Wi hk ht);rw [u2 hg,QS rfl] at this;exact this
theorem wo (ht:TT P tt) (n:Nat) (cs:List Nat) (gl:List (Nat×Nat)) (hn:l.length=n) (h1:cs.all (· != 1)=true) {id:Nat} {ops:Array Oper} (hg:gOk ops gl=true)
  (h:∀ K:St→Prop,(∀ ws bV,sO cs ws=true→Q .normal { fr:=wm ws 0 cs l,mem:=bV }→K { fr:=wr n l ws,mem:=bV })→gj P tt gl ops ops.toList { fr:=wr n l [],mem:=mem } K) :
  eg P ρ n0 (.region id ops false) { fr:=l,mem:=mem } Q:=by subst hn;refine bd ht fun K hK=>?_;have:=h K fun ws bV hk ht=>hK _ (by rw [← aa0 hk h1];exact ht);rw [u2 hg,QS rfl] at this;exact this
end
attribute [irreducible] gj
end Go.Eng
end
section
namespace Go.Eng
variable [bk]
def Ex (P:Program) (ρ:Option Nat) (n0:Nat) (c:Code) (st:St) (Q:Exit→St→Prop):Prop :=
  ∃ (e:Exit) (s:St),Q e s∧∀ Q':Exit→St→Prop,Q' e s→eg P ρ n0 c st Q'
section
variable {P:Program} {tt:Table} {ρ:Option Nat} {n0:Nat} {st:St} {Q:Exit→St→Prop}
theorem Ex.mono {c:Code} {Q2:Exit→St→Prop} (h:Ex P ρ n0 c st Q) (hq:∀ e s,Q e s→Q2 e s):Ex P ρ n0 c st Q2:=by obtain⟨e,s,h1,h⟩:=h;exact⟨e,s,hq _ _ h1,h⟩
theorem Fv (h:Q .normal st):Ex P ρ n0 .skip st Q:=⟨_,_,h,fun _ h=>ch h⟩
theorem QV (h:Q .ret st):Ex P ρ n0 .ret st Q:=⟨_,_,h,fun _ h=>bX h⟩
theorem ME {id:Nat} (h:Q (.exit id) st):Ex P ρ n0 (.exit id) st Q:=⟨_,_,h,fun _ h=>eH h⟩
theorem Bh {x y:Code} (h:Ex P ρ n0 x st (ir (fun st'=>Ex P ρ n0 y st' Q) Q)):Ex P ρ n0 (.seq x y) st Q:=by obtain⟨e,s,hq,h⟩:=h;cases e with|normal =>obtain⟨e2,s2,U6,h2⟩:=hq;exact⟨e2,s2,U6,fun Q' h'=>bz (h _ (h2 Q' h'))⟩|_=>exact⟨_,s,hq,fun Q' h'=>bz (h (ir (fun st'=>eg P ρ n0 y st' Q') Q') h')⟩
theorem MF {c:Operand} {x y:Code} {b:Bool} (hc:st.eval c = .sc (.bool b)) (h:Ex P ρ n0 (if b=true then x else y) st Q):Ex P ρ n0 (.cond c x y) st Q:=by obtain⟨e,s,hq,h⟩:=h;exact⟨e,s,hq,fun Q' h'=>ba hc (h Q' h')⟩
theorem afd {c:Operand} {x y:Code} {b:Bool} (hc:st.eval c = .sc (.bool b)) (h1:b=true→Ex P ρ n0 x st Q) (h2:b=false→Ex P ρ n0 y st Q):Ex P ρ n0 (.cond c x y) st Q:=by refine MF hc ?_;cases b with|true=>exact h1 rfl|false=>exact h2 rfl
theorem Bi {id:Nat} {c:Code} (h:Ex P ρ n0 c st (ko id Q)):Ex P ρ n0 (.block id c) st Q:=by obtain⟨e,s,hq,h⟩:=h;cases e with|exit j =>(by_cases hj:j=id;(·simp only [ko,if_pos hj] at hq;exact⟨_,s,hq,fun Q' h'=>bY (h (ko id Q') (by simpa only [ko,if_pos hj] using h'))⟩);·simp only [ko,if_neg hj] at hq;exact⟨_,s,hq,fun Q' h'=>bY (h (ko id Q') (by simpa only [ko,if_neg hj] using h'))⟩)|_=>exact⟨_,s,hq,fun Q' h'=>bY (h (ko id Q') h')⟩
theorem KH {c:Code} {m:Nat} {Q':Exit→St→Prop} (n:Nat) (mk:List Bool) (hn:n0≤n) (hf:(bG mk st.fr).all (aG n)=true) (hm:(st.mem.take n).all (aS n)=true)
    (h:mg P ρ n0 c m { fr:=bG mk st.fr,mem:=st.mem.take n } Q'):mg P ρ n0 c m st Q':=by cases m with|zero=>exact h.elim|succ m=>exact qm n mk hn hf hm h
theorem HQ {c:Code} (I:Nat→St→Prop) (N:Nat) (h0:Hh n0 st (I N))
    (step:∀ n st,I n st→Ex P ρ n0 c st (ir (fun st'=>∃ k,k<n∧Hh n0 st' (I k)) Q)):Ex P ρ n0 (.loop c) st Q:=by
  have key:∀ (n:Nat) (st:St),I n st→∃ (e:Exit) (s:St),Q e s∧∀ Q':Exit→St→Prop,Q' e s→∃ m,mg P ρ n0 c m st Q':=by intro n;induction n using Nat.strongRecOn with|_ n ih =>intro st hI;obtain⟨e,s,hq,h⟩:=step n st hI;cases e with|normal =>obtain⟨k,hk,n1,mk,h1,h2,h3,h4⟩:=hq;obtain⟨e2,s2,U6,h5⟩:=ih k hk _ h4;refine⟨e2,s2,U6,fun Q' h'=>?_⟩;obtain⟨m,h6⟩:=h5 Q' h';exact⟨m+1,h _ (KH n1 mk h1 h2 h3 h6)⟩|_=>exact⟨_,s,hq,fun Q' h'=>⟨1,h (ir (fun st'=>mg P ρ n0 c 0 st' Q') Q') h'⟩⟩
  obtain⟨n1,mk,h1,h2,h3,h4⟩:=h0;obtain⟨e,s,hq,h⟩:=key N _ h4;exact⟨e,s,hq,fun Q' h'=>qm n1 mk h1 h2 h3 (Hi (h Q' h'))⟩
def wq (P:Program) (f:FuncId) (vs vs':List V) (keys:List (Nat×Nat)) (st:St) (dst:Option Tmp) (Q:St→Prop):Prop :=
  ∃ v,(cx P f vs' v∧Q ({ st with mem:=gv st.mem keys v }.put dst v))∨(sx P f vs v∧Q (st.put dst v))∨∃ m',bw P f vs st.mem v m'∧Q ({ st with mem:=m' }.put dst v)
def DK (P:Program) (f:FuncId) (vs:List V) (st:St) (dst:Option Tmp) (Q:St→Prop):Prop :=
  ∃ v m',bw P f vs st.mem v m'∧Q ({ st with mem:=m' }.put dst v)
def MG (P:Program) (f:FuncId) (vs:List V) (st:St) (dst:Option Tmp) (Q:St→Prop):Prop :=
  match fw st.mem vs with
  | some vs'=>wq P f vs vs' (vs.flatMap fg) st dst Q
  | none=>DK P f vs st dst Q
@[congr] theorem YJ {f f':FuncId} {us Qa vs vs':List V} {keys YK:List (Nat×Nat)} {st st':St} {dst:Option Tmp} {Q:St→Prop} (hf:f=f') (hu:us=Qa) (hv:vs=vs') (hk:keys=YK) (h:st=st'):wq P f us vs keys st dst Q=wq P f' Qa vs' YK st' dst Q:=by rw [hf,hu,hv,hk,h]
def lV (P:Program) (tt:Table) (key:Nat) (o:Oper) (st:St) (Q:St→Prop):Prop :=
  match o.op with
  | .alloc T=>match tt T with
    | some i=>Q ({ st with mem:=dn st.mem key (.box (i.zero.map V.sc)) }.put o.dst (.ptr key 0))
    | none=>False
  | .box _ x=>match mc (st.eval x) with
    | some cs=>Q ({ st with mem:=dn st.mem key (.box cs) }.put o.dst (.ptr key 0))
    | none=>False
  | .build T parts=>match nP P tt T parts.toList st.eval with
    | some v=>Q (st.put o.dst v)
    | none=>False
  | .buildSlice T len parts=>match xG tt T len parts.toList st.eval with
    | some (size,rs)=>Q ({ st with mem:=dn st.mem key (.rows 0 size rs) }.put o.dst (.ms key 0 0 len))
    | none=>False
  | .store T p x=>match nO tt st.mem T (st.eval p) (st.eval x) with
    | some bV=>Q ({ st with mem:=bV }.put o.dst (.sc undef))
    | none=>False
  | .call c=>match c.callee with
    | .value f=>match da (st.eval f) (c.args.toList.map st.eval) with
      | some (g,vs)=>MG P g vs st o.dst Q
      | none=>False
    | .builtin .append=>match c.args.toList.map st.eval with
      | [s,x]=>match gE tt st.mem c.argTypes.toList s x with
        | some (size,sr,rows)=>Q ({ st with mem:=(fu st.mem key size rows sr).1 }.put o.dst (fu st.mem key size rows sr).2)
        | none=>False
      | _=>False
    | .builtin .len=>match mC P tt st o with
      | some v=>Q (st.put o.dst v)
      | none=>False
    | .builtin .max=>match mC P tt st o with
      | some v=>Q (st.put o.dst v)
      | none=>False
    | .builtin .min=>match mC P tt st o with
      | some v=>Q (st.put o.dst v)
      | none=>False
    | _=>False
  | .makeMap _ none=>Q ({ st with mem:=dn st.mem key (.map [] 0) }.put o.dst (.mp key))
  | .makeSlice T l c=>match yJ tt T (st.eval l) (st.eval c) with
    | some (size,rs,_)=>Q ({ st with mem:=dn st.mem key (.rows 0 size rs) }.put o.dst (.ms key 0 0 rs.length))
    | none=>False
  | .mapUpdate T m k x=>match dP P st.mem T (st.eval m) (st.eval k) (st.eval x) with
    | some bV=>Q ({ st with mem:=bV }.put o.dst (.sc undef))
    | none=>False
  | .insert T m k x=>match dP P st.mem T (st.eval m) (st.eval k) (st.eval x) with
    | some bV=>Q ({ st with mem:=bV }.put o.dst (.sc undef))
    | none=>False
  | .binOp op T x y _=>match pT tt op T (st.eval x) (st.eval y) with
    | some _=>False
    | none=>match mC P tt st o with
      | some v=>Q (st.put o.dst v)
      | none=>False
  | .move _=>match mC P tt st o with
    | some v=>Q (st.put o.dst v)
    | none=>False
  | .assign _=>match mC P tt st o with
    | some v=>Q (st.put o.dst v)
    | none=>False
  | .pick _ _ _=>match mC P tt st o with
    | some v=>Q (st.put o.dst v)
    | none=>False
  | .load _ _=>match mC P tt st o with
    | some v=>Q (st.put o.dst v)
    | none=>False
  | .nilCheck _=>match mC P tt st o with
    | some v=>Q (st.put o.dst v)
    | none=>False
  | .unOp _ _ _=>match mC P tt st o with
    | some v=>Q (st.put o.dst v)
    | none=>False
  | .convert _ _ _=>match mC P tt st o with
    | some v=>Q (st.put o.dst v)
    | none=>False
  | .makeFunc _ _ _=>match mC P tt st o with
    | some v=>Q (st.put o.dst v)
    | none=>False
  | .slice _ _ _ _ _=>match mC P tt st o with
    | some v=>Q (st.put o.dst v)
    | none=>False
  | .fieldAddr _ _ _=>match mC P tt st o with
    | some v=>Q (st.put o.dst v)
    | none=>False
  | .indexAddr _ _ _=>match mC P tt st o with
    | some v=>Q (st.put o.dst v)
    | none=>False
  | .field _ _ _=>match mC P tt st o with
    | some v=>Q (st.put o.dst v)
    | none=>False
  | .index _ _ _=>match mC P tt st o with
    | some v=>Q (st.put o.dst v)
    | none=>False
  | .extract _ _=>match mC P tt st o with
    | some v=>Q (st.put o.dst v)
    | none=>False
  | .lookup _ _ _ _=>match mC P tt st o with
    | some v=>Q (st.put o.dst v)
    | none=>False
  | _=>False
@[congr] theorem YL {key afe:Nat} {o:Oper} {st st':St} {Q:St→Prop} (hk:key=afe) (h:st=st'):lV P tt key o st Q=lV P tt afe o st' Q:=by rw [hk,h]
theorem QW {key:Nat} {o:Oper} {Q:St→Prop} (h:lV P tt key o st Q):∃ s,Q s∧∀ K:St→Prop,K s→cR P tt key o st K:=by
  obtain⟨dst,op,type,pos,after,guard⟩:=o;cases op
  case call c =>
    obtain⟨callee,args,ats⟩:=c
    cases callee
    case value f =>
      simp only [lV] at h
      split at h
      · rename_i g vs hg
        unfold MG at h
        split at h
        · rename_i vs' hp
          obtain⟨v,⟨h1,h2⟩|⟨h1,h2⟩|⟨m',h1,h2⟩⟩:=h
          · refine⟨_,h2,fun K hK=>?_⟩
            simp only [cR]
            split
            · rename_i k hy;rw [hy] at hg;simp [da] at hg
            · rw [hg];exact .inl ⟨vs',v,hp,h1,hK⟩
          · refine⟨_,h2,fun K hK=>?_⟩
            simp only [cR]
            split
            · rename_i k hy;rw [hy] at hg;simp [da] at hg
            · rw [hg];exact .inr (.inr (.inr ⟨v,h1,hK⟩))
          · refine⟨_,h2,fun K hK=>?_⟩
            simp only [cR]
            split
            · rename_i k hy;rw [hy] at hg;simp [da] at hg
            · rw [hg];exact .inr (.inl ⟨v,m',h1,hK⟩)
        · obtain⟨v,m',h1,h2⟩:=h
          refine⟨_,h2,fun K hK=>?_⟩
          simp only [cR]
          split
          · rename_i k hy;rw [hy] at hg;simp [da] at hg
          · rw [hg];exact .inr (.inl ⟨v,m',h1,hK⟩)
      · exact h.elim
    case builtin b =>
      cases b
      case append =>
        simp only [lV] at h
        split at h
        · rename_i s x Vx
          split at h
          · rename_i size sr rows ha
            refine⟨_,h,fun K hK=>?_⟩
            simp only [cR,Vx,ha]
            exact hK
          · exact h.elim
        · exact h.elim
      all_goals first
        | exact h.elim
        | (simp only [lV] at h
           split at h
           · rename_i v hv
             refine⟨_,h,fun K hK=>?_⟩
             simp only [cR,hv]
             exact hK
           · exact h.elim)
    all_goals exact h.elim
  case binOp =>
    simp only [lV] at h
    split at h
    · exact h.elim
    · rename_i hn
      split at h
      · rename_i v hv
        refine⟨_,h,fun K hK=>?_⟩
        simp only [cR,hn,hv]
        exact hK
      · exact h.elim
  case buildSlice =>
    simp only [lV] at h
    split at h
    · rename_i size rs hl
      refine⟨_,h,fun K hK=>?_⟩
      simp only [cR,hl]
      exact hK
    · exact h.elim
  case store =>
    simp only [lV] at h
    split at h
    · rename_i m hl
      refine⟨_,h,fun K hK=>?_⟩
      simp only [cR,hl]
      exact hK
    · exact h.elim
  case makeSlice T l c =>
    simp only [lV] at h
    split at h
    · rename_i size rs c' hl
      refine⟨_,h,fun K hK=>?_⟩
      simp only [cR,hl]
      exact hK
    · exact h.elim
  case makeMap T l =>
    cases l with
    | none=>exact⟨_,h,fun K hK=>hK⟩
    | some l=>exact h.elim
  all_goals first
    | exact h.elim
    | (simp only [lV] at h
       split at h
       · rename_i v hv
         refine⟨_,h,fun K hK=>?_⟩
         simp only [cR,hv]
         exact hK
       · exact h.elim)
def sP (P:Program) (tt:Table) (gl:List (Nat×Nat)) (all:Array Oper):List Oper→St→(St→Prop)→Prop
  | [],st,Q=>Q st
  | o :: r,st,Q=>match tO gl all st.fr o with
    | some true=>lV P tt st.mem.length o st fun st'=>sP P tt gl all r st' Q
    | some false=>sP P tt gl all r (st.put o.dst (.sc undef)) Q
    | none=>False
@[congr] theorem aa2 {gl:List (Nat×Nat)} {all:Array Oper} {l l':List Oper} {st st':St} {Q:St→Prop} (hl:l=l') (h:st=st'):sP P tt gl all l st Q=sP P tt gl all l' st' Q:=by rw [hl,h]
theorem Ac {gl:List (Nat×Nat)} {all:Array Oper} {Q:St→Prop}:∀ (l:List Oper) (st:St),sP P tt gl all l st Q→∃ s,Q s∧∀ K:St→Prop,K s→gj P tt gl all l st K
  | [],st,h=>⟨st,h,fun K hK=>by rw [gj];exact hK⟩
  | o :: r,st,h=>by
    rw [sP] at h
    split at h
    · rename_i hw
      obtain⟨s,h1,h2⟩:=QW h
      obtain⟨s2,h3,h4⟩:=Ac r s h1
      exact⟨s2,h3,fun K hK=>by rw [gj,hw];exact h2 _ (h4 K hK)⟩
    · rename_i hw
      obtain⟨s2,h3,h4⟩:=Ac r _ h
      exact⟨s2,h3,fun K hK=>by rw [gj,hw];exact h4 K hK⟩
    · exact h.elim
theorem Bj {gl:List (Nat×Nat)} {all:Array Oper} {K:St→Prop}:∀ (k:Nat) (l:List Oper) (st:St),sP P tt gl all (l.take k) st (fun s=>sP P tt gl all (l.drop k) s K)=sP P tt gl all l st K
  | 0,l,st=>rfl
  | k+1,[],st=>rfl
  | k+1,o :: r,st=>by
    have ih:=fun s=>Bj (gl:=gl) (all:=all) (K:=K) k r s
    simp only [ZQ,ZR,sP,ih]
theorem QX {gl:List (Nat×Nat)} {all:Array Oper} (k:Nat) {l:List Oper} {st:St} {K:St→Prop}
    (h:∀ K1:St→Prop,(∀ s,sP P tt gl all (l.drop k) s K→K1 s)→sP P tt gl all (l.take k) st K1):sP P tt gl all l st K:=by rw [← Bj k];exact h _ fun _ h=>h
theorem QY {R:V→Prop} {f:FuncId} {vs vs':List V} {keys:List (Nat×Nat)} {dst:Option Tmp} {Q:St→Prop} (hr:∃ v,R v∧cx P f vs' v) (h:∀ v,R v→Q ({ st with mem:=gv st.mem keys v }.put dst v)):wq P f vs vs' keys st dst Q:=by obtain⟨v,h1,h2⟩:=hr;exact⟨v,.inl ⟨h2,h v h1⟩⟩
theorem QZ {f:FuncId} {fn:Func} {ext:Array Value→Sem Value} (hf:P.funcs[f]?=some fn) (hn:(fn.name == "runtime.NumGoroutine")=false) (hb:fn.body=none) (QN:Extern.findNext fn=none) (GM:Extern.find fn=some ext)
    {vs:List V} {l:List Value} (hl:pP vs=some l) {v:Value} (gS:∀ w,(ext l.toArray).run P w = .ok v w):sx P f vs (lj v):=fun E w xs hF hx=>by
  have xt:=qP hx hl
  refine⟨v,?_,ll E v⟩
  have hr:=gS w
  rw [← xt] at hr
  simp only [callFunc,program,Sem.run_bind]
  show (match P.funcs[f]? with|none=>_|some fn=>_:Sem Next).run P w=_
  rw [hf]
  dsimp only
  rw [hn,hb]
  simp only [bJ,if_false,ads,if_true,QN,GM,Sem.run_bind,mark,Sem.run,Result.andThen_ok]
  have EW:(ext xs).run P w = .ok v w:=by simpa using hr
  rw [EW];rfl
theorem lW (ht:TT P tt) (n:Nat) (cs:List Nat) (gl:List (Nat×Nat)) {l:List V} {mem:List bm} (hn:l.length=n) {id:Nat} {ops:Array Oper} {y:Code} (hg:gOk ops gl=true)
    (h:∀ K:St→Prop,(∀ ws bV,sO cs ws=true→Ex P ρ n0 y { fr:=wm ws 0 cs l,mem:=bV } Q→K { fr:=wr n l ws,mem:=bV })→sP P tt gl ops ops.toList { fr:=wr n l [],mem:=mem } K) :
    Ex P ρ n0 (.seq (.region id ops false) y) { fr:=l,mem:=mem } Q:=by obtain⟨s,⟨ws,bV,rfl,hk,e,s2,hq,h2⟩,hr⟩:=Ac _ _ (h (fun s=>∃ ws bV,s = { fr:=wr n l ws,mem:=bV }∧sO cs ws=true∧Ex P ρ n0 y { fr:=wm ws 0 cs l,mem:=bV } Q) fun ws bV hk he=>⟨ws,bV,rfl,hk,he⟩);exact⟨e,s2,hq,fun Q' h'=>mX ht n cs gl hn hg fun K hK=>hr K (hK ws bV hk (h2 Q' h'))⟩
theorem qy (ht:TT P tt) (n:Nat) (cs:List Nat) (gl:List (Nat×Nat)) {l:List V} {mem:List bm} (hn:l.length=n) (h1:cs.all (· != 1)=true) {id:Nat} {ops:Array Oper} (hg:gOk ops gl=true)
    (h:∀ K:St→Prop,(∀ ws bV,sO cs ws=true→Q .normal { fr:=wm ws 0 cs l,mem:=bV }→K { fr:=wr n l ws,mem:=bV })→sP P tt gl ops ops.toList { fr:=wr n l [],mem:=mem } K) :
    Ex P ρ n0 (.region id ops false) { fr:=l,mem:=mem } Q:=by obtain⟨s,⟨ws,bV,rfl,hk,hq⟩,hr⟩:=Ac _ _ (h (fun s=>∃ ws bV,s = { fr:=wr n l ws,mem:=bV }∧sO cs ws=true∧Q .normal { fr:=wm ws 0 cs l,mem:=bV }) fun ws bV hk he=>⟨ws,bV,rfl,hk,he⟩);exact⟨.normal,_,hq,fun Q' h'=>wo ht n cs gl hn h1 hg fun K hK=>hr K (hK ws bV hk h')⟩
attribute [irreducible] sP
theorem aff {P:Program} {tt:Table} (ht:TT P tt) {R:V→Prop} {f:FuncId} {fn:Func} {body:Code} {args:List V} (hf:P.funcs[f]?=some fn) (hb:fn.body=some body)
    (gM:∀ (xs:Array Value) (w:World),(callFunc f xs).run P w = .ok (.enter f xs) w)
    (h:Ex P none 0 body (cB fn args []) fun ex st'=>(ex = .ret∨ex = .normal)∧∃ r,R r∧rT tt fn.results st'=some r):∃ r,R r∧cx P f args r:=by obtain⟨e,s,⟨h1,r,hr,h2⟩,h3⟩:=h;exact⟨r,hr,jU ht hf hb gM (h3 _ ⟨h1,h2⟩)⟩
def u3:List V→List Nat→List V→List V
  | l,t :: ts,v :: vs=>u3 (l.set t v) ts vs
  | l,_,_=>l
def intOf:V→Int
  | .sc (.int _ n)=>n
  | _=>0
theorem Q0 {P:Program} {ρ:Option Nat} {n0:Nat} {Q:Exit→St→Prop} {c:Code} {l:List V} {mem:List bm} (ts:List Nat) (Ve:List V) (n:Nat) (m:List Bool) (μ:List V→Nat) (Inv:List V→Prop)
    (hn:n0≤n) (hf:(bG m l).all (aG n)=true) (hm:(mem.take n).all (aS n)=true)
    (h0:u3 (bG m l) ts Ve=bG m l) (hi:Inv Ve)
    (step:∀ vs,Inv vs→Ex P ρ n0 c { fr:=u3 (bG m l) ts vs,mem:=mem.take n }
      (ir (fun st'=>∃ vs',Inv vs'∧μ vs'<μ vs∧Hh n0 st' (fun s=>s = { fr:=u3 (bG m l) ts vs',mem:=mem.take n })) Q)):Ex P ρ n0 (.loop c) { fr:=l,mem:=mem } Q:=by refine HQ (fun k s=>∃ vs:List V,Inv vs∧k=μ vs∧s = { fr:=u3 (bG m l) ts vs,mem:=mem.take n }) (μ Ve) ⟨n,m,hn,hf,hm,Ve,hi,rfl,by rw [h0]⟩ ?_;rintro k s ⟨vs,hv,rfl,rfl⟩;refine (step vs hv).mono fun e s' h=>?_;cases e with|normal =>obtain⟨vs',h4,h5,n1,m1,h6,h7,h8,h9⟩:=h;exact⟨μ vs',h5,n1,m1,h6,h7,h8,vs',h4,rfl,h9⟩|_=>exact h
end
end Go.Eng
end
section
namespace Go.Eng
variable [bk]
section
variable {P:Program} {tt:Table} {ρ:Option Nat} {n0:Nat} {Q:Exit→St→Prop}
theorem N9 {o:Oper} {st:St} {Q:St→Prop} (h:qn P o st Q):∃ s,Q s∧∀ K:St→Prop,K s→qn P o st K:=by
 unfold qn at h;split at h;·rename_i f xs heq;split at h;(·rename_i g vs hg;obtain⟨vs',r,h1,h2,h3⟩:=h;refine⟨_,h3,fun K hK=>?_⟩;unfold qn;rw [heq];dsimp only;rw [hg];exact⟨vs',r,h1,h2,hK⟩);exact h.elim
 exact h.elim
theorem Ad {all:Array Oper} {base:Nat} {Q:St→Prop}:∀ (l:List Oper) (ps:List Pl) (st:St),runM P tt all base l ps st Q→∃ s,Q s∧∀ K:St→Prop,K s→runM P tt all base l ps st K
 | [],ps,st,h=>⟨st,h,fun K hK=>hK⟩
 | o :: r,[],st,h=>h.elim
 | o :: r,p :: ps,st,h=>by
  rw [runM] at h
  by_cases hz:p.cls = .z
  ·unfold fC at h
   split at h
   ·rename_i hw
    rw [hz] at h
    obtain⟨s0,h1,h2⟩:=N9 h
    obtain⟨s,h3,h4⟩:=Ad r ps _ h1
    exact⟨s,h3,fun K hK=>by rw [runM];unfold fC;simp only [hw,hz];exact h2 _ (h4 K hK)⟩
   ·rename_i hw
    obtain⟨s,h3,h4⟩:=Ad r ps _ h
    exact⟨s,h3,fun K hK=>by rw [runM];unfold fC;simp only [hw];exact h4 K hK⟩
   exact h.elim
  obtain⟨v,m,h1,h2⟩:=(j1 hz).1 h
  obtain⟨s,h3,h4⟩:=Ad r ps _ h2
  exact⟨s,h3,fun K hK=>by rw [runM];exact (j1 hz).2 ⟨v,m,h1,h4 K hK⟩⟩
end
end Go.Eng
end
section
namespace Go.Eng
variable [bk]
section
variable {P:Program} {tt:Table} {ρ:Option Nat} {n0:Nat} {Q:Exit→St→Prop}
end
end Go.Eng
end
section
namespace Go.Eng
variable [bk]
theorem sS (n:Nat) (cs:List V):aS n (.box cs)=cs.all (aG n):=rfl
theorem sT (n:Nat) (dK:List (Value×Nat×V)) (c:Nat):aS n (.map dK c)=dK.all fun e=>aG n e.2.2:=rfl
theorem pE (n v e:Nat) (rs:List V):aS n (.rows v e rs)=true:=rfl
theorem sU (n v e:Nat) (rs:List V):aS n (.vB v e rs)=true:=rfl
theorem pF (n:Nat):aS n .dead=true:=rfl
theorem pG (n:Nat):aS n .hole=true:=rfl
theorem xW (a b:ByteArray):(a==b)=true↔a=b:=by
 show ByteArray.beq a b=true↔_;unfold ByteArray.beq;constructor;·intro h;(have:a.data=b.data:=by simpa using h);exact as4 this
 rintro rfl;simp
structure Wj (P:Program) (T kt et:TypeId) (K:Value→Prop):Prop where
 map:ji P T=some (kt,et)
 desc:∃ d,P.underlying kt=some d∧∀ a b,K a→K b→∃ q:Bool,Instr.sameNow d a b=some q∧(q=true↔a=b)
 ok:∀ a,K a→uz P kt a=true
 bits:∀ a,K a→Instr.sameBits 10000 a a=true
def KI (k:IntKind) (v:Value):Prop:=∃ n,v = .int k n
theorem Q1 {P:Program} {T kt et:TypeId} {k:IntKind} (h1:ji P T=some (kt,et)) (h2:P.underlying kt=some (.int k)):Wj P T kt et (KI k):=by
 refine⟨h1,⟨_,h2,?_⟩,?_,?_⟩;·rintro _ _ ⟨a,rfl⟩ ⟨b,rfl⟩;exact⟨a==b,by simp [Instr.sameNow],by simp⟩
 ·rintro _ ⟨a,rfl⟩;unfold uz;rw [h2]
 rintro _ ⟨a,rfl⟩;simp [Instr.sameBits]
section
variable {P:Program} {T kt et:TypeId} {K:Value→Prop}
theorem y3 {d:TypeDesc} (hd:∀ a b,K a→K b→∃ q:Bool,Instr.sameNow d a b=some q∧(q=true↔a=b)) {k:Value} (hk:K k):∀ (dK:List (Value×Nat×V)) (n:Nat),(∀ e∈dK,K e.1) →
  (ib d k dK n=some none∧∀ e∈dK,e.1≠k)∨∃ i e,dK[i]?=some e∧e.1=k∧ib d k dK n=some (some (n+i,e.2.2))
 | [],n,_=>.inl ⟨rfl,by simp⟩
 | e :: r,n,h=>by
  obtain⟨q,h1,hq⟩:=hd k e.1 hk (h e (by simp))
  by_cases he:k=e.1
  ·refine .inr ⟨0,e,rfl,he.symm,?_⟩
   rw [hq.2 he] at h1
   simp only [ib,h1,kG]
  obtain rfl:q=false:=by cases q <;> first|rfl|exact absurd (hq.1 rfl) he
  rcases y3 hd hk r (n+1) (fun e' U0=>h e' (by simp [U0])) with ⟨h2,h3⟩|⟨i,e',h2,h3,h4⟩
  ·refine .inl ⟨?_,fun e' U0=>?_⟩
   ·simp only [ib,h1];exact h2
   rcases dj.1 U0 with rfl|U0
   ·exact fun e=>he e.symm
   exact h3 e' U0
  refine .inr ⟨i+1,e',by simpa using h2,h3,?_⟩
  simp only [ib,h1]
  rw [h4,show n+1+i=n+(i+1) by omega]
theorem Oa (hT:Wj P T kt et K) {k:Value} (hk:K k) (dK:List (Value×Nat×V)) (h:∀ e∈dK,K e.1) :
  (qg P kt k dK=some none∧∀ e∈dK,e.1≠k)∨∃ i e,dK[i]?=some e∧e.1=k∧qg P kt k dK=some (some (i,e.2.2)):=by
 obtain⟨d,hd,hs⟩:=hT.desc;unfold qg;rw [hd];dsimp only;rcases y3 hs hk dK 0 h with ⟨h1,h2⟩|⟨i,e,h1,h2,h3⟩
 ·rw [h1];exact .inl ⟨rfl,h2⟩
 rw [h3];exact .inr ⟨i,e,h1,h2,by simp⟩
theorem KJ (hT:Wj P T kt et K) {k:Value} (hk:K k) (ht:fI (.sc k)=some k) {mem:List bm} {b:Nat} {dK:List (Value×Nat×V)} {cl:Nat} (hm:mem[b]?=some (.map dK cl)) (h:∀ e∈dK,K e.1) {z:V} (hz:zeroV P et=some z) (ok:Bool) :
  (kK P mem T (.mp b) (.sc k) ok=some (UY ok false z)∧∀ e∈dK,e.1≠k)∨∃ e∈dK,e.1=k∧kK P mem T (.mp b) (.sc k) ok=some (UY ok true e.2.2):=by
 have hl:kK P mem T (.mp b) (.sc k) ok=qh P mem kt et (.mp b) k ok:=by unfold kK;rw [hT.map];dsimp only;rw [ht];dsimp only;rw [if_pos (hT.ok k hk)]
 rw [hl];unfold qh;dsimp only;rw [hm];dsimp only;rcases Oa hT hk dK h with ⟨h1,h2⟩|⟨i,e,h1,h2,h3⟩
 ·rw [h1];dsimp only;rw [hz];exact .inl ⟨rfl,h2⟩
 rw [h3];exact .inr ⟨e,ay h1,h2,rfl⟩
end
end Go.Eng
end
section
namespace Go.Eng
variable [bk]
end Go.Eng
end
