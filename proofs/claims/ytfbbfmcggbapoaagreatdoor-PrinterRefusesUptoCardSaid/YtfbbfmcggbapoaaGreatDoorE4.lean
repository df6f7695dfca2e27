import Derived.Test.YtfbbfmcggbapoaaGreatDoorE3
open Array renaming getElem?_eq_some_iff→dO,toArray_toList→cE
open Bool renaming and_eq_true→aL,false_eq_true→bF,or_self→bu
open List renaming all_eq_true→aZ,any_eq_true→tV,ext_getElem?→dM,getD_eq_getElem?_getD→eN,getElem?_cons_succ→cp,getElem?_cons_zero→aJ,getElem?_eq_getElem→aw,getElem?_eq_none→ec,getElem?_map→ak,getElem?_set→bX,mem_append_left→jq,mem_append_right→kS,mem_cons→cI,mem_cons_of_mem→ct,mem_cons_self→cA,mem_map→eI,mem_singleton→dq,not_mem_nil→iM
open Nat renaming lt_or_ge→bz,zero_add→cr
open Option renaming isNone_none→abY,map_eq_some_iff→bc
open Option.some renaming injEq→aF
open Prod renaming ext→arz
open Prod.mk renaming injEq→dy
set_option linter.all false
section
namespace Go.Eng
variable [bB]
abbrev GV:=Nat→Array Oper→List (List Pl×Nat)
abbrev l9:=FuncId→List V→List bx→Option (List (V×List bx))
abbrev qP:=FuncId→List V→Option V
def nC (P:Program) (nat:qP):Prop:=∀ f vs r,nat f vs=some r→r7 P f vs r
abbrev MR:=Nat→List V→List bx→Option (List (Bool×List bx))
abbrev qg:=Bool→Code→St→Option (List (Exit×St))
def qh {α β:Type} (x:Option (List α)) (f:α→Option (List β)):Option (List β) :=
  match x with
  | none=>none
  | some l=>l.foldr (fun a acc=>match f a,acc with|some b,some c=>some (b++c)|_,_=>none) (some [])
theorem Dk {α β:Type} {f:α→Option (List β)}:∀ {l:List α} {out:List β},qh (some l) f=some out→∀ a∈l,∃ b,f a=some b∧∀ x∈b,x∈out
  | [],_,_,a,ha=>by simp at ha
  | c :: r,out,h,a,ha=>by
    simp only [qh,List.foldr_cons] at h
    split at h
    · rename_i b t hb hc
      cases h
      rcases cI.1 ha with rfl|ha
      · exact⟨b,hb,fun x hx=>jq _ hx⟩
      · obtain⟨b',h1,h2⟩:=Dk (l:=r) (out:=t) hc a ha
        exact⟨b',h1,fun x hx=>kS _ (h2 x hx)⟩
    · cases h
theorem iQ {α β:Type} {x:Option (List α)} {f:α→Option (List β)} {out:List β} (h:qh x f=some out):∃ l,x=some l∧∀ a∈l,∃ b,f a=some b∧∀ y∈b,y∈out:=by cases x with|none=>cases h|some l=>exact⟨l,rfl,Dk h⟩
def PJ (st:St) (it:V) (str:Bool):Option (List (V×List bx)) :=
  match it with
  | .ptr b 0=>match st.mem[b]? with
    | some (.jJ m since seen last)=>match st.mem[m]? with
      | some (.map dP clock)=>if str=false∧Ep dP seen last=false then
          some ((if (An dP seen since).isEmpty then [(Ao,st.mem)] else []) ++
            (An dP seen since++OW dP seen since).map fun e=>(OX e,st.mem.set b (.jJ m since (seen++[e.2.1]) clock)))
        else none
      | _=>none
    | some (.nL s pos)=>if str=true then (if pos<s.size then some [(V4 s pos,st.mem.set b (.nL s (pos+(Utf8.decode s pos).2)))] else some [(Ao,st.mem)]) else none
    | some .og=>if str=false then some [(Ao,st.mem)] else none
    | _=>none
  | _=>none
theorem fR {α:Type} {Q:α→Prop} {a:α} (h:∀ p∈[a],Q p):Q a:=h a (dq.2 rfl)
theorem GX {st:St} {dst:Option Tmp} {it:V} {str:Bool} {outs:List (V×List bx)} {Q:St→Prop} (h:PJ st it str=some outs) (hQ:∀ p∈outs,Q (St.put { st with mem:=p.2 } dst p.1)):vG st dst it str Q:=by
  unfold PJ at h;unfold vG;split at h;·split at h;(·rename_i h1;simp only [h1];split at h;(·rename_i h2;simp only [h2];split at h;(·rename_i h3;cases h;refine⟨h3.1,h3.2,fun he=>?_,fun e he=>?_⟩;(·have:=hQ (Ao,st.mem) (by rw [he];exact jq _ (dq.2 rfl));exact this);·have:=hQ _ (kS _ (eI.2 ⟨e,he,rfl⟩));exact this);·cases h);·cases h);(·rename_i h1;simp only [h1];split at h;(·rename_i h3;refine⟨h3,?_⟩;split at h;(·rename_i h4;cases h;rw [if_pos h4];exact (by have h9:=fR hQ;exact h9));·rename_i h4;cases h;rw [if_neg h4];exact (by have h9:=fR hQ;exact h9));·cases h);(·rename_i h1;simp only [h1];split at h;(·rename_i h3;cases h;exact⟨h3,(by have h9:=fR hQ;exact h9)⟩);·cases h);·cases h
  ·cases h
def adl (ny:FuncId→List V→Option V) (g:FuncId) (vs:List V) (st:St):Option (V×List bx) :=
  match iE st.mem vs with
  | some vs'=>match ny g vs' with
    | some r=>some (r,iG st.mem (vs.flatMap fP) r)
    | none=>none
  | none=>none
def rB (P:Program) (ny:FuncId→List V→Option V):Prop:=∀ f vs r,ny f vs=some r→b8 P f vs r
def PK (P:Program) (tt:Table) (nat:qP) (ny:FuncId→List V→Option V) (call:l9) (j9:MR) (key:Nat) (o:Oper) (st:St):Option (List (V×List bx)) :=
  match o.op with
  | .alloc T=>match tt T with
    | some i=>some [((.ptr key 0),dm st.mem key (.box (i.zero.map V.sc)))]
    | none=>none
  | .box _ x=>match l4 (st.eval x) with
    | some cs=>some [((.ptr key 0),dm st.mem key (.box cs))]
    | none=>none
  | .build T parts=>match nB P tt T parts.toList st.eval with
    | some v=>some [(v,st.mem)]
    | none=>none
  | .buildSlice T len parts=>match xk tt T len parts.toList st.eval with
    | some (size,rs)=>some [((.ms key 0 0 len),dm st.mem key (.rows 0 size rs))]
    | none=>match TU tt T len parts.toList st with
      | some (size,rs)=>some [((.ms key 0 0 len),dm (fw st.mem (Et st.eval parts.toList)) key (.rows 0 size rs))]
      | none=>none
  | .store T p x=>match nz tt st.mem T (st.eval p) (st.eval x) with
    | some bS=>some [((.sc undef),bS)]
    | none=>match Eu tt st.mem T (st.eval p) (st.eval x) with
      | some bS=>some [((.sc undef),bS)]
      | none=>none
  | .call { callee:=.builtin .append,args:=xs,argTypes:=ts }=>match xs.toList.map st.eval with
    | [s,x]=>match fh tt st.mem ts.toList s x with
      | some (size,rY,rows)=>some [((eM st.mem key size rows rY).2,(eM st.mem key size rows rY).1)]
      | none=>none
    | _=>none
  | .call { callee:=.value f,args:=xs,.. }=>match st.eval f with
    | .j9 k=>match j9 k (xs.toList.map st.eval) st.mem with
      | some outs=>some (outs.map fun p=>((.sc (.bool p.1)),p.2))
      | none=>none
    | fv=>match di fv (xs.toList.map st.eval) with
      | some (g,vs)=>match adl ny g vs st with
        | some (r,bS)=>some [(r,bS)]
        | none=>match call g vs st.mem with
          | some outs=>some (outs.map fun p=>(p.1,p.2))
          | none=>match nat g vs with
            | some r=>some [(r,st.mem)]
            | none=>none
      | none=>none
  | .makeSlice T l c=>match yl tt T (st.eval l) (st.eval c) with
    | some (size,rs,_)=>some [((.ms key 0 0 rs.length),dm st.mem key (.rows 0 size rs))]
    | none=>none
  | .makeMap _ none=>some [((.mp key),dm st.mem key (.map [] 0))]
  | .mapUpdate T m k x=>match dU P st.mem T (st.eval m) (st.eval k) (st.eval x) with
    | some bS=>some [((.sc undef),bS)]
    | none=>none
  | .insert T m k x=>match dU P st.mem T (st.eval m) (st.eval k) (st.eval x) with
    | some bS=>some [((.sc undef),bS)]
    | none=>none
  | .mapEntry T m k=>match xm P st.mem T (st.eval m) (st.eval k) with
    | some (bS,v)=>some [(v,bS)]
    | none=>none
  | .entryStore _ m s x=>match xn st.mem (st.eval m) (st.eval s) (st.eval x) with
    | some bS=>some [((.sc undef),bS)]
    | none=>none
  | .call { callee:=.builtin .delete,args:=xs,argTypes:=ts }=>match te P st.mem ts (xs.toList.map st.eval) with
    | some bS=>some [((.sc (.tuple #[])),bS)]
    | none=>none
  | .range T x=>match p9 P st.mem T (st.eval x) with
    | some B=>some [((.ptr key 0),dm st.mem key B)]
    | none=>none
  | .next it str=>PJ st (st.eval it) str
  | .binOp op T x y _=>match pF tt op T (st.eval x) (st.eval y) with
    | some n=>if n=0 then some [((.sc (.bool (qK op false))),st.mem),((.sc (.bool (qK op true))),st.mem)] else some [((.sc (.bool (qK op false))),st.mem)]
    | none=>match iY P tt st o with
      | some v=>some [(v,st.mem)]
      | none=>none
  | _=>match iY P tt st o with
    | some v=>some [(v,st.mem)]
    | none=>none
def kP (P:Program) (call:l9):Prop:=∀ f vs mem outs,call f vs mem=some outs→jK P f vs mem fun r m=>(r,m)∈outs
def PL (P:Program) (j9:MR):Prop:=∀ k vs mem outs,j9 k vs mem=some outs→MB P k vs mem fun b m=>(b,m)∈outs
theorem GY {P:Program} {tt:Table} {nat:qP} {ny:FuncId→List V→Option V} {call:l9} {j9:MR} (EH:rB P ny) (uh:nC P nat) (hc:kP P call) (hy:PL P j9) {key:Nat} {o:Oper} {st:St} {outs:List (V×List bx)} {Q:St→Prop} (h:PK P tt nat ny call j9 key o st=some outs) (hQ:∀ p∈outs,Q (St.put { st with mem:=p.2 } o.dst p.1)) :
    dn P tt key o st Q:=by
  unfold PK at h;unfold dn;split at h;·rename_i heq;rw [heq];dsimp only;split at h;(·rename_i h1;cases h;rw [h1];exact (by have h9:=fR hQ;exact h9));·cases h
  ·rename_i heq;rw [heq];dsimp only;split at h;(·rename_i h1;cases h;rw [h1];exact (by have h9:=fR hQ;exact h9));·cases h
  ·rename_i heq;rw [heq];dsimp only;split at h;(·rename_i h1;cases h;rw [h1];exact (by have h9:=fR hQ;exact h9));·cases h
  ·rename_i heq;rw [heq];dsimp only;split at h;(·rename_i h1;cases h;rw [h1];exact (by have h9:=fR hQ;exact h9));·rename_i h0;rw [h0];dsimp only;split at h;(·rename_i h1;cases h;rw [h1];exact (by have h9:=fR hQ;exact h9));·cases h
  ·rename_i heq;rw [heq];dsimp only;split at h;(·rename_i h1;cases h;rw [h1];exact (by have h9:=fR hQ;exact h9));·rename_i h0;rw [h0];dsimp only;split at h;(·rename_i h1;cases h;rw [h1];exact (by have h9:=fR hQ;exact h9));·cases h
  ·rename_i heq;rw [heq];dsimp only;split at h;(·rename_i h0;rw [h0];dsimp only;split at h;(·rename_i h1;cases h;rw [h1];exact (by have h9:=fR hQ;exact h9));·cases h);·cases h
  ·rename_i heq;rw [heq];dsimp only;split at h;(·rename_i k hk;rw [hk];dsimp only;split at h;(·rename_i os ho;cases h;exact .inr ⟨_,hy _ _ _ _ ho,fun b m hm=>(by have:=hQ _ (eI.2 ⟨_,hm,rfl⟩);exact this)⟩);·cases h);·rename_i fv hfv;split at h;(·rename_i g vs hg;split at h;(·rename_i r bS MS;cases h;unfold adl at MS;split at MS;(·rename_i vs' MC;split at MS;(·rename_i r1 Cr;cases MS;split;(·rename_i k hk;exact absurd hk (hfv k));·rw [hg];exact .inl ⟨vs',_,MC,EH _ _ _ Cr,(by have h9:=fR hQ;exact h9)⟩);·cases MS);·cases MS);·split at h;(·rename_i os ho;cases h;split;(·rename_i k hk;exact absurd hk (hfv k));·rw [hg];exact .inr (.inr (.inl ⟨_,hc _ _ _ _ ho,fun b m hm=>(by have:=hQ _ (eI.2 ⟨_,hm,rfl⟩);exact this)⟩)));·split at h;(·rename_i r hr;cases h;split;(·rename_i k hk;exact absurd hk (hfv k));·rw [hg];exact .inr (.inr (.inr ⟨r,uh _ _ _ hr,(by have h9:=fR hQ;exact h9)⟩)));·cases h);·cases h
  ·rename_i heq;rw [heq];dsimp only;split at h;(·rename_i h1;cases h;rw [h1];exact (by have h9:=fR hQ;exact h9));·cases h
  ·rename_i heq;rw [heq];dsimp only;cases h;exact (by have h9:=fR hQ;exact h9)
  ·rename_i heq;rw [heq];dsimp only;split at h;(·rename_i h1;cases h;rw [h1];exact (by have h9:=fR hQ;exact h9));·cases h
  ·rename_i heq;rw [heq];dsimp only;split at h;(·rename_i h1;cases h;rw [h1];exact (by have h9:=fR hQ;exact h9));·cases h
  ·rename_i heq;rw [heq];dsimp only;split at h;(·rename_i h1;cases h;rw [h1];exact (by have h9:=fR hQ;exact h9));·cases h
  ·rename_i heq;rw [heq];dsimp only;split at h;(·rename_i h1;cases h;rw [h1];exact (by have h9:=fR hQ;exact h9));·cases h
  ·rename_i heq;rw [heq];dsimp only;split at h;(·rename_i h1;cases h;rw [h1];exact (by have h9:=fR hQ;exact h9));·cases h
  ·rename_i heq;rw [heq];dsimp only;split at h;(·rename_i h1;cases h;rw [h1];exact (by have h9:=fR hQ;exact h9));·cases h
  ·rename_i heq;rw [heq];dsimp only;exact GX h hQ
  ·rename_i heq;rw [heq];dsimp only;split at h;(·rename_i n hn;rw [hn];dsimp only;intro b hb;split at h;(·cases h;cases b;(·have:=hQ _ (cA ..);exact this);·have:=hQ _ (ct _ (dq.2 rfl));exact this);·rename_i h0;cases h;rw [hb h0];exact (by have h9:=fR hQ;exact h9));·rename_i hn;rw [hn];dsimp only;split at h;(·rename_i h1;cases h;rw [h1];exact (by have h9:=fR hQ;exact h9));·cases h
  ·split at h;(·rename_i h1;cases h;split <;> first|(rw [h1];exact (by have h9:=fR hQ;exact h9))|(exfalso;solve_by_elim));·cases h
def PN {α β:Type}:List α→(List α→β)→β
  | [],k=>k []
  | c :: r,k=>PN r fun r'=>k (c :: r')
theorem qQ {α β:Type}:∀ (l:List α) (k:List α→β),PN l k=k l
  | [],_=>rfl
  | c :: r,k=>by rw [PN,qQ r]
def ma {β:Type} (n:Nat) (k:Nat→β):β:=Nat.casesOn n (k 0) fun m=>k (Nat.succ m)
theorem jy {β:Type} (n:Nat) (k:Nat→β):ma n k=k n:=by cases n <;> rfl
def YC {β:Type} (n:Int) (k:Int→β):β:=match n with|.ofNat m=>ma m fun m'=>k (.ofNat m')|.negSucc m=>ma m fun m'=>k (.negSucc m')
theorem Ug {β:Type} (n:Int) (k:Int→β):YC n k=k n:=by cases n <;> simp only [YC,jy]
def Js {β:Type} (s:ByteArray) (k:ByteArray→β):β:=PN s.data.toList fun l=>k ⟨⟨l⟩⟩
theorem MT {β:Type} (s:ByteArray) (k:ByteArray→β):Js s k=k s:=by rw [Js,qQ]
def Uh {β:Type} (v:Value) (k:Value→β):β :=
  match v with
  | .bool true=>k (.bool true)
  | .bool false=>k (.bool false)
  | .int t n=>YC n fun n'=>k (.int t n')
  | .string s=>Js s fun s'=>k (.string s')
  | v=>k v
theorem Li {β:Type} (v:Value) (k:Value→β):Uh v k=k v:=by
  unfold Uh;split;·rfl
  ·rfl
  ·rw [Ug]
  ·rw [MT]
  ·rfl
def fW {β:Type} (v:V) (k:V→β):β :=
  match v with
  | .undef=>k .undef
  | .sc v=>k (.sc v)
  | .agg cs=>k (.agg cs)
  | .slice r=>k (.slice r)
  | .ms a b c d=>k (.ms a b c d)
  | .ptr a b=>k (.ptr a b)
  | .iv a b c d=>k (.iv a b c d)
  | .fq cs=>k (.fq cs)
  | .iU f a b=>k (.iU f a b)
  | .eg l=>k (.eg l)
  | .j9 a=>k (.j9 a)
  | .mp a=>k (.mp a)
  | .gn=>k .gn
  | .full r=>k (.full r)
theorem Wh {β:Type} (v:V) (k:V→β):fW v k=k v:=by cases v <;> rfl
def fWs {β:Type}:List V→(List V→β)→β
  | [],k=>k []
  | c :: r,k=>fW c fun c'=>fWs r fun r'=>k (c' :: r')
theorem EI {β:Type}:∀ (l:List V) (k:List V→β),fWs l k=k l
  | [],_=>rfl
  | c :: r,k=>by rw [fWs,Wh,EI r]
mutual
def fV {β:Type}:V→(V→β)→β
  | .undef,k=>k .undef
  | .gn,k=>k .gn
  | .sc v,k=>Uh v fun v'=>k (.sc v')
  | .agg cs,k=>Lj cs fun uc=>k (.agg uc)
  | .eg cs,k=>Lj cs fun uc=>k (.eg uc)
  | .slice cs,k=>Lj cs fun uc=>k (.slice uc)
  | .full cs,k=>Lj cs fun uc=>k (.full uc)
  | .fq cs,k=>Lj cs fun uc=>k (.fq uc)
  | .iU f a b,k=>Lj a fun a'=>Lj b fun b'=>k (.iU f a' b')
  | .ms a b c d,k=>ma a fun a'=>ma b fun b'=>ma c fun c'=>ma d fun d'=>k (.ms a' b' c' d')
  | .ptr a b,k=>ma a fun a'=>ma b fun b'=>k (.ptr a' b')
  | .iv a b c d,k=>ma a fun a'=>ma b fun b'=>ma c fun c'=>ma d fun d'=>k (.iv a' b' c' d')
  | .j9 a,k=>ma a fun a'=>k (.j9 a')
  | .mp a,k=>ma a fun a'=>k (.mp a')
def Lj {β:Type}:List V→(List V→β)→β
  | [],k=>k []
  | c :: r,k=>fV c fun c'=>Lj r fun r'=>k (c' :: r')
end
mutual
theorem GZ {β:Type}:∀ (v:V) (k:V→β),fV v k=k v
  | .undef,_=>by rw [fV]
  | .gn,_=>by rw [fV]
  | .sc v,k=>by rw [fV,Li]
  | .agg cs,k=>by rw [fV,qR cs]
  | .eg cs,k=>by rw [fV,qR cs]
  | .slice cs,k=>by rw [fV,qR cs]
  | .full cs,k=>by rw [fV,qR cs]
  | .fq cs,k=>by rw [fV,qR cs]
  | .iU f a b,k=>by rw [fV,qR a,qR b]
  | .ms a b c d,k=>by rw [fV,jy,jy,jy,jy]
  | .ptr a b,k=>by rw [fV,jy,jy]
  | .iv a b c d,k=>by rw [fV,jy,jy,jy,jy]
  | .j9 a,k=>by rw [fV,jy]
  | .mp a,k=>by rw [fV,jy]
theorem qR {β:Type}:∀ (l:List V) (k:List V→β),Lj l k=k l
  | [],_=>by rw [Lj]
  | c :: r,k=>by rw [Lj,GZ c,qR r]
end
def Ui {β:Type}:List (Value×Nat×V)→(List (Value×Nat×V)→β)→β
  | [],k=>k []
  | (a,n,v) :: r,k=>Uh a fun a'=>ma n fun n'=>fV v fun v'=>Ui r fun r'=>k ((a',n',v') :: r')
theorem Lk {β:Type}:∀ (l:List (Value×Nat×V)) (k:List (Value×Nat×V)→β),Ui l k=k l
  | [],_=>rfl
  | (a,n,v) :: r,k=>by rw [Ui,Li,jy,GZ,Lk r]
def fB {β:Type} (B:bx) (k:bx→β):β :=
  match B with
  | .hole=>k .hole
  | .dead=>k .dead
  | .og=>k .og
  | .box cs=>Lj cs fun uc=>k (.box uc)
  | .rows v e rs=>ma v fun v'=>ma e fun e'=>Lj rs fun mZ=>k (.rows v' e' mZ)
  | .rP v e rs=>ma v fun v'=>ma e fun e'=>Lj rs fun mZ=>k (.rP v' e' mZ)
  | .loop s p fr ps a b=>k (.loop s p fr ps a b)
  | .map dP c=>Ui dP fun kvs'=>ma c fun c'=>k (.map kvs' c')
  | .jJ a b c d=>ma a fun a'=>ma b fun b'=>PN c fun c'=>ma d fun d'=>k (.jJ a' b' c' d')
  | .nL s p=>ma p fun p'=>k (.nL s p')
  | .n5 T a b c=>ma a fun a'=>ma b fun b'=>ma c fun c'=>k (.n5 T a' b' c')
  | .oW T a O=>ma a fun a'=>k (.oW T a' O)
theorem adm {β:Type} (B:bx) (k:bx→β):fB B k=k B:=by cases B <;> simp only [fB,qR,jy,Lk,qQ]
def Jt {β:Type}:List Nat→List bx→(List bx→β)→β
  | [],m,k=>PN m k
  | i :: r,m,k=>match m[i]? with
    | some B=>fB B fun B'=>Jt r (m.set i B') k
    | none=>Jt r m k
theorem vW {β:Type}:∀ (ks:List Nat) (m:List bx) (k:List bx→β),Jt ks m k=k m
  | [],m,k=>qQ m k
  | i :: r,m,k=>by
    simp only [Jt]
    split
    · rename_i B hB
      rw [adm,vW r]
      congr 1
      apply dM
      intro j
      rw [bX]
      split
      · rename_i IP;subst IP
        split
        · exact hB.symm
        · rename_i bL;rw [ec (by omega)]
      · rfl
    · exact vW r m k
def Dl (o:Oper):Bool :=
  match o.op with
  | .move _|.assign _|.pick ..|.load ..|.extract ..|.nilCheck _|.field .. => true
  | _=>false
def fD {β:Type} (b:Bool) (v:V) (k:V→β):β:=match b with|true=>fW v k|false=>fV v k
theorem Wi {β:Type} (b:Bool) (v:V) (k:V→β):fD b v k=k v:=by cases b <;> simp only [fD,Wh,GZ]
def Uj {β:Type} (b:Bool) (d:Option Tmp) (ks:List Nat) (s:St) (k:St→β):β :=
  match d with
  | some d=>fD b (s.fr.getD d .undef) fun v=>PN (if d<s.fr.length then s.fr.set d v else s.fr) fun fr=>Jt ks s.mem fun mem=>k { fr:=fr,mem:=mem }
  | none=>PN s.fr fun fr=>Jt ks s.mem fun mem=>k { fr:=fr,mem:=mem }
theorem uL {β:Type} (b:Bool) (d:Option Tmp) (ks:List Nat) (s:St) (k:St→β):Uj b d ks s k=k s:=by
  unfold Uj;split;·rename_i d;rw [Wi,qQ,vW];congr 1;split;(·rename_i hd;obtain⟨fr,mem⟩:=s;dsimp only at hd ⊢;congr 1;apply dM;intro j;rw [bX];split;(·rename_i IP;subst IP;rw [eN,aw hd];rfl);·rfl);·rfl
  ·rw [qQ,vW]
def Uk {β:Type}:List V→Nat→V→(List V→β)→β
  | [],_,_,k=>k []
  | _ :: r,0,v,k=>k (v :: r)
  | c :: r,d+1,v,k=>Uk r d v fun r'=>k (c :: r')
theorem Ll {β:Type}:∀ (l:List V) (d:Nat) (v:V) (k:List V→β),Uk l d v k=k (l.set d v)
  | [],_,_,_=>rfl
  | _ :: _,0,_,_=>rfl
  | c :: r,d+1,v,k=>by rw [Uk,Ll r];rfl
def Lm {β:Type} (ks:List Nat) (m:List bx) (k:List bx→β):β:=match ks with|[]=>k m|_ :: _=>Jt ks m k
theorem G0 {β:Type} (ks:List Nat) (m:List bx) (k:List bx→β):Lm ks m k=k m:=by
  unfold Lm;split;·rfl
  ·rw [vW]
def YD {β:Type} (b:Bool) (d:Option Tmp) (ks:List Nat) (st:St) (v:V) (m:List bx) (k:St→β):β :=
  match d with
  | some d=>fD b v fun v=>Uk st.fr d v fun fr=>Lm ks m fun mem=>k { fr:=fr,mem:=mem }
  | none=>Lm ks m fun mem=>k { fr:=st.fr,mem:=mem }
theorem Ul {β:Type} (b:Bool) (d:Option Tmp) (ks:List Nat) (st:St) (v:V) (m:List bx) (k:St→β):YD b d ks st v m k=k (St.put { st with mem:=m } d v):=by
  unfold YD;split;·rw [Wi,Ll,G0];rfl
  ·rw [G0];rfl
def PO:V→List Nat
  | .ptr b _=>[b]
  | .iv b _ _ _=>[b]
  | .ms b _ _ _=>[b]
  | .mp b=>[b]
  | _=>[]
def Ln (key:Nat) (o:Oper) (st:St):List Nat :=
  match o.op with
  | .alloc _|.box ..|.buildSlice ..|.makeMap ..|.makeSlice ..|.range .. => [key]
  | .store _ p _=>PO (st.eval p)
  | .call { callee:=.builtin .append,args:=xs,.. }=>match xs.toList with|s :: _=>key :: PO (st.eval s)|_=>[]
  | .call { callee:=.builtin .delete,args:=xs,.. }=>match xs.toList with|s :: _=>PO (st.eval s)|_=>[]
  | .mapUpdate _ m _ _|.insert _ m _ _|.mapEntry _ m _|.entryStore _ m _ _=>PO (st.eval m)
  | .call { callee:=.value _,.. }=>[0]
  | .next it _=>PO (st.eval it)
  | _=>[]
def MU (P:Program) (tt:Table) (nat:qP) (ny:FuncId→List V→Option V) (call:l9) (j9:MR) (all:Array Oper):List Oper→St→Option (List St)
  | [],st=>some [st]
  | o :: r,st=>match gh all st.fr o with
    | some true=>qh (PK P tt nat ny call j9 st.mem.length o st) fun p=>YD (Dl o) o.dst (Ln st.mem.length o st) st p.1 p.2 fun s'=>MU P tt nat ny call j9 all r s'
    | some false=>MU P tt nat ny call j9 all r (st.put o.dst (.sc undef))
    | none=>none
theorem qS {P:Program} {tt:Table} {nat:qP} {ny:FuncId→List V→Option V} (EH:rB P ny) {call:l9} {j9:MR} (uh:nC P nat) (hc:kP P call) (hy:PL P j9) {all:Array Oper} {Q:St→Prop}:∀ {l:List Oper} {st:St} {outs:List St},MU P tt nat ny call j9 all l st=some outs→(∀ s∈outs,Q s)→fa P tt all l st Q
  | [],st,outs,h,hQ=>by cases h;exact hQ _ (by simp)
  | o :: r,st,outs,h,hQ=>by
    simp only [MU] at h
    simp only [fa]
    split at h
    · rename_i hw
      rw [hw]
      obtain⟨l,h1,h2⟩:=iQ h
      refine GY EH uh hc hy h1 fun s hs=>?_
      obtain⟨b,h3,h4⟩:=h2 s hs
      rw [Ul] at h3
      exact qS EH uh hc hy h3 fun s' pO=>hQ _ (h4 _ pO)
    · rename_i hw
      rw [hw]
      exact qS EH uh hc hy h hQ
    · cases h
def hH:Nat→List bx→List (Nat×Nat)
  | _,[]=>[]
  | i,.rows v _ _ :: r=>(i,v) :: hH (i+1) r
  | i,.rP v _ _ :: r=>(i,v) :: hH (i+1) r
  | i,_ :: r=>hH (i+1) r
theorem qT:∀ {m:List bx} {n k v e:Nat} {rs:List V},(m[k]?=some (.rows v e rs)∨m[k]?=some (.rP v e rs))→(n+k,v)∈hH n m
  | [],n,k,v,e,rs,h=>by simp at h
  | B :: r,n,0,v,e,rs,h=>by
    simp only [aJ,aF] at h
    rcases h with rfl|rfl <;> simp [hH]
  | B :: r,n,k+1,v,e,rs,h=>by
    simp only [cp] at h
    have:=qT (n:=n+1) h
    rw [show n+1+k=n+(k+1) from by omega] at this
    cases B <;> simp only [hH] <;> first|exact this|exact ct _ this
def mT (mem:List bx) (v:V):V:=match ej mem v with|some v'=>v'|none=>v
def YE (mem:List bx):V→V
  | .agg cs=>.agg (cs.map (mT mem))
  | .eg vs=>.eg (vs.map fun v=>match v with|.agg cs=>.agg (cs.map (mT mem))|v=>mT mem v)
  | v=>mT mem v
def xw (mem:List bx):bx→bx
  | .box cs=>.box (cs.map (mT mem))
  | B=>B
def G1 (st:St):Option St :=
  let keys:=hH 0 st.mem
  match iE st.mem (keys.map fun (k:Nat×Nat)=>V.ms k.1 k.2 0 0) with
  | some _=>some { fr:=st.fr.map (YE st.mem),mem:=(fw st.mem keys).map (xw st.mem) }
  | none=>none
theorem Lo:∀ (keys:List (Nat×Nat)),(keys.map fun (k:Nat×Nat)=>V.ms k.1 k.2 0 0).flatMap fP=keys
  | []=>rfl
  | k :: r=>by simp [fP,iF,Lo r]
theorem MV {mem:List bx} {B:bx} (h:∀ cs,B ≠ .box cs):xw mem B=B:=by cases B <;> first|rfl|exact absurd rfl (h _)
theorem Ju (mem:List bx) (B:bx):(xw mem B).dZ=B.dZ:=by cases B <;> rfl
theorem G2 {E:Env} {w:World} {a:Act} {st st':St} (hs:de E w a st) (h:G1 st=some st'):∃ E',de E' w a st'∧ic E w E' w:=by
  unfold G1 at h;dsimp only at h;split at h;·rename_i vs' hp;cases h;obtain⟨ks,Tr⟩:∃ ks,ks=((hH 0 st.mem).map (fun (k:Nat×Nat)=>V.ms k.1 k.2 0 0)).flatMap fP:=⟨_,rfl⟩;(have adn:ic E w (E.qx w ks) w∧de (E.qx w ks) w a { st with mem:=fw st.mem ks }:=by subst Tr;obtain⟨hg,h1,h2⟩:=Au hs hp (F':=(E.qx w (((hH 0 st.mem).map (fun (k:Nat×Nat)=>V.ms k.1 k.2 0 0)).flatMap fP)).F) (fun _ _ h=>h) (fun ad y h=>Env.K8 hs.F h) (fun _ _ h=>.inl h) (Go.RowKit.Below.refl _ w);exact⟨h1,h2⟩);rw [Lo] at Tr;subst Tr;obtain⟨gE,qC⟩:=adn;(have p8:∀ {v:V} {x:Value},cY E v x→cY (E.qx w (hH 0 st.mem)) (mT st.mem v) x:=fun {v x} hr=>by unfold mT;split;(·rename_i v' hv;refine (pE hs hr hv fun k hk=>?_).mono (Env.s9 _);cases v <;> simp only [iF,dq,iM] at hk;subst hk;simp only [ej] at hv;split at hv;(·rename_i hm;split at hv;(·rename_i hc;have:=qT (n:=0) (.inl hm);rw [cr,hc.1] at this;exact this);·cases hv);(·rename_i hm;split at hv;(·rename_i hc;have:=qT (n:=0) (.inr hm);rw [cr,hc.1] at this;exact this);·cases hv);·cases hv);·exact hr.mono (Env.xp E w _));(have TR:∀ {cs:List V} {xs:List Value},cU E cs xs→cU (E.qx w (hH 0 st.mem)) (cs.map (mT st.mem)) xs:=fun {cs xs} hr=>by refine⟨by simpa using hr.1,fun i c x hc hx=>?_⟩;simp only [ak,bc] at hc;obtain⟨c0,G3,rfl⟩:=hc;exact p8 (hr.2 i c0 x G3 hx));(have h1:∀ {v:V} {x:Value},cY E v x→cY (E.qx w (hH 0 st.mem)) (match v with|.agg cs=>.agg (cs.map (mT st.mem))|v=>mT st.mem v) x:=fun {v x} hr=>by split;(·rename_i cs;cases hr with|agg _ cs xs hl hh =>have:=TR (cs:=cs) (xs:=xs.toList) ⟨by simpa using hl,fun i c x hc hx=>hh i c x hc (by simpa using hx)⟩;exact .agg _ _ _ (by simpa using this.1) fun i c x hc hx=>this.2 i c x hc (by simpa using hx));·exact p8 hr);(have hV:∀ {v:V} {x:Value},cY E v x→cY (E.qx w (hH 0 st.mem)) (YE st.mem v) x:=fun {v x} hr=>by unfold YE;split;(·exact h1 (v:=.agg _) hr);(·rename_i vs;cases hr with|eg _ vs xs hl hh =>refine .eg _ _ _ (by simpa using hl) fun i c x hc hx=>?_;simp only [ak,bc] at hc;obtain⟨c0,G3,rfl⟩:=hc;exact h1 (hh i c0 x G3 hx));·exact p8 hr);refine⟨_,⟨qC.F,qC.lt,fun k B hk=>?_,fun k hk=>qC.top k (by simpa using hk),fun k B hk v hv=>?_,qC.apart,⟨by simpa using hs.fr.1,fun i v x hv hx=>?_⟩⟩,gE⟩;(·simp only [ak,bc] at hk;obtain⟨B0,K9,rfl⟩:=hk;have h0:=qC.mem k B0 K9;by_cases ado:∃ cs,B0 = .box cs;(·obtain⟨cs,rfl⟩:=ado;(have hold:st.mem[k]?=some (.box cs):=by rw [uF] at K9;cases Om:st.mem[k]? with|none=>rw [Om] at K9;simp [rz] at K9|some B1 =>rw [Om] at K9;cases B1 <;> simp only [rz] at K9 <;> first|exact K9|(split at K9 <;> cases K9));obtain⟨g,T,xs,q1,q2,q3,q4⟩:=h0;obtain⟨g',T',vH,r1,r2,r3,r4⟩:=hs.mem k _ hold;(have:g=g':=by have:=gE.le.cC _ _ _ r1;have e:(E.qx w (hH 0 st.mem)).cC k 0=some (g,0,0):=q1;have e2:(E.qx w (hH 0 st.mem)).cC k 0=some (g',0,0):=this;rw [e] at e2;cases e2;rfl);subst this;rw [r2] at q2;cases q2;exact⟨g,T,xs,q1,r2,TR r3,q4⟩);·rw [MV fun cs e=>ado ⟨cs,e⟩];exact h0);(·simp only [ak,bc] at hk;obtain⟨B0,K9,rfl⟩:=hk;rw [Ju] at hv;exact qC.dZ k B0 K9 v hv);·simp only [ak,bc] at hv;obtain⟨v0,I2,rfl⟩:=hv;exact hV (hs.fr.2 i v0 x I2 hx)
  ·cases h
theorem AT {P:Program} {ρ:Option Nat} {n0:Nat} {c:Code} {st st':St} {Q:Exit→St→Prop} (hf:G1 st=some st') (h:ek P ρ n0 c st' Q):ek P ρ n0 c st Q:=fun E0 w0 h0 E w a he hs oq=>by obtain⟨E',h1,h2⟩:=G2 hs hf;exact h E0 w0 h0 E' w a (he.trans h2) h1 (oq.La h2)
abbrev qi:=FuncId→List V→Option V
abbrev yB:=FuncId→List V→Option (Nat×List V)
def EJ (P:Program) (live:yB):Prop:=∀ f vs e rs,live f vs=some (e,rs)→AB P f vs e rs
def Jv (live:yB) (o:Oper) (key:Nat) (st:St):Option St :=
  match o.op with
  | .call { callee:=.value f,args:=xs,.. }=>match di (st.eval f) (xs.toList.map st.eval) with
    | some (g,vs)=>match iE [] vs with
      | some vs'=>match live g vs' with
        | some (e,rs)=>some (AE st key o.dst e rs)
        | none=>none
      | none=>none
    | none=>none
  | _=>none
theorem EK {P:Program} {live:yB} (hl:EJ P live) {o:Oper} {key:Nat} {st s:St} {Q:St→Prop} (h:Jv live o key st=some s) (hQ:Q s):uJ P o key st Q:=by
  unfold Jv at h;unfold uJ;split at h;·rename_i heq;rw [heq];dsimp only;split at h;(·rename_i g vs hg;rw [hg];dsimp only;split at h;(·rename_i vs' hv;split at h;(·rename_i e rs hr;cases h;exact⟨vs',e,rs,hv,hl _ _ _ _ hr,hQ⟩);·cases h);·cases h);·cases h
  ·cases h
def uM (P:Program) (pure:qi):Prop:=∀ f vs r,pure f vs=some r→b8 P f vs r
def Um (P:Program) (tt:Table) (nat:qP) (pure:qi) (o:Oper) (CD st:St):Option St :=
  match o.op with
  | .call { callee:=.value f,args:=xs,.. }=>match di (CD.eval f) (xs.toList.map CD.eval) with
    | some (g,vs)=>match iE [] vs with
      | some vs'=>match pure g vs' with
        | some r=>some (st.put o.dst r)
        | none=>match nat g vs' with
          | some r=>some (st.put o.dst r)
          | none=>none
      | none=>none
    | none=>none
  | _=>match y3 P tt o CD with
    | some v=>some (st.put o.dst v)
    | none=>none
theorem AU {P:Program} {tt:Table} {nat:qP} (uh:nC P nat) {pure:qi} (hp:uM P pure) {o:Oper} {CD st s:St} {Q:St→Prop} (h:Um P tt nat pure o CD st=some s) (hQ:Q s):qb P tt o CD st Q:=by
  unfold Um at h;unfold qb;split at h;·rename_i heq;rw [heq];dsimp only;split at h;(·rename_i g vs hg;rw [hg];dsimp only;split at h;(·rename_i vs' hv;split at h;(·rename_i r hr;cases h;exact⟨vs',r,hv,.inl (hp _ _ _ hr),hQ⟩);·split at h;(·rename_i r hr;cases h;exact⟨vs',r,hv,.inr (uh _ _ _ hr),hQ⟩);·cases h);·cases h);·cases h
  ·split at h;(·rename_i h1;cases h;split;(·exfalso;solve_by_elim);·rw [h1];exact hQ);·cases h
def Jw (pure:qi) (o:Oper) (st:St):Option St :=
  match o.op with
  | .call { callee:=.value f,args:=xs,.. }=>match di (st.eval f) (xs.toList.map st.eval) with
    | some (g,vs)=>match iE st.mem vs with
      | some vs'=>match pure g vs' with
        | some r=>some (St.put { st with mem:=iG st.mem (vs.flatMap fP) r } o.dst r)
        | none=>none
      | none=>none
    | none=>none
  | _=>none
theorem EL {P:Program} {pure:qi} (hp:uM P pure) {o:Oper} {st s:St} {Q:St→Prop} (h:Jw pure o st=some s) (hQ:Q s):o8 P o st Q:=by
  unfold Jw at h;unfold o8;split at h;·rename_i f xs ts kf;split at h;(·rename_i g vs hg;split at h;(·rename_i vs' hv;split at h;(·rename_i r hr;cases h;rw [kf];dsimp only;rw [hg];exact .inl ⟨vs',r,hv,hp _ _ _ hr,hQ⟩);·cases h);·cases h);·cases h
  ·cases h
abbrev G4:=FuncId→List V→Nat→List bx→Option (V×bx)
def Lp (P:Program) (G5:G4):Prop:=∀ f vs k mem v B,G5 f vs k mem=some (v,B)→∃ B0,mem[k]?=some B0∧B0.dZ=0∧B.dZ=0∧bI P f vs mem v (mem.set k B)
def Jx (G5:G4) (o:Oper) (k:Nat) (st:St):Option St :=
  match o.op with
  | .call { callee:=.value f,args:=xs,.. }=>match di (st.eval f) (xs.toList.map st.eval) with
    | some (g,vs)=>match G5 g vs k st.mem with
      | some (v,B)=>some (St.put { st with mem:=st.mem.set k B } o.dst v)
      | none=>none
    | none=>none
  | _=>none
theorem EM {P:Program} {tt:Table} {G5:G4} (he:Lp P G5) {o:Oper} {k:Nat} {st s:St} {Q:St→Prop} (h:Jx G5 o k st=some s) (hQ:Q s):vO false P tt o k st Q:=by
  unfold Jx at h;unfold vO;split at h;·rename_i f xs ts kf;split at h;(·rename_i g vs hg;split at h;(·rename_i v B hb;cases h;obtain⟨B0,h1,h2,h3,h4⟩:=he _ _ _ _ _ _ hb;rw [kf];dsimp only;rw [hg];exact⟨v,B0,B,h2,h3,h1,⟨h4,fun h=>by cases h⟩,hQ⟩);·cases h);·cases h
  ·cases h
def Jy (P:Program) (tt:Table) (nat:qP) (pure:qi) (live:yB) (G5:G4) (all:Array Oper) (base:Nat) (o:Oper) (p:Pl) (st:St):Option St :=
  match gh all st.fr o with
  | some true=>match p.cls with
    | .n=>Um P tt nat pure o { st with mem:=[] } st
    | .r=>Um P tt nat pure o { st with mem:=ez (p.mask.map (base + ·)++p.abs) st.mem } st
    | .a=>if isHole st.mem (base+p.key)=true then (match hD tt o (base+p.key) st with
      | some (B,v)=>some (St.put { st with mem:=st.mem.set (base+p.key) B } o.dst v)
      | none=>Jv live o (base+p.key) st) else none
    | .w=>if isHole st.mem (base+p.key)=true then (match oQ P tt (base+p.key) o st with
      | some (m,v)=>some (St.put { st with mem:=m } o.dst v)
      | none=>none) else none
    | .s=>match rI tt (base+p.key) o st with
      | some m=>some (St.put { st with mem:=m } o.dst (.sc undef))
      | none=>none
    | .b=>match ow tt o { st with mem:=ez (p.mask.map (base + ·)) st.mem } with
      | some v=>some (st.put o.dst v)
      | none=>none
    | .z=>Jw pure o st
    | .e=>if p.mask.isEmpty=true then (match rI tt p.key o st with
      | some m=>some (St.put { st with mem:=m } o.dst (.sc undef))
      | none=>Jx G5 o p.key st) else none
  | some false=>some (st.put o.dst (.sc undef))
  | none=>none
theorem EN {P:Program} {tt:Table} {nat:qP} (uh:nC P nat) {pure:qi} {live:yB} {G5:G4} (hp:uM P pure) (hl:EJ P live) (hE:Lp P G5) {all:Array Oper} {base:Nat} {o:Oper} {p:Pl} {st s:St} {Q:St→Prop} (h:Jy P tt nat pure live G5 all base o p st=some s) (hQ:Q s):gx P tt all base o p st Q:=by
  unfold Jy at h;unfold gx;split at h;·rename_i hw;rw [hw];dsimp only;split at h;(·rename_i o2;rw [o2];exact AU uh hp h hQ);(·rename_i o2;rw [o2];exact AU uh hp h hQ);(·rename_i o2;rw [o2];dsimp only;split at h;(·rename_i hh;refine⟨hh,?_⟩;split at h;(·rename_i h1;cases h;rw [h1];exact hQ);·rename_i h1;rw [h1];exact EK hl h hQ);·cases h);(·rename_i o2;rw [o2];dsimp only;split at h;(·rename_i hh;refine⟨hh,?_⟩;split at h;(·rename_i h1;cases h;rw [h1];exact hQ);·cases h);·cases h);(·rename_i o2;rw [o2];dsimp only;split at h;(·rename_i h1;cases h;rw [h1];exact hQ);·cases h);(·rename_i o2;rw [o2];dsimp only;split at h;(·rename_i h1;cases h;rw [h1];exact hQ);·cases h);(·rename_i o2;rw [o2];exact EL hp h hQ);·rename_i o2;rw [o2];dsimp only;split at h;(·rename_i hme;rw [hme];split at h;(·rename_i m h1;cases h;unfold vO;split;(·rename_i f xs ts kf;unfold rI at h1;rw [kf] at h1;cases h1);·rw [h1];exact hQ);·exact EM hE h hQ);·cases h
  ·rename_i hw;rw [hw];cases h;exact hQ
  ·cases h
def G6 (P:Program) (tt:Table) (nat:qP) (pure:qi) (live:yB) (G5:G4) (all:Array Oper) (base:Nat):List Oper→List Pl→St→Option St
  | [],_,st=>some st
  | o :: r,p :: ps,st=>match Jy P tt nat pure live G5 all base o p st with
    | some s=>Uj (Dl o) o.dst (Ln (base+p.key) o st) s fun s'=>G6 P tt nat pure live G5 all base r ps s'
    | none=>none
  | _ :: _,[],_=>none
theorem yC {P:Program} {tt:Table} {nat:qP} (uh:nC P nat) {pure:qi} {live:yB} {G5:G4} (hp:uM P pure) (hl:EJ P live) (hE:Lp P G5) {all:Array Oper} {base:Nat} {Q:St→Prop}:∀ {l:List Oper} {ps:List Pl} {st s:St},G6 P tt nat pure live G5 all base l ps st=some s→Q s→runM P tt all base l ps st Q
  | [],_,st,s,h,hQ=>by cases h;exact hQ
  | o :: r,p :: ps,st,s,h,hQ=>by
    simp only [G6] at h
    simp only [runM]
    split at h
    · rename_i s1 h1
      rw [uL] at h
      exact EN uh hp hl hE h1 (yC uh hp hl hE h hQ)
    · cases h
  | _ :: _,[],_,_,h,_=>by simp [G6] at h
mutual
def YF:V→Nat
  | .ms b _ _ _|.ptr b _|.j9 b|.mp b|.iv b _ _ _=>b+1
  | .agg cs|.eg cs=>MW cs
  | .iU _ a b=>max (MW a) (MW b)
  | _=>0
def MW:List V→Nat
  | []=>0
  | c :: r=>max (YF c) (MW r)
end
def aiM:bx→Nat
  | .box cs=>MW cs
  | .loop _ _ fr _ _ _=>MW fr
  | .map dP _=>dP.foldr (fun k n=>max (YF k.2.2) n) 0
  | .jJ m _ _ _=>m+1
  | _=>0
def adp (l:List bx):Nat:=l.foldr (fun B n=>max (aiM B) n) 0
def YG:Nat→Nat→List bx→Nat
  | 0,n,_=>n
  | k+1,n,mem=>let m:=max n (adp (mem.take n));if m=n then n else YG k m mem
def adq (lo:Nat) (r:V) (mem:List bx):Option (V×List bx) :=
  let n:=YG 8 (max lo (YF r)) mem
  if lo≤n∧aG n r=true∧(mem.take n).all (aK n)=true then some (r,mem.take n) else none
def zL:Exit→Bool
  | .ret=>true
  | .normal=>true
  | _=>false
def Lq:Value→Value→Bool
  | .agg a,.agg b=>o6 a.toList b.toList
  | .tuple a,.tuple b=>o6 a.toList b.toList
  | .func (.func f) a b,.func (.func g) c d=>f==g&&a.isEmpty&&b.isEmpty&&c.isEmpty&&d.isEmpty
  | a,b=>Ew a b
theorem G7 {a b:Value} (h:Lq a b=true):a=b:=by
  unfold Lq at h;split at h;·rename_i x y;rw [← cE (xs:=x),qM h,cE]
  ·rename_i x y;rw [← cE (xs:=x),qM h,cE]
  ·simp only [aL,beq_iff_eq,Array.isEmpty_iff] at h;obtain⟨⟨⟨⟨rfl,rfl⟩,rfl⟩,rfl⟩,rfl⟩:=h;rfl
  ·exact C8 h
mutual
def lK:V→V→Bool
  | .undef,.undef=>true
  | .gn,.gn=>true
  | .sc a,.sc b=>Lq a b
  | .agg a,.agg b=>kh a b
  | .eg a,.eg b=>kh a b
  | .slice a,.slice b=>kh a b
  | .full a,.full b=>kh a b
  | .fq a,.fq b=>kh a b
  | .ms a b c d,.ms a' b' c' d'=>a==a'&&b==b'&&c==c'&&d==d'
  | .ptr a b,.ptr a' b'=>a==a'&&b==b'
  | .iv a b c d,.iv a' b' c' d'=>a==a'&&b==b'&&c==c'&&d==d'
  | .mp a,.mp b=>a==b
  | .j9 a,.j9 b=>a==b
  | .iU (.func f) a b,.iU (.func g) c d=>f==g&&kh a c&&kh b d
  | _,_=>false
def kh:List V→List V→Bool
  | [],[]=>true
  | a :: r,b :: s=>lK a b&&kh r s
  | _,_=>false
end
mutual
theorem vX:∀ {a b:V},lK a b=true→a=b
  | .undef,b,h=>by cases b <;> simp [lK] at h <;> rfl
  | .gn,b,h=>by cases b <;> simp [lK] at h <;> rfl
  | .sc a,b,h=>by
    cases b <;> simp only [lK,bF] at h
    rw [G7 h]
  | .agg a,b,h=>by
    cases b <;> simp only [lK,bF] at h
    rw [gU h]
  | .eg a,b,h=>by
    cases b <;> simp only [lK,bF] at h
    rw [gU h]
  | .slice a,b,h=>by
    cases b <;> simp only [lK,bF] at h
    rw [gU h]
  | .full a,b,h=>by
    cases b <;> simp only [lK,bF] at h
    rw [gU h]
  | .fq a,b,h=>by
    cases b <;> simp only [lK,bF] at h
    rw [gU h]
  | .ms _ _ _ _,b,h=>by
    cases b <;> simp only [lK,bF,aL,beq_iff_eq] at h
    obtain⟨⟨⟨rfl,rfl⟩,rfl⟩,rfl⟩:=h;rfl
  | .ptr _ _,b,h=>by
    cases b <;> simp only [lK,bF,aL,beq_iff_eq] at h
    obtain⟨rfl,rfl⟩:=h;rfl
  | .iv _ _ _ _,b,h=>by
    cases b <;> simp only [lK,bF,aL,beq_iff_eq] at h
    obtain⟨⟨⟨rfl,rfl⟩,rfl⟩,rfl⟩:=h;rfl
  | .mp _,b,h=>by
    cases b <;> simp only [lK,bF,beq_iff_eq] at h
    rw [h]
  | .j9 _,b,h=>by
    cases b <;> simp only [lK,bF,beq_iff_eq] at h
    rw [h]
  | .iU f a c,b,h=>by
    cases b with
    | iU g a' c' =>
      cases f <;> cases g <;> simp only [lK,bF,aL,beq_iff_eq] at h
      obtain⟨⟨rfl,h1⟩,h2⟩:=h
      rw [gU h1,gU h2]
    | _=>cases f <;> simp [lK] at h
theorem gU:∀ {a b:List V},kh a b=true→a=b
  | [],b,h=>by cases b <;> simp [kh] at h <;> rfl
  | c :: r,b,h=>by
    cases b with
    | nil=>simp [kh] at h
    | cons d s =>
      simp only [kh,aL] at h
      rw [vX h.1,gU h.2]
end
def tj:List (Value×Nat×V)→List (Value×Nat×V)→Bool
  | [],[]=>true
  | a :: r,b :: s=>Lq a.1 b.1&&a.2.1==b.2.1&&lK a.2.2 b.2.2&&tj r s
  | _,_=>false
theorem AV:∀ {a b:List (Value×Nat×V)},tj a b=true→a=b
  | [],[],_=>rfl
  | (k,n,v) :: r,(k',n',v') :: s,h=>by
    simp only [tj,aL,beq_iff_eq] at h
    obtain⟨⟨⟨h1,h2⟩,h3⟩,h4⟩:=h
    rw [G7 h1,h2,vX h3,AV h4]
  | [],_ :: _,h=>by simp [tj] at h
  | _ :: _,[],h=>by simp [tj] at h
def PQ:bx→bx→Bool
  | .hole,.hole=>true
  | .dead,.dead=>true
  | .og,.og=>true
  | .box a,.box b=>kh a b
  | .rows v e a,.rows v' e' b=>v==v'&&e==e'&&kh a b
  | .rP v e a,.rP v' e' b=>v==v'&&e==e'&&kh a b
  | .map a c,.map b d=>c==d&&tj a b
  | .jJ a b c d,.jJ a' b' c' d'=>a==a'&&b==b'&&c==c'&&d==d'
  | _,_=>false
theorem PR {a b:bx} (h:PQ a b=true):a=b:=by
  unfold PQ at h;split at h;·rfl
  ·rfl
  ·rfl
  ·rw [gU h]
  ·simp only [aL,beq_iff_eq] at h;obtain⟨⟨rfl,rfl⟩,h⟩:=h;rw [gU h]
  ·simp only [aL,beq_iff_eq] at h;obtain⟨⟨rfl,rfl⟩,h⟩:=h;rw [gU h]
  ·simp only [aL,beq_iff_eq] at h;obtain⟨rfl,h⟩:=h;rw [AV h]
  ·simp only [aL,beq_iff_eq] at h;obtain⟨⟨⟨rfl,rfl⟩,rfl⟩,rfl⟩:=h;rfl
  ·cases h
def sx:List bx→List bx→Bool
  | [],[]=>true
  | a :: r,b :: s=>PQ a b&&sx r s
  | _,_=>false
theorem tl:∀ {a b:List bx},sx a b=true→a=b
  | [],[],_=>rfl
  | x :: r,y :: s,h=>by simp only [sx,aL] at h;rw [PR h.1,tl h.2]
  | [],_ :: _,h=>by simp [sx] at h
  | _ :: _,[],h=>by simp [sx] at h
def dedup:List (V×List bx)→List (V×List bx)
  | []=>[]
  | p :: r=>if (dedup r).any (fun q=>lK p.1 q.1&&sx p.2 q.2)=true then dedup r else p :: dedup r
theorem xx:∀ {l:List (V×List bx)} {p:V×List bx},p∈l→p∈dedup l
  | q :: r,p,h=>by
    simp only [dedup]
    split
    · rename_i As
      rcases cI.1 h with rfl|h
      · obtain⟨q',h1,h2⟩:=tV.1 As
        simp only [aL] at h2
        have:p=q':=arz (vX h2.1) (tl h2.2)
        rw [this];exact h1
      · exact xx h
    · rcases cI.1 h with rfl|h
      · exact cA ..
      · exact ct _ (xx h)
def Un (P:Program) (tt:Table) (code:qg):l9:=fun f vs mem =>
  match P.funcs[f]? with
  | some fn=>match fn.body with
    | some body=>(qh (fWs vs fun vs=>PN mem fun mem=>Uj true none [] (cO fn vs mem) fun s=>code false body s) fun o=>if zL o.1=true then (match pH tt fn.results o.2 with
      | some r=>fV r fun r=>match adq mem.length r o.2.mem with|some p=>PN p.2 fun m=>some [(p.1,m)]|none=>none
      | none=>none) else none).map dedup
    | none=>none
  | none=>none
def Dm (P:Program) (tt:Table) (code:qg):qi:=fun f vs =>
  match P.funcs[f]? with
  | some fn=>match fn.body with
    | some body=>match qh (fWs vs fun vs=>Uj true none [] (cO fn vs []) fun s=>code false body s) fun o=>if zL o.1=true then (match nU tt fn.results o.2 with|some r=>fV r fun r=>some [r]|none=>none) else none with
      | some (r :: rs)=>if rs.all (lK r)=true then some r else none
      | _=>none
    | none=>none
  | none=>none
def Jz:List (V×List bx)→Option (Nat×Nat×List V)
  | [(.ms 0 v 0 l,[.rows v' e rs])]=>if v'=v∧l=rs.length then some (v,e,rs) else none
  | [(.ms 0 v 0 0,[.rows v' e []]),(.sc (.slice none 0 0),[])]=>if v'=v then some (v,e,[]) else none
  | [(.sc (.slice none 0 0),[]),(.ms 0 v 0 0,[.rows v' e []])]=>if v'=v then some (v,e,[]) else none
  | _=>none
theorem JA {outs:List (V×List bx)} {v e:Nat} {rs:List V} (h:Jz outs=some (v,e,rs)):∀ r m,(r,m)∈outs→(r = .ms 0 v 0 rs.length∧m=[.rows v e rs])∨(r = .sc (.slice none 0 0)∧m=[]∧rs=[]):=by
  unfold Jz at h;split at h;·split at h;(·rename_i hc;cases h;obtain⟨rfl,rfl⟩:=hc;intro r m hm;simp at hm;exact .inl hm);·cases h
  ·split at h;(·rename_i hc;cases h;subst hc;intro r m hm;simp at hm;(rcases hm with ⟨rfl,rfl⟩|⟨rfl,rfl⟩);(·exact .inl ⟨rfl,rfl⟩);·exact .inr ⟨rfl,rfl,rfl⟩);·cases h
  ·split at h;(·rename_i hc;cases h;subst hc;intro r m hm;simp at hm;(rcases hm with ⟨rfl,rfl⟩|⟨rfl,rfl⟩);(·exact .inr ⟨rfl,rfl,rfl⟩);·exact .inl ⟨rfl,rfl⟩);·cases h
  ·cases h
theorem jK.live {P:Program} {f:FuncId} {vs:List V} {R:V→List bx→Prop} {v e:Nat} {rs:List V} (h:jK P f vs [] R) (hR:∀ r m,R r m→(r = .ms 0 v 0 rs.length∧m=[.rows v e rs])∨(r = .sc (.slice none 0 0)∧m=[]∧rs=[])):AB P f vs e rs:=by
  refine⟨v,h.1,fun E w xs hs hx=>(h.2 E w xs hs hx).mono ?_⟩;rintro en w' ⟨E',x,r,m,rfl,hr,gE,pO,kF⟩;rcases hR r m hr with ⟨rfl,rfl⟩|⟨rfl,rfl,rfl⟩
  ·exact⟨E',x,rfl,gE,pO,kF⟩
  ·obtain rfl:=fu kF;exact⟨E',_,rfl,gE,by simpa using pO.GQ v e,.ja _ _ _ _⟩
def PS (P:Program) (tt:Table) (code:qg):yB:=fun f vs =>
  match Un P tt code f vs [] with
  | some outs=>match Jz outs with|some (_,e,rs)=>some (e,rs)|none=>none
  | none=>none
def PT (lo:Nat) (b:Bool) (m:List bx):Option (List (Bool×List bx)) :=
  let n:=YG 8 lo m
  if lo≤n∧(m.take n).all (aK n)=true then PN (m.take n) fun m=>some [(b,m)] else none
theorem JB {lo:Nat} {b:Bool} {m:List bx} {x:List (Bool×List bx)} (h:PT lo b m=some x):∃ n,lo≤n∧(m.take n).all (aK n)=true∧(b,m.take n)∈x:=by
  unfold PT at h;dsimp only at h;split at h;·rename_i hc;rw [qQ] at h;cases h;exact⟨_,hc.1,hc.2,by simp⟩
  ·cases h
def Uo (code:qg):MR:=fun k vs mem =>
  match mem[k]? with
  | some (.loop .ready none fr params assign body) =>
    if vs.length=params.size then
      qh (fWs vs fun vs=>Uj true none [] { fr:=o7 params.toList vs fr,mem:=mem } fun s=>code true assign s) fun o=>match o.1,o.2.mem[k]? with
        | .normal,some (.loop .ready none V9 p1 T6 T7) =>
          qh (Uj true none [] { o.2 with mem:=o.2.mem.set k (.loop .busy none V9 p1 T6 T7) } fun s=>code true body s) fun u=>match si u.1,u.2.mem[k]? with
            | some jump,some (.loop _ _ T8 p2 Ps Pt) =>
              PT mem.length jump.isNone (u.2.mem.set k (.loop (if jump.isNone then .ready else .done) jump T8 p2 Ps Pt))
            | _,_=>none
        | _,_=>none
    else none
  | _=>none
def Up:LoopState→Bool
  | .busy=>false
  | _=>true
def xy {α:Type} (f:α→Option (List (Exit×St))):List α→Option (List (Exit×St))
  | []=>none
  | a :: r=>match f a with|some x=>some x|none=>xy f r
theorem yD {α:Type} {f:α→Option (List (Exit×St))}:∀ {l:List α} {x:List (Exit×St)},xy f l=some x→∃ a∈l,f a=some x
  | [],x,h=>by cases h
  | a :: r,x,h=>by
    simp only [xy] at h
    split at h
    · rename_i hx;cases h;exact⟨a,cA ..,hx⟩
    · obtain⟨b,h1,h2⟩:=yD h;exact⟨b,ct _ h1,h2⟩
def YH (ny:FuncId→List V→Option V) (pure:qi):qi:=fun f vs=>match ny f vs with|some r=>some r|none=>pure f vs
theorem Uq {P:Program} {ny:FuncId→List V→Option V} {pure:qi} (h:rB P ny) (hp:uM P pure):uM P (YH ny pure):=fun f vs r hr=>by
  unfold YH at hr;split at hr;·rename_i r' h1;cases hr;exact h _ _ _ h1
  ·exact hp _ _ _ hr
theorem bI.Dn {P:Program} {f:FuncId} {vs:List V} {mem m m2:List bx} {v v':V} (h:bI P f vs mem v m)
    (step:∀ (E:Env) (w:World) (x:Value),de E w { tmps := #[],defers:=[] } { fr:=[],mem:=m }→cY E v x→∃ E2,de E2 w { tmps := #[],defers:=[] } { fr:=[],mem:=m2 }∧ic E w E2 w∧cY E2 v' x)
    (hv:aG mem.length v'=true) (hm:(m2.take mem.length).all (aK mem.length)=true):bI P f vs mem v' (m2.take mem.length):=by
  refine⟨h.1,fun E w xs hs hx=>(h.2 E w xs hs hx).mono ?_⟩;rintro e w' ⟨E',x,rfl,gE,pO,kF⟩;obtain⟨E2,s2,ev2,YB⟩:=step E' w' x pO kF;have he:=gE.trans ev2;have hc:=s2.cut (n:=mem.length) rfl hm;refine⟨E2.cut mem.length,x,rfl,⟨⟨he.le.F,fun k v t hk=>?_⟩,fun k v g e c hk=>?_,he.F,he.os,he.tape,he.output,he.size,he.heap⟩,hc,iP YB hv⟩;·(have:k<mem.length:=by (rcases bz k mem.length with bL|gq);(·exact bL);·rw [hs.top k gq v] at hk;cases hk);exact (if_pos this).trans (he.le.cC _ _ _ hk)
  ·(have:E2.cC k v=some (g,e,c):=by by_cases iz:k<mem.length;(·exact ((if_pos iz).symm.trans hk:E2.cC k v=_));·have h2:(E2.cut mem.length).cC k v=none:=if_neg iz;rw [h2] at hk;cases hk);exact he.cC _ _ _ _ _ this
theorem bI.YI {P:Program} {f:FuncId} {vs:List V} {mem m:List bx} {v v':V} (h:bI P f vs mem v m) (hp:ke m v=some v') (hv:aG mem.length v'=true) (hm:((fw m (fP v)).take mem.length).all (aK mem.length)=true) :
    bI P f vs mem v' ((fw m (fP v)).take mem.length):=h.Dn (fun E w x hs kF=>by
  obtain⟨E2,s2,ev2,r2⟩:=hs.freeze (vs:=[v]) (vs':=[v']) (by simp [iE,hp])
  have hr:[v].flatMap fP=fP v:=by simp
  rw [hr] at s2
  obtain⟨y,ys,hy,YB,-⟩:=(r2 [x] (.cons kF (.nil _))).of_cons
  cases hy
  exact⟨E2,s2,ev2,YB⟩) hv hm
def YJ (n:Nat) (v:V) (m:List bx):Option (V×List bx) :=
  if m.length=n then some (v,m) else match v with
    | .ptr k 0=>match m[k]? with
      | some (.box cs)=>if n≤k∧cs.all kY=true∧((m.set k .dead).take n).all (aK n)=true then some (.fq cs,(m.set k .dead).take n) else none
      | _=>none
    | _=>match ke m v with
      | some v'=>if aG n v'=true∧((fw m (fP v)).take n).all (aK n)=true then some (v',(fw m (fP v)).take n) else none
      | none=>none
theorem Ur {P:Program} {f:FuncId} {vs:List V} {mem m0 m:List bx} {v0 v:V} (h:bI P f vs mem v0 m0) (EO:YJ mem.length v0 m0=some (v,m)):bI P f vs mem v m:=by
  unfold YJ at EO;split at EO;·cases EO;exact h
  ·split at EO;(·rename_i k;split at EO;(·rename_i cs hk;split at EO;(·rename_i vf;cases EO;refine h.Dn (fun E w x hs kF=>?_) (by simp [aG]) vf.2.2;exact hs.YA kF hk vf.2.1);·cases EO);·cases EO);·split at EO;(·rename_i w hw;split at EO;(·rename_i vf;cases EO;exact h.YI hw vf.1 vf.2);·cases EO);·cases EO
def YK (call:l9):G4:=fun f vs k mem =>
  match mem[k]? with
  | some B0=>match call f vs mem with
    | some [(v0,m0)]=>match YJ mem.length v0 m0 with
      | some (v,m)=>match m[k]? with
        | some B=>if B0.dZ=0∧B.dZ=0∧sx m (mem.set k B)=true then some (v,B) else none
        | none=>none
      | none=>none
    | _=>none
  | none=>none
theorem Ut {P:Program} {call:l9} (hc:kP P call):Lp P (YK call):=by
  intro f vs k mem v B h;unfold YK at h;split at h;·rename_i B0 h0;split at h;(·rename_i v0 m0 hf;split at h;(·rename_i v' m EO;split at h;(·rename_i B' hB;split at h;(·rename_i rV;cases h;obtain⟨h1,h2,h3⟩:=rV;have e:=tl h3;have h4:=hc f vs mem _ hf;have h5:bI P f vs mem v0 m0:=⟨h4.1,fun E w xs hs hx=>(h4.2 E w xs hs hx).mono fun e w' ⟨E',x,r',m',p1,p2,p4⟩=>by simp only [dq,dy] at p2;obtain⟨rfl,rfl⟩:=p2;exact⟨E',x,p1,p4⟩⟩;refine⟨B0,h0,h1,h2,?_⟩;rw [← e];exact Ur h5 EO);·cases h);·cases h);·cases h);·cases h
  ·cases h
def PU (ops:List Oper) (st:St) (x:Operand):Option Nat :=
  match (match x with
    | .tmp t=>(match ops.find? (fun o:Oper=>o.dst==some t) with
      | some o=>(match o.op with|.fieldAddr _ y _=>some (st.eval y)|.move y=>some (st.eval y)|_=>none)
      | none=>none)
    | _=>none) with
  | some (.ptr k _)=>some k
  | _=>match st.eval x with
    | .ptr k _=>some k
    | _=>none
def G8 (ops:List Oper) (st:St):List Oper→List Pl→List (Nat×Nat)
  | o :: r,p :: ps=>if p.cls = .e∧900≤p.key then (match o.op with|.store _ x _=>(match PU ops st x with|some k=>(p.key,k) :: G8 ops st r ps|none=>G8 ops st r ps)|_=>G8 ops st r ps) else G8 ops st r ps
  | _,_=>[]
def Uu (mem:List bx) (w:Nat):Nat:=match mem[w]? with
  | some (.box cs)=>match (cs[8]?:Option V) with
    | some (.iU _ _ _)=>w
    | _=>match (cs[6]?:Option V) with
      | some (.iU _ _ [.ptr okk _,.ptr tk _])=>match (mem[tk]?:Option bx) with
        | some (.box [.iU _ _ [.ptr ik _]])=>match (mem[ik]?:Option bx) with
          | some (.box [.mp m])=>m
          | _=>okk
        | _=>okk
      | _=>w
  | _=>w
def EP (ops:List Oper) (st:St):List Oper→List (Nat×Nat)
  | o :: r=>match o.op with
    | .call { callee:=.value _,args:=xs,.. }=>match xs.toList with
      | x :: _=>match PU ops st x with
        | some w=>[(99,Uu st.mem w)]
        | none=>EP ops st r
      | []=>EP ops st r
    | _=>EP ops st r
  | []=>[]
def ads (l:List (Nat×Nat)) (a:Nat):Nat:=match l.find? (fun p:Nat×Nat=>p.1==a) with
  | some p=>p.2
  | none=>a
def PV (ops:Array Oper) (st:St) (pl:List Pl):List Pl:=match EP ops.toList st ops.toList++G8 ops.toList st ops.toList pl with
  | []=>pl
  | l=>pl.map fun p => { p with key:=if p.cls = .e then ads l p.key else p.key,abs:=p.abs.map (ads l) }
def fnM (tM call:l9):l9:=fun f vs mem=>match tM f vs mem with
  | some r=>some r
  | none=>call f vs mem
theorem JC {P:Program} {tM call:l9} (ho:kP P tM) (hc:kP P call):kP P (fnM tM call):=fun f vs mem outs h=>by
  unfold fnM at h;split at h;·rename_i hr;cases h;exact ho _ _ _ _ hr
  ·exact hc _ _ _ _ h
def noM:l9:=fun _ _ _=>none
theorem YL {P:Program}:kP P noM:=fun _ _ _ _ h=>by cases h
def Uv (P:Program) (tt:Table) (nat:qP) (ny:FuncId→List V→Option V) (tM:l9) (code:qg) (ops:Array Oper) (st:St) (p:List Pl×Nat):Option (List (Exit×St)) :=
  if ug ops (PV ops st p.1)=true then (match G6 P tt nat (YH ny (Dm P tt code)) (PS P tt code) (YK (fnM tM (Un P tt code))) ops st.mem.length ops.toList (PV ops st p.1) { st with mem:=st.mem++List.replicate p.2 .hole } with
    | some s=>some [(.normal,s)]
    | none=>none) else none
def pJ (P:Program) (tt:Table) (pl:GV) (nat:qP) (ny:FuncId→List V→Option V) (tM:l9) (code:qg):qg:=fun ρ c st =>
  match c with
  | .skip=>some [(.normal,st)]
  | .ret=>some [(.ret,st)]
  | .exit id=>some [(.exit id,st)]
  | .seq a b=>qh (code ρ a st) fun o=>match o.1 with
    | .normal=>code ρ b o.2
    | e=>some [(e,o.2)]
  | .cond x a b=>match st.eval x with
    | .sc (.bool t)=>code ρ (if t=true then a else b) st
    | _=>none
  | .block id c=>qh (code ρ c st) fun o=>match o.1 with
    | .exit j=>if j=id then some [(.normal,o.2)] else some [(.exit j,o.2)]
    | e=>some [(e,o.2)]
  | .loop c=>qh (code ρ c st) fun o=>match o.1 with
    | .normal=>code ρ (.loop c) o.2
    | e=>some [(e,o.2)]
  | .region _ ops false=>match MU P tt nat ny (fnM tM (Un P tt code)) (Uo code) ops ops.toList st with
    | some l=>some (l.map fun s=>(.normal,s))
    | none=>match G1 st with
      | some st'=>qh (MU P tt nat ny (fnM tM (Un P tt code)) (Uo code) ops ops.toList st') fun s=>some [(.normal,s)]
      | none=>none
  | .region id ops true=>match xy (Uv P tt nat ny tM code ops st) (pl id ops) with
    | some x=>some x
    | none=>match G1 st with
      | some st'=>xy (Uv P tt nat ny tM code ops st') (pl id ops)
      | none=>none
  | .rangeFunc f params assign body=>if ρ=true then none else
    match di (st.eval f) [.j9 st.mem.length] with
    | some (g,vs)=>qh (Un P tt code g vs (st.mem++[.loop .ready none st.fr params assign body])) fun o=>match o.2[st.mem.length]? with
      | some (.loop s nP _ _ _ _)=>if Up s=true then (match nP with
        | none=>Uj true none [] { st with mem:=o.2.set st.mem.length .dead } fun s=>some [(.normal,s)]
        | some c=>Uj true none [] { st with mem:=o.2.set st.mem.length .dead } fun s=>code false c s) else none
      | _=>none
    | none=>none
  | _=>none
def ev (P:Program) (tt:Table) (pl:GV) (nat:qP) (ny:FuncId→List V→Option V) (tM:l9) (n:Nat):qg:=Nat.rec (fun _ _ _=>none) (fun _ r=>pJ P tt pl nat ny tM r) n
def AW (P:Program) (code:qg):Prop:=∀ b c st outs,code b c st=some outs→∀ (ρ:Option Nat) (n0:Nat) (Q:Exit→St→Prop),(b=true∨ρ=none)→(∀ o∈outs,Q o.1 o.2)→ek P ρ n0 c st Q
section
variable {P:Program} {tt:Table} {pl:GV} {nat:qP} {ny:FuncId→List V→Option V} {tM:l9} (ht:TT P tt) (hm:P.follows .mixedOrders=true)
  (gL:∀ (f:FuncId) (fn:Func) (body:Code),P.funcs[f]?=some fn→fn.body=some body→∀ (xs:Array Value) (w:World),(callFunc f xs).run P w = .ok (.enter f xs) w)
include ht gL
theorem xz {code:qg} (Wj:AW P code):kP P (Un P tt code):=by
  intro f vs mem outs h;unfold Un at h;split at h;·rename_i fn hf;split at h;(·rename_i body hb;rw [bc] at h;obtain⟨amq,h,Py⟩:=h;obtain⟨l,h1,h2⟩:=iQ h;rw [EI,qQ,uL] at h1;refine Pr ht hf hb (gL f fn body hf hb) (Wj _ _ _ _ h1 none _ _ (.inr rfl) fun o ho=>?_);obtain⟨b,h3,h4⟩:=h2 o ho;split at h3;(·rename_i he;split at h3;(·rename_i r hr;rw [GZ] at h3;split at h3;(·rename_i p hp;rw [qQ] at h3;cases h3;unfold adq at hp;dsimp only at hp;split at hp;(·rename_i rV;cases hp;refine⟨?_,r,_,rV.1,hr,rV.2.1,rV.2.2,by rw [← Py];exact xx (h4 _ (by simp))⟩;cases ho1:o.1 <;> simp [zL,ho1] at he <;> simp);·cases hp);·cases h3);·cases h3);·cases h3);·cases h
  ·cases h
theorem G9 {code:qg} (Wj:AW P code):uM P (Dm P tt code):=by
  intro f vs r h;unfold Dm at h;split at h;·rename_i fn hf;split at h;(·rename_i body hb;split at h;(·rename_i r1 rs w9;split at h;(·rename_i dN;cases h;obtain⟨l,h1,h2⟩:=iQ w9;rw [EI,uL] at h1;refine jL ht hf hb (gL f fn body hf hb) (Wj _ _ _ _ h1 none _ _ (.inr rfl) fun o ho=>?_);obtain⟨b,h3,h4⟩:=h2 o ho;split at h3;(·rename_i he;split at h3;(·rename_i r2 hr;rw [GZ] at h3;cases h3;(have Gj:r2=r:=by (rcases cI.1 (h4 r2 (by simp)) with h|h);(·exact h);·exact (vX (aZ.1 dN _ h)).symm);subst Gj;refine⟨?_,hr⟩;cases ho1:o.1 <;> simp [zL,ho1] at he <;> simp);·cases h3);·cases h3);·cases h);·cases h);·cases h
  ·cases h
theorem PW {code:qg} (Wj:AW P code):EJ P (PS P tt code):=by
  intro f vs e rs h;unfold PS at h;split at h;·rename_i outs ho;split at h;(·rename_i v e' mZ hl;cases h;exact (xz ht gL Wj f vs [] outs ho).live fun r m hr=>JA hl r m hr);·cases h
  ·cases h
omit ht gL in
theorem Lr {code:qg} (Wj:AW P code):PL P (Uo code):=by
  intro k vs mem outs h;unfold Uo at h;split at h;·rename_i fr params assign body hk;split at h;(·rename_i hlen;obtain⟨l1,h1,h2⟩:=iQ h;rw [EI,uL] at h1;refine vM hk hlen fun l=>Wj _ _ _ _ h1 (some l) _ _ (.inl rfl) fun o ho=>?_;obtain⟨b,h3,h4⟩:=h2 o ho;split at h3;(·rename_i V9 p1 T6 T7 he iw;refine⟨he,V9,p1,T6,T7,iw,?_⟩;obtain⟨l2,h5,h6⟩:=iQ h3;rw [uL] at h5;refine Wj _ _ _ _ h5 (some l) _ _ (.inl rfl) fun u hu=>?_;obtain⟨b2,h7,h8⟩:=h6 u hu;split at h7;(·rename_i jump s2 pe2 T8 p2 Ps Pt hj kG;obtain⟨n,hn,Th,pw⟩:=JB h7;exact⟨n,jump,s2,pe2,T8,p2,Ps,Pt,hn,hj,kG,Th,h4 _ (h8 _ pw)⟩);·cases h7);·cases h3);·cases h
  ·cases h
include hm in
theorem Wk (EH:rB P ny) (PX:kP P tM) (uh:nC P nat):∀ (n:Nat),AW P (ev P tt pl nat ny tM n)∧∀ b c st outs,ev P tt pl nat ny tM n b (.loop c) st=some outs→∀ (ρ:Option Nat) (n0:Nat) (Q:Exit→St→Prop),(b=true∨ρ=none)→(∀ o∈outs,Q o.1 o.2)→l5 P ρ n0 c n st Q:=by
  intro n
  induction n with
  | zero=>exact⟨fun b c st outs h=>by simp [ev] at h,fun b c st outs h=>by simp [ev] at h⟩
  | succ n ih =>
    obtain⟨Ls,ihl⟩:=ih
    have js:∀ b c st,ev P tt pl nat ny tM (n+1) b c st=pJ P tt pl nat ny tM (ev P tt pl nat ny tM n) b c st:=fun _ _ _=>rfl
    have loop:∀ b c st outs,ev P tt pl nat ny tM (n+1) b (.loop c) st=some outs→∀ (ρ:Option Nat) (n0:Nat) (Q:Exit→St→Prop),(b=true∨ρ=none)→(∀ o∈outs,Q o.1 o.2)→l5 P ρ n0 c (n+1) st Q:=by
      intro b c st outs h ρ n0 Q hb hQ
      rw [js] at h
      simp only [pJ] at h
      obtain⟨l,h1,h2⟩:=iQ h
      refine Ls _ _ _ _ h1 ρ n0 _ hb fun o ho=>?_
      obtain⟨e,s⟩:=o
      obtain⟨b',h3,h4⟩:=h2 _ ho
      cases e with
      | normal=>exact ihl _ _ _ _ h3 ρ n0 Q hb fun o' VZ=>hQ _ (h4 _ VZ)
      | _=>cases h3;exact hQ (_,_) (h4 _ (by simp))
    refine⟨fun b c st outs h ρ n0 Q hb hQ=>?_,loop⟩
    cases c with
    | skip=>rw [js] at h;cases h;exact cw (hQ (_,_) (by simp))
    | ret=>rw [js] at h;cases h;exact cn (hQ (_,_) (by simp))
    | exit id=>rw [js] at h;cases h;exact ep (hQ (_,_) (by simp))
    | seq x y =>
      rw [js] at h
      simp only [pJ] at h
      obtain⟨l,h1,h2⟩:=iQ h
      refine bE (Ls _ _ _ _ h1 ρ n0 _ hb fun o ho=>?_)
      obtain⟨e,s⟩:=o
      obtain⟨b',h3,h4⟩:=h2 _ ho
      cases e with
      | normal=>exact Ls _ _ _ _ h3 ρ n0 Q hb fun o' VZ=>hQ _ (h4 _ VZ)
      | _=>cases h3;exact hQ (_,_) (h4 _ (by simp))
    | cond x y z =>
      rw [js] at h
      simp only [pJ] at h
      split at h
      · rename_i t hx
        exact bd hx (Ls _ _ _ _ h ρ n0 Q hb hQ)
      · cases h
    | block id c =>
      rw [js] at h
      simp only [pJ] at h
      obtain⟨l,h1,h2⟩:=iQ h
      refine bU (Ls _ _ _ _ h1 ρ n0 _ hb fun o ho=>?_)
      obtain⟨e,s⟩:=o
      obtain⟨b',h3,h4⟩:=h2 _ ho
      cases e with
      | exit j =>
        dsimp only at h3
        simp only [kg]
        split at h3
        · rename_i hj;cases h3;rw [if_pos hj];exact hQ (_,_) (h4 _ (by simp))
        · rename_i hj;cases h3;rw [if_neg hj];exact hQ (_,_) (h4 _ (by simp))
      | _=>cases h3;exact hQ (_,_) (h4 _ (by simp))
    | loop c=>exact sf (n+1) (loop _ _ _ _ h ρ n0 Q hb hQ)
    | region id ops d =>
      rw [js] at h
      cases d with
      | false =>
        simp only [pJ] at h
        split at h
        · rename_i l h1
          cases h
          exact mH ht (qS EH uh (JC PX (xz ht gL Ls)) (Lr Ls) h1 fun s hs=>hQ (_,_) (eI.2 ⟨s,hs,rfl⟩))
        · split at h
          · rename_i st' Pb
            obtain⟨l,h1,h2⟩:=iQ h
            refine AT Pb (mH ht (qS EH uh (JC PX (xz ht gL Ls)) (Lr Ls) h1 fun s hs=>?_))
            obtain⟨b',h3,h4⟩:=h2 _ hs
            cases h3
            exact hQ (_,_) (h4 _ (by simp))
          · cases h
      | true =>
        simp only [pJ] at h
        have one:∀ (st:St) (outs:List (Exit×St)),(∀ o∈outs,Q o.1 o.2)→xy (Uv P tt nat ny tM (ev P tt pl nat ny tM n) ops st) (pl id ops)=some outs→ek P ρ n0 (.region id ops true) st Q:=fun st outs hQ h=>by
          obtain⟨p,-,hp⟩:=yD h
          unfold Uv at hp
          split at hp
          · rename_i gV
            split at hp
            · rename_i s hs
              cases hp
              exact qf ht hm (PV ops st p.1) p.2 gV (yC uh (Uq EH (G9 ht gL Ls)) (PW ht gL Ls) (Ut (JC PX (xz ht gL Ls))) hs (hQ (_,_) (by simp)))
            · cases hp
          · cases hp
        split at h
        · rename_i x hx;cases h;exact one st _ hQ hx
        · split at h
          · rename_i st' Pb
            exact AT Pb (one st' _ hQ h)
          · cases h
    | rangeFunc f params assign body =>
      rw [js] at h
      simp only [pJ] at h
      split at h
      · cases h
      · rename_i hbf
        have hρ : ρ = none := by rcases hb with h|h
                                 · exact absurd h hbf
                                 · exact h
        subst hρ
        split at h
        · rename_i g vs hg
          obtain⟨l,h1,h2⟩:=iQ h
          refine sk hg (xz ht gL Ls _ _ _ _ h1) fun r y2 hr=>?_
          obtain⟨b',h3,h4⟩:=h2 _ hr
          dsimp only at h3
          split at h3
          · rename_i s nP fr' To Tp Tq T9
            split at h3
            · rename_i qy
              refine⟨s,nP,fr',To,Tp,Tq,T9,(fun e=>by subst e;cases qy),?_⟩
              split at h3
              · rw [uL] at h3;cases h3;exact hQ (_,_) (h4 _ (by simp))
              · rename_i c
                rw [uL] at h3
                exact Ls _ _ _ _ h3 none n0 Q (.inr rfl) fun o' VZ=>hQ _ (h4 _ VZ)
            · cases h3
          · cases h3
        · cases h
    | _=>rw [js] at h;simp [pJ] at h
include hm in
theorem Wl (EH:rB P ny) (PX:kP P tM) (uh:nC P nat) (n:Nat) {f:FuncId} {vs:List V} {r:V} (h:Dm P tt (ev P tt pl nat ny tM n) f vs=some r):b8 P f vs r:=G9 ht gL (Wk ht hm gL EH PX uh n).1 f vs r h
include hm in
theorem YM (EH:rB P ny) (PX:kP P tM) (uh:nC P nat) (n:Nat) {f:FuncId} {vs:List V} {mem:List bx} {outs:List (V×List bx)} (h:Un P tt (ev P tt pl nat ny tM n) f vs mem=some outs):jK P f vs mem fun r m=>(r,m)∈outs:=xz ht gL (Wk ht hm gL EH PX uh n).1 f vs mem outs h
end
def aiN (P:Program):Bool:=P.funcs.all fun fn=>fn.name != "runtime.NumGoroutine"
theorem PY {P:Program} (h:aiN P=true) (f:FuncId) (fn:Func) (body:Code) (hf:P.funcs[f]?=some fn) (hb:fn.body=some body) (xs:Array Value) (w:World):(callFunc f xs).run P w = .ok (.enter f xs) w:=by
  have bL:f<P.funcs.size:=(dO.1 hf).1;have hn:=(Array.all_eq_true.1 h) f bL;have YN:P.funcs[f]=fn:=(dO.1 hf).2;rw [YN] at hn;have dL:(fn.name == "runtime.NumGoroutine")=false:=by simpa using hn
  simp only [callFunc,program,Sem.run_bind];show (match P.funcs[f]? with|none=>_|some fn=>_:Sem Next).run P w=_;rw [hf];dsimp only;rw [dL,hb];rfl
def YO (l:List (Nat×Nat×Nat×List Pl)):GV:=fun id ops =>
  (l.filter fun e=>e.1==id&&e.2.1==ops.size).map fun e=>(e.2.2.2,e.2.2.1)
def JD:List V→Option V
  | [.sc (.string a),.sc (.string b)]=>if 2≤b.size∧Mr b.size=true∧a.size<4294967281 then
      (match (List.range (a.size+1-b.size)).find? fun i=>a.extract i (i+b.size)==b with
        | some i=>some (.sc (.int .i64 i))
        | none=>some (.sc (.int .i64 (-1)))) else none
  | _=>none
theorem MX {P:Program} {f:FuncId} {fn:Func} {g:Nat} (hf:P.funcs[f]?=some fn) (hn:(fn.name == "runtime.NumGoroutine")=false) (hb:fn.body=none) (PZ:Extern.findNext fn=none) (F5:Extern.find fn=some Extern.BytealgIndex.index)
    (hg:∀ w,(globalAddr "internal/bytealg.MaxLen").run P w = .ok ⟨g,0,none⟩ w) (hG:bB.g=some g) {vs:List V} {r:V} (h:JD vs=some r):r7 P f vs r:=fun E w xs hF hx=>by
  unfold JD at h
  split at h
  · rename_i a b
    split at h
    · rename_i hc
      obtain⟨h2,hm,ha⟩:=hc
      rw [D8] at hm
      have hm:(b.size:Int)≤bB.n:=by simpa using hm
      obtain⟨x,r1,hy,Cr,hx⟩:=hx.of_cons
      obtain⟨y,r2,hz,Gj,hx⟩:=hx.of_cons
      have:=hx.of_nil
      subst this;subst hz
      obtain rfl:=fu Cr
      obtain rfl:=fu Gj
      obtain rfl:xs = #[.string a,.string b]:=by rw [← cE (xs:=xs),hy]
      have p8:w.cell? ⟨g,0,none⟩=some (.int .i64 bB.n):=hF _ _ (E.gl.n g hG)
      have aiO:Extern.BytealgIndex.maxLen.run P w = .ok bB.n w:=by
        simp [Extern.BytealgIndex.maxLen,hg,load,Sem.run,p8,asInt,asIntOf]
      have fj:(Extern.BytealgIndex.index #[.string a,.string b]).run P w = .ok (match (List.range (a.size+1-b.size)).find? fun i=>a.extract i (i+b.size)==b with|some i=>goInt i|none=>goInt (-1)) w:=by
        show (do
          let a ← Extern.Bytes.bytesOf (.string a)
          let b ← Extern.Bytes.bytesOf (.string b)
          if b.size<2||(b.size:Int)>(← Extern.BytealgIndex.maxLen) then
            unsupported (.noEntry "extern/internal/bytealg.Index.length")
          if a.size≥2 ^ 32-15 then
            unsupported (.noEntry "extern/internal/bytealg.Index: a haystack of 2^32 - 15 bytes or more")
          match (List.range (a.size+1-b.size)).find? fun i=>a.extract i (i+b.size)==b with
          | some i=>pure (goInt i)
          | none=>pure (goInt (-1)):Sem Value).run P w=_
        have e1:(decide (b.size<2))=false:=by simp;omega
        have e2:decide ((b.size:Int)>bB.n)=false:=by simp;omega
        have e3:¬ a.size≥2 ^ 32-15:=by omega
        simp only [Extern.Bytes.bytesOf,Sem.run_bind,Sem.run_pure,Result.andThen_ok,aiO,e1,e2,bu,bF,if_false,e3]
        split <;> rfl
      refine⟨(match (List.range (a.size+1-b.size)).find? fun i=>a.extract i (i+b.size)==b with|some i=>goInt i|none=>goInt (-1)),?_,?_⟩
      · simp only [callFunc,program,Sem.run_bind]
        show (match P.funcs[f]? with|none=>_|some fn=>_:Sem Next).run P w=_
        rw [hf]
        dsimp only
        rw [hn,hb]
        simp only [bF,if_false,abY,if_true,PZ,F5,Sem.run_bind,mark,Sem.run,Result.andThen_ok]
        rw [fj];rfl
      · split at h
        · cases h;exact .sc _ _
        · cases h;exact .sc _ _
    · cases h
  · cases h
end Go.Eng
end
