import Derived.Test.YtfbbfmcggbapoaaGreatDoorE3
open Array renaming getElem?_eq_some_iff->dT,toArray_toList->cJ
open Bool renaming and_eq_true->aG,false_eq_true->bw,or_self->bg
open List renaming all_eq_true->ba,any_eq_true->u1,ext_getElem?->eh,getD_eq_getElem?_getD->eY,getElem?_cons_succ->cu,getElem?_cons_zero->aI,getElem?_eq_getElem->bf,getElem?_eq_none->ep,getElem?_map->ae,getElem?_set->cf,mem_append_left->fT,mem_append_right->gO,mem_cons->dp,mem_cons_of_mem->bZ,mem_cons_self->cP,mem_map->dS,mem_singleton->ei,not_mem_nil->ja
open Nat renaming lt_or_ge->bn,zero_add->dc
open Option renaming isNone_none->aeX,map_eq_some_iff->bp
open Option.some renaming injEq->aD
open Prod renaming ext->avZ
open Prod.mk renaming injEq->dK
set_option linter.all false
section
namespace Go.Eng
variable [bJ]
abbrev IG:=Nat->Array Oper->List (List Pl×Nat)
abbrev my:=FuncId->List V->List bx->Option (List (V×List bx))
abbrev rA:=FuncId->List V->Option V
def nY (P:g7) (nat:rA):Prop:=∀ f vs r,nat f vs=some r->sS P f vs r
abbrev Pw:=Nat->List V->List bx->Option (List (Bool×List bx))
abbrev qH:=Bool->Code->St->Option (List (Exit×St))
def qI {α β:Type} (x:Option (List α)) (f:α->Option (List β)):Option (List β) :=
  match x with
  | none=>none
  | some l=>l.foldr (fun a acc=>match f a,acc with|some b,some c=>some (b++c)|_,_=>none) (some [])
theorem Ey {α β:Type} {f:α->Option (List β)}:∀ {l:List α} {out:List β},qI (some l) f=some out->∀ a∈l,∃ b,f a=some b/\∀ x∈b,x∈out
  | [],_,_,a,ha=>by simp at ha
  | c :: r,out,h,a,ha=>by
    simp only [qI,List.foldr_cons] at h
    split at h
    · rename_i b t hb hc
      cases h
      rcases dp.1 ha with rfl|ha
      · exact⟨b,hb,fun x hx=>fT _ hx⟩
      · obtain⟨b',h1,h2⟩:=Ey (l:=r) (out:=t) hc a ha
        exact⟨b',h1,fun x hx=>gO _ (h2 x hx)⟩
    · cases h
theorem jd {α β:Type} {x:Option (List α)} {f:α->Option (List β)} {out:List β} (h:qI x f=some out):∃ l,x=some l/\∀ a∈l,∃ b,f a=some b/\∀ y∈b,y∈out:=by cases x with|none=>cases h|some l=>exact⟨l,rfl,Ey h⟩
def R2 (st:St) (it:V) (str:Bool):Option (List (V×List bx)) :=
  match it with
  | .ptr b 0=>match st.mem[b]? with
    | some (.jX m since seen last)=>match st.mem[m]? with
      | some (.map dU clock)=>if str=false/\FX dU seen last=false then
          some ((if (Bs dU seen since).isEmpty then [(Bt,st.mem)] else []) ++
            (Bs dU seen since++Rw dU seen since).map fun e=>(Rx e,st.mem.set b (.jX m since (seen++[e.2.1]) clock)))
        else none
      | _=>none
    | some (.n9 s pos)=>if str=true then (if pos<s.size then some [(YS s pos,st.mem.set b (.n9 s (pos+(Utf8.decode s pos).2)))] else some [(Bt,st.mem)]) else none
    | some .oG=>if str=false then some [(Bt,st.mem)] else none
    | _=>none
  | _=>none
theorem gb {α:Type} {Q:α->Prop} {a:α} (h:∀ p∈[a],Q p):Q a:=h a (ei.2 rfl)
theorem IH {st:St} {dst:Option Tmp} {it:V} {str:Bool} {outs:List (V×List bx)} {Q:St->Prop} (h:R2 st it str=some outs) (hQ:∀ p∈outs,Q (St.put { st with mem:=p.2 } dst p.1)):wM st dst it str Q:=by
  unfold R2 at h;unfold wM;split at h;·split at h;(·rename_i h1;simp only [h1];split at h;(·rename_i h2;simp only [h2];split at h;(·rename_i h3;cases h;refine⟨h3.1,h3.2,fun he=>?_,fun e he=>?_⟩;(·have:=hQ (Bt,st.mem) (by rw [he];exact fT _ (ei.2 rfl));exact this);·have:=hQ _ (gO _ (dS.2 ⟨e,he,rfl⟩));exact this);·cases h);·cases h);(·rename_i h1;simp only [h1];split at h;(·rename_i h3;refine⟨h3,?_⟩;split at h;(·rename_i h4;cases h;rw [gH h4];exact (by have h9:=gb hQ;exact h9));·rename_i h4;cases h;rw [g5 h4];exact (by have h9:=gb hQ;exact h9));·cases h);(·rename_i h1;simp only [h1];split at h;(·rename_i h3;cases h;exact⟨h3,(by have h9:=gb hQ;exact h9)⟩);·cases h);·cases h
  ·cases h
def agi (nT:FuncId->List V->Option V) (g:FuncId) (vs:List V) (st:St):Option (V×List bx) :=
  match jj st.mem vs with
  | some vs'=>match nT g vs' with
    | some r=>some (r,iP st.mem (vs.flatMap iz) r)
    | none=>none
  | none=>none
def r8 (P:g7) (nT:FuncId->List V->Option V):Prop:=∀ f vs r,nT f vs=some r->dz P f vs r
def R3 (P:g7) (tt:Table) (nat:rA) (nT:FuncId->List V->Option V) (call:my) (kx:Pw) (key:Nat) (o:Oper) (st:St):Option (List (V×List bx)) :=
  match o.op with
  | .alloc T=>match tt T with
    | some i=>some [((.ptr key 0),dw st.mem key (.box (i.zero.map V.sc)))]
    | none=>none
  | .box _ x=>match mr (st.eval x) with
    | some cs=>some [((.ptr key 0),dw st.mem key (.box cs))]
    | none=>none
  | .build T parts=>match nW P tt T parts.toList st.eval with
    | some v=>some [(v,st.mem)]
    | none=>none
  | .buildSlice T len parts=>match yv tt T len parts.toList st.eval with
    | some (size,rs)=>some [((.ms key 0 0 len),dw st.mem key (.rows 0 size rs))]
    | none=>match Wq tt T len parts.toList st with
      | some (size,rs)=>some [((.ms key 0 0 len),dw (iA st.mem (F1 st.eval parts.toList)) key (.rows 0 size rs))]
      | none=>none
  | .store T p x=>match nU tt st.mem T (st.eval p) (st.eval x) with
    | some b7=>some [((.sc undef),b7)]
    | none=>match F2 tt st.mem T (st.eval p) (st.eval x) with
      | some b7=>some [((.sc undef),b7)]
      | none=>none
  | .call { callee:=.builtin .append,args:=xs,argTypes:=ts }=>match xs.toList.map st.eval with
    | [s,x]=>match fC tt st.mem ts.toList s x with
      | some (size,sO,rows)=>some [((eU st.mem key size rows sO).2,(eU st.mem key size rows sO).1)]
      | none=>none
    | _=>none
  | .call { callee:=.value f,args:=xs,.. }=>match st.eval f with
    | .kx k=>match kx k (xs.toList.map st.eval) st.mem with
      | some outs=>some (outs.map fun p=>((.sc (.bool p.1)),p.2))
      | none=>none
    | fv=>match du fv (xs.toList.map st.eval) with
      | some (g,vs)=>match agi nT g vs st with
        | some (r,b7)=>some [(r,b7)]
        | none=>match call g vs st.mem with
          | some outs=>some (outs.map fun p=>(p.1,p.2))
          | none=>match nat g vs with
            | some r=>some [(r,st.mem)]
            | none=>none
      | none=>none
  | .makeSlice T l c=>match zv tt T (st.eval l) (st.eval c) with
    | some (size,rs,_)=>some [((.ms key 0 0 rs.length),dw st.mem key (.rows 0 size rs))]
    | none=>none
  | .makeMap _ none=>some [((.mp key),dw st.mem key (.map [] 0))]
  | .mapUpdate T m k x=>match ee P st.mem T (st.eval m) (st.eval k) (st.eval x) with
    | some b7=>some [((.sc undef),b7)]
    | none=>none
  | .insert T m k x=>match ee P st.mem T (st.eval m) (st.eval k) (st.eval x) with
    | some b7=>some [((.sc undef),b7)]
    | none=>none
  | .mapEntry T m k=>match yw P st.mem T (st.eval m) (st.eval k) with
    | some (b7,v)=>some [(v,b7)]
    | none=>none
  | .entryStore _ m s x=>match yx st.mem (st.eval m) (st.eval s) (st.eval x) with
    | some b7=>some [((.sc undef),b7)]
    | none=>none
  | .call { callee:=.builtin .delete,args:=xs,argTypes:=ts }=>match ui P st.mem ts (xs.toList.map st.eval) with
    | some b7=>some [((.sc (.tuple #[])),b7)]
    | none=>none
  | .range T x=>match qA P st.mem T (st.eval x) with
    | some B=>some [((.ptr key 0),dw st.mem key B)]
    | none=>none
  | .next it str=>R2 st (st.eval it) str
  | .binOp op T x y _=>match qf tt op T (st.eval x) (st.eval y) with
    | some n=>if n=0 then some [((.sc (.bool (rl op false))),st.mem),((.sc (.bool (rl op true))),st.mem)] else some [((.sc (.bool (rl op false))),st.mem)]
    | none=>match lM P tt st o with
      | some v=>some [(v,st.mem)]
      | none=>none
  | _=>match lM P tt st o with
    | some v=>some [(v,st.mem)]
    | none=>none
def ld (P:g7) (call:my):Prop:=∀ f vs mem outs,call f vs mem=some outs->jY P f vs mem fun r m=>(r,m)∈outs
def R4 (P:g7) (kx:Pw):Prop:=∀ k vs mem outs,kx k vs mem=some outs->Pe P k vs mem fun b m=>(b,m)∈outs
theorem II {P:g7} {tt:Table} {nat:rA} {nT:FuncId->List V->Option V} {call:my} {kx:Pw} (Ge:r8 P nT) (vh:nY P nat) (hc:ld P call) (hy:R4 P kx) {key:Nat} {o:Oper} {st:St} {outs:List (V×List bx)} {Q:St->Prop} (h:R3 P tt nat nT call kx key o st=some outs) (hQ:∀ p∈outs,Q (St.put { st with mem:=p.2 } o.dst p.1)) :
    dv P tt key o st Q:=by
  unfold R3 at h;unfold dv;split at h;·rename_i heq;rw [heq];dsimp only;split at h;(·rename_i h1;cases h;rw [h1];exact (by have h9:=gb hQ;exact h9));·cases h
  ·rename_i heq;rw [heq];dsimp only;split at h;(·rename_i h1;cases h;rw [h1];exact (by have h9:=gb hQ;exact h9));·cases h
  ·rename_i heq;rw [heq];dsimp only;split at h;(·rename_i h1;cases h;rw [h1];exact (by have h9:=gb hQ;exact h9));·cases h
  ·rename_i heq;rw [heq];dsimp only;split at h;(·rename_i h1;cases h;rw [h1];exact (by have h9:=gb hQ;exact h9));·rename_i h0;rw [h0];dsimp only;split at h;(·rename_i h1;cases h;rw [h1];exact (by have h9:=gb hQ;exact h9));·cases h
  ·rename_i heq;rw [heq];dsimp only;split at h;(·rename_i h1;cases h;rw [h1];exact (by have h9:=gb hQ;exact h9));·rename_i h0;rw [h0];dsimp only;split at h;(·rename_i h1;cases h;rw [h1];exact (by have h9:=gb hQ;exact h9));·cases h
  ·rename_i heq;rw [heq];dsimp only;split at h;(·rename_i h0;rw [h0];dsimp only;split at h;(·rename_i h1;cases h;rw [h1];exact (by have h9:=gb hQ;exact h9));·cases h);·cases h
  ·rename_i heq;rw [heq];dsimp only;split at h;(·rename_i k hk;rw [hk];dsimp only;split at h;(·rename_i os ho;cases h;exact .inr ⟨_,hy _ _ _ _ ho,fun b m hm=>(by have:=hQ _ (dS.2 ⟨_,hm,rfl⟩);exact this)⟩);·cases h);·rename_i fv hfv;split at h;(·rename_i g vs hg;split at h;(·rename_i r b7 Px;cases h;unfold agi at Px;split at Px;(·rename_i vs' Pf;split at Px;(·rename_i r1 DJ;cases Px;split;(·rename_i k hk;exact absurd hk (hfv k));·rw [hg];exact .inl ⟨vs',_,Pf,Ge _ _ _ DJ,(by have h9:=gb hQ;exact h9)⟩);·cases Px);·cases Px);·split at h;(·rename_i os ho;cases h;split;(·rename_i k hk;exact absurd hk (hfv k));·rw [hg];exact .inr (.inr (.inl ⟨_,hc _ _ _ _ ho,fun b m hm=>(by have:=hQ _ (dS.2 ⟨_,hm,rfl⟩);exact this)⟩)));·split at h;(·rename_i r hr;cases h;split;(·rename_i k hk;exact absurd hk (hfv k));·rw [hg];exact .inr (.inr (.inr ⟨r,vh _ _ _ hr,(by have h9:=gb hQ;exact h9)⟩)));·cases h);·cases h
  ·rename_i heq;rw [heq];dsimp only;split at h;(·rename_i h1;cases h;rw [h1];exact (by have h9:=gb hQ;exact h9));·cases h
  ·rename_i heq;rw [heq];dsimp only;cases h;exact (by have h9:=gb hQ;exact h9)
  ·rename_i heq;rw [heq];dsimp only;split at h;(·rename_i h1;cases h;rw [h1];exact (by have h9:=gb hQ;exact h9));·cases h
  ·rename_i heq;rw [heq];dsimp only;split at h;(·rename_i h1;cases h;rw [h1];exact (by have h9:=gb hQ;exact h9));·cases h
  ·rename_i heq;rw [heq];dsimp only;split at h;(·rename_i h1;cases h;rw [h1];exact (by have h9:=gb hQ;exact h9));·cases h
  ·rename_i heq;rw [heq];dsimp only;split at h;(·rename_i h1;cases h;rw [h1];exact (by have h9:=gb hQ;exact h9));·cases h
  ·rename_i heq;rw [heq];dsimp only;split at h;(·rename_i h1;cases h;rw [h1];exact (by have h9:=gb hQ;exact h9));·cases h
  ·rename_i heq;rw [heq];dsimp only;split at h;(·rename_i h1;cases h;rw [h1];exact (by have h9:=gb hQ;exact h9));·cases h
  ·rename_i heq;rw [heq];dsimp only;exact IH h hQ
  ·rename_i heq;rw [heq];dsimp only;split at h;(·rename_i n hn;rw [hn];dsimp only;intro b hb;split at h;(·cases h;cases b;(·have:=hQ _ (cP ..);exact this);·have:=hQ _ (bZ _ (ei.2 rfl));exact this);·rename_i h0;cases h;rw [hb h0];exact (by have h9:=gb hQ;exact h9));·rename_i hn;rw [hn];dsimp only;split at h;(·rename_i h1;cases h;rw [h1];exact (by have h9:=gb hQ;exact h9));·cases h
  ·split at h;(·rename_i h1;cases h;split <;> first|(rw [h1];exact (by have h9:=gb hQ;exact h9))|(exfalso;solve_by_elim));·cases h
def R6 {α β:Type}:List α->(List α->β)->β
  | [],k=>k []
  | c :: r,k=>R6 r fun r'=>k (c :: r')
theorem rB {α β:Type}:∀ (l:List α) (k:List α->β),R6 l k=k l
  | [],_=>rfl
  | c :: r,k=>by rw [R6,rB r]
def mz {β:Type} (n:Nat) (k:Nat->β):β:=Nat.casesOn n (k 0) fun m=>k (Nat.succ m)
theorem jP {β:Type} (n:Nat) (k:Nat->β):mz n k=k n:=by cases n <;> rfl
def abM {β:Type} (n:Int) (k:Int->β):β:=match n with|.ofNat m=>mz m fun m'=>k (.ofNat m')|.negSucc m=>mz m fun m'=>k (.negSucc m')
theorem WN {β:Type} (n:Int) (k:Int->β):abM n k=k n:=by cases n <;> simp only [abM,jP]
def Lq {β:Type} (s:g6) (k:g6->β):β:=R6 s.data.toList fun l=>k ⟨⟨l⟩⟩
theorem Py {β:Type} (s:g6) (k:g6->β):Lq s k=k s:=by rw [Lq,rB]
def WO {β:Type} (v:Value) (k:Value->β):β :=
  match v with
  | .bool true=>k (.bool true)
  | .bool false=>k (.bool false)
  | .int t n=>abM n fun n'=>k (.int t n')
  | .string s=>Lq s fun s'=>k (.string s')
  | v=>k v
theorem Nh {β:Type} (v:Value) (k:Value->β):WO v k=k v:=by
  unfold WO;split;·rfl
  ·rfl
  ·rw [WN]
  ·rw [Py]
  ·rfl
def fW {β:Type} (v:V) (k:V->β):β :=
  match v with
  | .undef=>k .undef
  | .sc v=>k (.sc v)
  | .agg cs=>k (.agg cs)
  | .slice r=>k (.slice r)
  | .ms a b c d=>k (.ms a b c d)
  | .ptr a b=>k (.ptr a b)
  | .iI a b c d=>k (.iI a b c d)
  | .fQ cs=>k (.fQ cs)
  | .jh f a b=>k (.jh f a b)
  | .fZ l=>k (.fZ l)
  | .kx a=>k (.kx a)
  | .mp a=>k (.mp a)
  | .gn=>k .gn
  | .full r=>k (.full r)
theorem Y3 {β:Type} (v:V) (k:V->β):fW v k=k v:=by cases v <;> rfl
def fWs {β:Type}:List V->(List V->β)->β
  | [],k=>k []
  | c :: r,k=>fW c fun c'=>fWs r fun r'=>k (c' :: r')
theorem Gf {β:Type}:∀ (l:List V) (k:List V->β),fWs l k=k l
  | [],_=>rfl
  | c :: r,k=>by rw [fWs,Y3,Gf r]
mutual
def fV {β:Type}:V->(V->β)->β
  | .undef,k=>k .undef
  | .gn,k=>k .gn
  | .sc v,k=>WO v fun v'=>k (.sc v')
  | .agg cs,k=>Ni cs fun u7=>k (.agg u7)
  | .fZ cs,k=>Ni cs fun u7=>k (.fZ u7)
  | .slice cs,k=>Ni cs fun u7=>k (.slice u7)
  | .full cs,k=>Ni cs fun u7=>k (.full u7)
  | .fQ cs,k=>Ni cs fun u7=>k (.fQ u7)
  | .jh f a b,k=>Ni a fun a'=>Ni b fun b'=>k (.jh f a' b')
  | .ms a b c d,k=>mz a fun a'=>mz b fun b'=>mz c fun c'=>mz d fun d'=>k (.ms a' b' c' d')
  | .ptr a b,k=>mz a fun a'=>mz b fun b'=>k (.ptr a' b')
  | .iI a b c d,k=>mz a fun a'=>mz b fun b'=>mz c fun c'=>mz d fun d'=>k (.iI a' b' c' d')
  | .kx a,k=>mz a fun a'=>k (.kx a')
  | .mp a,k=>mz a fun a'=>k (.mp a')
def Ni {β:Type}:List V->(List V->β)->β
  | [],k=>k []
  | c :: r,k=>fV c fun c'=>Ni r fun r'=>k (c' :: r')
end
mutual
theorem IJ {β:Type}:∀ (v:V) (k:V->β),fV v k=k v
  | .undef,_=>by rw [fV]
  | .gn,_=>by rw [fV]
  | .sc v,k=>by rw [fV,Nh]
  | .agg cs,k=>by rw [fV,rC cs]
  | .fZ cs,k=>by rw [fV,rC cs]
  | .slice cs,k=>by rw [fV,rC cs]
  | .full cs,k=>by rw [fV,rC cs]
  | .fQ cs,k=>by rw [fV,rC cs]
  | .jh f a b,k=>by rw [fV,rC a,rC b]
  | .ms a b c d,k=>by rw [fV,jP,jP,jP,jP]
  | .ptr a b,k=>by rw [fV,jP,jP]
  | .iI a b c d,k=>by rw [fV,jP,jP,jP,jP]
  | .kx a,k=>by rw [fV,jP]
  | .mp a,k=>by rw [fV,jP]
theorem rC {β:Type}:∀ (l:List V) (k:List V->β),Ni l k=k l
  | [],_=>by rw [Ni]
  | c :: r,k=>by rw [Ni,IJ c,rC r]
end
def WQ {β:Type}:List (Value×Nat×V)->(List (Value×Nat×V)->β)->β
  | [],k=>k []
  | (a,n,v) :: r,k=>WO a fun a'=>mz n fun n'=>fV v fun v'=>WQ r fun r'=>k ((a',n',v') :: r')
theorem Nj {β:Type}:∀ (l:List (Value×Nat×V)) (k:List (Value×Nat×V)->β),WQ l k=k l
  | [],_=>rfl
  | (a,n,v) :: r,k=>by rw [WQ,Nh,jP,IJ,Nj r]
def fB {β:Type} (B:bx) (k:bx->β):β :=
  match B with
  | .hole=>k .hole
  | .dead=>k .dead
  | .oG=>k .oG
  | .box cs=>Ni cs fun u7=>k (.box u7)
  | .rows v e rs=>mz v fun v'=>mz e fun e'=>Ni rs fun nC=>k (.rows v' e' nC)
  | .sF v e rs=>mz v fun v'=>mz e fun e'=>Ni rs fun nC=>k (.sF v' e' nC)
  | .loop s p fr ps a b=>k (.loop s p fr ps a b)
  | .map dU c=>WQ dU fun kvs'=>mz c fun c'=>k (.map kvs' c')
  | .jX a b c d=>mz a fun a'=>mz b fun b'=>R6 c fun c'=>mz d fun d'=>k (.jX a' b' c' d')
  | .n9 s p=>mz p fun p'=>k (.n9 s p')
  | .ox T a b c=>mz a fun a'=>mz b fun b'=>mz c fun c'=>k (.ox T a' b' c')
  | .pq T a O=>mz a fun a'=>k (.pq T a' O)
theorem agj {β:Type} (B:bx) (k:bx->β):fB B k=k B:=by cases B <;> simp only [fB,rC,jP,Nj,rB]
def Lr {β:Type}:List Nat->List bx->(List bx->β)->β
  | [],m,k=>R6 m k
  | i :: r,m,k=>match m[i]? with
    | some B=>fB B fun B'=>Lr r (m.set i B') k
    | none=>Lr r m k
theorem xi {β:Type}:∀ (ks:List Nat) (m:List bx) (k:List bx->β),Lr ks m k=k m
  | [],m,k=>rB m k
  | i :: r,m,k=>by
    simp only [Lr]
    split
    · rename_i B hB
      rw [agj,xi r]
      congr 1
      apply eh
      intro j
      rw [cf]
      split
      · rename_i KH;subst KH
        split
        · exact hB.symm
        · rename_i bH;rw [ep (by omega)]
      · rfl
    · exact xi r m k
def Ez (o:Oper):Bool :=
  match o.op with
  | .move _|.assign _|.pick ..|.load ..|.extract ..|.nilCheck _|.field .. => true
  | _=>false
def fD {β:Type} (b:Bool) (v:V) (k:V->β):β:=match b with|true=>fW v k|false=>fV v k
theorem Y4 {β:Type} (b:Bool) (v:V) (k:V->β):fD b v k=k v:=by cases b <;> simp only [fD,Y3,IJ]
def WS {β:Type} (b:Bool) (d:Option Tmp) (ks:List Nat) (s:St) (k:St->β):β :=
  match d with
  | some d=>fD b (s.fr.getD d .undef) fun v=>R6 (if d<s.fr.length then s.fr.set d v else s.fr) fun fr=>Lr ks s.mem fun mem=>k { fr:=fr,mem:=mem }
  | none=>R6 s.fr fun fr=>Lr ks s.mem fun mem=>k { fr:=fr,mem:=mem }
theorem vR {β:Type} (b:Bool) (d:Option Tmp) (ks:List Nat) (s:St) (k:St->β):WS b d ks s k=k s:=by
  unfold WS;split;·rename_i d;rw [Y4,rB,xi];congr 1;split;(·rename_i hd;obtain⟨fr,mem⟩:=s;dsimp only at hd ⊢;congr 1;apply eh;intro j;rw [cf];split;(·rename_i KH;subst KH;rw [eY,bf hd];rfl);·rfl);·rfl
  ·rw [rB,xi]
def WU {β:Type}:List V->Nat->V->(List V->β)->β
  | [],_,_,k=>k []
  | _ :: r,0,v,k=>k (v :: r)
  | c :: r,d+1,v,k=>WU r d v fun r'=>k (c :: r')
theorem Nk {β:Type}:∀ (l:List V) (d:Nat) (v:V) (k:List V->β),WU l d v k=k (l.set d v)
  | [],_,_,_=>rfl
  | _ :: _,0,_,_=>rfl
  | c :: r,d+1,v,k=>by rw [WU,Nk r];rfl
def Nl {β:Type} (ks:List Nat) (m:List bx) (k:List bx->β):β:=match ks with|[]=>k m|_ :: _=>Lr ks m k
theorem IK {β:Type} (ks:List Nat) (m:List bx) (k:List bx->β):Nl ks m k=k m:=by
  unfold Nl;split;·rfl
  ·rw [xi]
def abN {β:Type} (b:Bool) (d:Option Tmp) (ks:List Nat) (st:St) (v:V) (m:List bx) (k:St->β):β :=
  match d with
  | some d=>fD b v fun v=>WU st.fr d v fun fr=>Nl ks m fun mem=>k { fr:=fr,mem:=mem }
  | none=>Nl ks m fun mem=>k { fr:=st.fr,mem:=mem }
theorem WV {β:Type} (b:Bool) (d:Option Tmp) (ks:List Nat) (st:St) (v:V) (m:List bx) (k:St->β):abN b d ks st v m k=k (St.put { st with mem:=m } d v):=by
  unfold abN;split;·rw [Y4,Nk,IK];rfl
  ·rw [IK];rfl
def R7:V->List Nat
  | .ptr b _=>[b]
  | .iI b _ _ _=>[b]
  | .ms b _ _ _=>[b]
  | .mp b=>[b]
  | _=>[]
def Nn (key:Nat) (o:Oper) (st:St):List Nat :=
  match o.op with
  | .alloc _|.box ..|.buildSlice ..|.makeMap ..|.makeSlice ..|.range .. => [key]
  | .store _ p _=>R7 (st.eval p)
  | .call { callee:=.builtin .append,args:=xs,.. }=>match xs.toList with|s :: _=>key :: R7 (st.eval s)|_=>[]
  | .call { callee:=.builtin .delete,args:=xs,.. }=>match xs.toList with|s :: _=>R7 (st.eval s)|_=>[]
  | .mapUpdate _ m _ _|.insert _ m _ _|.mapEntry _ m _|.entryStore _ m _ _=>R7 (st.eval m)
  | .call { callee:=.value _,.. }=>[0]
  | .next it _=>R7 (st.eval it)
  | _=>[]
def Pz (P:g7) (tt:Table) (nat:rA) (nT:FuncId->List V->Option V) (call:my) (kx:Pw) (all:Array Oper):List Oper->St->Option (List St)
  | [],st=>some [st]
  | o :: r,st=>match gE all st.fr o with
    | some true=>qI (R3 P tt nat nT call kx st.mem.length o st) fun p=>abN (Ez o) o.dst (Nn st.mem.length o st) st p.1 p.2 fun s'=>Pz P tt nat nT call kx all r s'
    | some false=>Pz P tt nat nT call kx all r (st.put o.dst (.sc undef))
    | none=>none
theorem rD {P:g7} {tt:Table} {nat:rA} {nT:FuncId->List V->Option V} (Ge:r8 P nT) {call:my} {kx:Pw} (vh:nY P nat) (hc:ld P call) (hy:R4 P kx) {all:Array Oper} {Q:St->Prop}:∀ {l:List Oper} {st:St} {outs:List St},Pz P tt nat nT call kx all l st=some outs->(∀ s∈outs,Q s)->eV P tt all l st Q
  | [],st,outs,h,hQ=>by cases h;exact hQ _ (by simp)
  | o :: r,st,outs,h,hQ=>by
    simp only [Pz] at h
    simp only [eV]
    split at h
    · rename_i hw
      rw [hw]
      obtain⟨l,h1,h2⟩:=jd h
      refine II Ge vh hc hy h1 fun s hs=>?_
      obtain⟨b,h3,h4⟩:=h2 s hs
      rw [WV] at h3
      exact rD Ge vh hc hy h3 fun s' qo=>hQ _ (h4 _ qo)
    · rename_i hw
      rw [hw]
      exact rD Ge vh hc hy h hQ
    · cases h
def iC:Nat->List bx->List (Nat×Nat)
  | _,[]=>[]
  | i,.rows v _ _ :: r=>(i,v) :: iC (i+1) r
  | i,.sF v _ _ :: r=>(i,v) :: iC (i+1) r
  | i,_ :: r=>iC (i+1) r
theorem rE:∀ {m:List bx} {n k v e:Nat} {rs:List V},(m[k]?=some (.rows v e rs)\/m[k]?=some (.sF v e rs))->(n+k,v)∈iC n m
  | [],n,k,v,e,rs,h=>by simp at h
  | B :: r,n,0,v,e,rs,h=>by
    simp only [aI,aD] at h
    rcases h with rfl|rfl <;> simp [iC]
  | B :: r,n,k+1,v,e,rs,h=>by
    simp only [cu] at h
    have:=rE (n:=n+1) h
    rw [show n+1+k=n+(k+1) from by omega] at this
    cases B <;> simp only [iC] <;> first|exact this|exact bZ _ this
def nw (mem:List bx) (v:V):V:=match fE mem v with|some v'=>v'|none=>v
def abO (mem:List bx):V->V
  | .agg cs=>.agg (cs.map (nw mem))
  | .fZ vs=>.fZ (vs.map fun v=>match v with|.agg cs=>.agg (cs.map (nw mem))|v=>nw mem v)
  | v=>nw mem v
def BW (mem:List bx):bx->bx
  | .box cs=>.box (cs.map (nw mem))
  | B=>B
def IL (st:St):Option St :=
  let keys:=iC 0 st.mem
  match jj st.mem (keys.map fun (k:Nat×Nat)=>V.ms k.1 k.2 0 0) with
  | some _=>some { fr:=st.fr.map (abO st.mem),mem:=(iA st.mem keys).map (BW st.mem) }
  | none=>none
theorem Np:∀ (keys:List (Nat×Nat)),(keys.map fun (k:Nat×Nat)=>V.ms k.1 k.2 0 0).flatMap iz=keys
  | []=>rfl
  | k :: r=>by simp [iz,kW,Np r]
theorem PA {mem:List bx} {B:bx} (h:∀ cs,B ≠ .box cs):BW mem B=B:=by cases B <;> first|rfl|exact absurd rfl (h _)
theorem Ls (mem:List bx) (B:bx):(BW mem B).ej=B.ej:=by cases B <;> rfl
theorem IN {E:Env} {w:World} {a:Act} {st st':St} (hs:dt E w a st) (h:IL st=some st'):∃ E',dt E' w a st'/\iF E w E' w:=by
  unfold IL at h;dsimp only at h;split at h;·rename_i vs' hp;cases h;obtain⟨ks,V4⟩:∃ ks,ks=((iC 0 st.mem).map (fun (k:Nat×Nat)=>V.ms k.1 k.2 0 0)).flatMap iz:=⟨_,rfl⟩;(have agk:iF E w (E.qW w ks) w/\dt (E.qW w ks) w a { st with mem:=iA st.mem ks }:=by subst V4;obtain⟨hg,h1,h2⟩:=Bz hs hp (F':=(E.qW w (((iC 0 st.mem).map (fun (k:Nat×Nat)=>V.ms k.1 k.2 0 0)).flatMap iz)).F) (fun _ _ h=>h) (fun ad y h=>Env.M8 hs.F h) (fun _ _ h=>.inl h) (Go.RowKit.Below.refl _ w);exact⟨h1,h2⟩);rw [Np] at V4;subst V4;obtain⟨gM,rb⟩:=agk;(have qz:∀ {v:V} {x:Value},df E v x->df (E.qW w (iC 0 st.mem)) (nw st.mem v) x:=fun {v x} hr=>by unfold nw;split;(·rename_i v' hv;refine (qe hs hr hv fun k hk=>?_).mono (Env.ud _);cases v <;> simp only [kW,ei,ja] at hk;subst hk;simp only [fE] at hv;split at hv;(·rename_i hm;split at hv;(·rename_i hc;have:=rE (n:=0) (.inl hm);rw [dc,hc.1] at this;exact this);·cases hv);(·rename_i hm;split at hv;(·rename_i hc;have:=rE (n:=0) (.inr hm);rw [dc,hc.1] at this;exact this);·cases hv);·cases hv);·exact hr.mono (Env.yy E w _));(have Wo:∀ {cs:List V} {xs:List Value},dh E cs xs->dh (E.qW w (iC 0 st.mem)) (cs.map (nw st.mem)) xs:=fun {cs xs} hr=>by refine⟨by simpa using hr.1,fun i c x hc hx=>?_⟩;simp only [ae,bp] at hc;obtain⟨c0,IP,rfl⟩:=hc;exact qz (hr.2 i c0 x IP hx));(have h1:∀ {v:V} {x:Value},df E v x->df (E.qW w (iC 0 st.mem)) (match v with|.agg cs=>.agg (cs.map (nw st.mem))|v=>nw st.mem v) x:=fun {v x} hr=>by split;(·rename_i cs;cases hr with|agg _ cs xs hl hh =>have:=Wo (cs:=cs) (xs:=xs.toList) ⟨by simpa using hl,fun i c x hc hx=>hh i c x hc (by simpa using hx)⟩;exact .agg _ _ _ (by simpa using this.1) fun i c x hc hx=>this.2 i c x hc (by simpa using hx));·exact qz hr);(have hV:∀ {v:V} {x:Value},df E v x->df (E.qW w (iC 0 st.mem)) (abO st.mem v) x:=fun {v x} hr=>by unfold abO;split;(·exact h1 (v:=.agg _) hr);(·rename_i vs;cases hr with|fZ _ vs xs hl hh =>refine .fZ _ _ _ (by simpa using hl) fun i c x hc hx=>?_;simp only [ae,bp] at hc;obtain⟨c0,IP,rfl⟩:=hc;exact h1 (hh i c0 x IP hx));·exact qz hr);refine⟨_,⟨rb.F,rb.lt,fun k B hk=>?_,fun k hk=>rb.top k (by simpa using hk),fun k B hk v hv=>?_,rb.apart,⟨by simpa using hs.fr.1,fun i v x hv hx=>?_⟩⟩,gM⟩;(·simp only [ae,bp] at hk;obtain⟨B0,M9,rfl⟩:=hk;have h0:=rb.mem k B0 M9;by_cases agl:∃ cs,B0 = .box cs;(·obtain⟨cs,rfl⟩:=agl;(have hold:st.mem[k]?=some (.box cs):=by rw [vK] at M9;cases DL:st.mem[k]? with|none=>rw [DL] at M9;simp [r5] at M9|some B1 =>rw [DL] at M9;cases B1 <;> simp only [r5] at M9 <;> first|exact M9|(split at M9 <;> cases M9));obtain⟨g,T,xs,q1,q2,q3,q4⟩:=h0;obtain⟨g',T',wN,r1,r2,r3,r4⟩:=hs.mem k _ hold;(have:g=g':=by have:=gM.le.cE _ _ _ r1;have e:(E.qW w (iC 0 st.mem)).cE k 0=some (g,0,0):=q1;have e2:(E.qW w (iC 0 st.mem)).cE k 0=some (g',0,0):=this;rw [e] at e2;cases e2;rfl);subst this;rw [r2] at q2;cases q2;exact⟨g,T,xs,q1,r2,Wo r3,q4⟩);·rw [PA fun cs e=>agl ⟨cs,e⟩];exact h0);(·simp only [ae,bp] at hk;obtain⟨B0,M9,rfl⟩:=hk;rw [Ls] at hv;exact rb.ej k B0 M9 v hv);·simp only [ae,bp] at hv;obtain⟨v0,KV,rfl⟩:=hv;exact hV (hs.fr.2 i v0 x KV hx)
  ·cases h
theorem BX {P:g7} {ρ:Option Nat} {n0:Nat} {c:Code} {st st':St} {Q:Exit->St->Prop} (hf:IL st=some st') (h:fc P ρ n0 c st' Q):fc P ρ n0 c st Q:=fun E0 w0 h0 E w a he hs qg=>by obtain⟨E',h1,h2⟩:=IN hs hf;exact h E0 w0 h0 E' w a (he.trans h2) h1 (qg.Q6 h2)
abbrev qJ:=FuncId->List V->Option V
abbrev zR:=FuncId->List V->Option (Nat×List V)
def Gg (P:g7) (live:zR):Prop:=∀ f vs e rs,live f vs=some (e,rs)->BG P f vs e rs
def Lt (live:zR) (o:Oper) (key:Nat) (st:St):Option St :=
  match o.op with
  | .call { callee:=.value f,args:=xs,.. }=>match du (st.eval f) (xs.toList.map st.eval) with
    | some (g,vs)=>match jj [] vs with
      | some vs'=>match live g vs' with
        | some (e,rs)=>some (BH st key o.dst e rs)
        | none=>none
      | none=>none
    | none=>none
  | _=>none
theorem Gh {P:g7} {live:zR} (hl:Gg P live) {o:Oper} {key:Nat} {st s:St} {Q:St->Prop} (h:Lt live o key st=some s) (hQ:Q s):vP P o key st Q:=by
  unfold Lt at h;unfold vP;split at h;·rename_i heq;rw [heq];dsimp only;split at h;(·rename_i g vs hg;rw [hg];dsimp only;split at h;(·rename_i vs' hv;split at h;(·rename_i e rs hr;cases h;exact⟨vs',e,rs,hv,hl _ _ _ _ hr,hQ⟩);·cases h);·cases h);·cases h
  ·cases h
def vS (P:g7) (pure:qJ):Prop:=∀ f vs r,pure f vs=some r->dz P f vs r
def WW (P:g7) (tt:Table) (nat:rA) (pure:qJ) (o:Oper) (DU st:St):Option St :=
  match o.op with
  | .call { callee:=.value f,args:=xs,.. }=>match du (DU.eval f) (xs.toList.map DU.eval) with
    | some (g,vs)=>match jj [] vs with
      | some vs'=>match pure g vs' with
        | some r=>some (st.put o.dst r)
        | none=>match nat g vs' with
          | some r=>some (st.put o.dst r)
          | none=>none
      | none=>none
    | none=>none
  | _=>match Aq P tt o DU with
    | some v=>some (st.put o.dst v)
    | none=>none
theorem BZ {P:g7} {tt:Table} {nat:rA} (vh:nY P nat) {pure:qJ} (hp:vS P pure) {o:Oper} {DU st s:St} {Q:St->Prop} (h:WW P tt nat pure o DU st=some s) (hQ:Q s):rv P tt o DU st Q:=by
  unfold WW at h;unfold rv;split at h;·rename_i heq;rw [heq];dsimp only;split at h;(·rename_i g vs hg;rw [hg];dsimp only;split at h;(·rename_i vs' hv;split at h;(·rename_i r hr;cases h;exact⟨vs',r,hv,.inl (hp _ _ _ hr),hQ⟩);·split at h;(·rename_i r hr;cases h;exact⟨vs',r,hv,.inr (vh _ _ _ hr),hQ⟩);·cases h);·cases h);·cases h
  ·split at h;(·rename_i h1;cases h;split;(·exfalso;solve_by_elim);·rw [h1];exact hQ);·cases h
def Lu (pure:qJ) (o:Oper) (st:St):Option St :=
  match o.op with
  | .call { callee:=.value f,args:=xs,.. }=>match du (st.eval f) (xs.toList.map st.eval) with
    | some (g,vs)=>match jj st.mem vs with
      | some vs'=>match pure g vs' with
        | some r=>some (St.put { st with mem:=iP st.mem (vs.flatMap iz) r } o.dst r)
        | none=>none
      | none=>none
    | none=>none
  | _=>none
theorem Gi {P:g7} {pure:qJ} (hp:vS P pure) {o:Oper} {st s:St} {Q:St->Prop} (h:Lu pure o st=some s) (hQ:Q s):pO P o st Q:=by
  unfold Lu at h;unfold pO;split at h;·rename_i f xs ts ko;split at h;(·rename_i g vs hg;split at h;(·rename_i vs' hv;split at h;(·rename_i r hr;cases h;rw [ko];dsimp only;rw [hg];exact .inl ⟨vs',r,hv,hp _ _ _ hr,hQ⟩);·cases h);·cases h);·cases h
  ·cases h
abbrev IQ:=FuncId->List V->Nat->List bx->Option (V×bx)
def Nq (P:g7) (IS:IQ):Prop:=∀ f vs k mem v B,IS f vs k mem=some (v,B)->∃ B0,mem[k]?=some B0/\B0.ej=0/\B.ej=0/\bK P f vs mem v (mem.set k B)
def Lv (IS:IQ) (o:Oper) (k:Nat) (st:St):Option St :=
  match o.op with
  | .call { callee:=.value f,args:=xs,.. }=>match du (st.eval f) (xs.toList.map st.eval) with
    | some (g,vs)=>match IS g vs k st.mem with
      | some (v,B)=>some (St.put { st with mem:=st.mem.set k B } o.dst v)
      | none=>none
    | none=>none
  | _=>none
theorem Gj {P:g7} {tt:Table} {IS:IQ} (he:Nq P IS) {o:Oper} {k:Nat} {st s:St} {Q:St->Prop} (h:Lv IS o k st=some s) (hQ:Q s):wX false P tt o k st Q:=by
  unfold Lv at h;unfold wX;split at h;·rename_i f xs ts ko;split at h;(·rename_i g vs hg;split at h;(·rename_i v B hb;cases h;obtain⟨B0,h1,h2,h3,h4⟩:=he _ _ _ _ _ _ hb;rw [ko];dsimp only;rw [hg];exact⟨v,B0,B,h2,h3,h1,⟨h4,fun h=>by cases h⟩,hQ⟩);·cases h);·cases h
  ·cases h
def Lw (P:g7) (tt:Table) (nat:rA) (pure:qJ) (live:zR) (IS:IQ) (all:Array Oper) (base:Nat) (o:Oper) (p:Pl) (st:St):Option St :=
  match gE all st.fr o with
  | some true=>match p.cls with
    | .n=>WW P tt nat pure o { st with mem:=[] } st
    | .r=>WW P tt nat pure o { st with mem:=eN (p.mask.map (base + ·)++p.abs) st.mem } st
    | .a=>if isHole st.mem (base+p.key)=true then (match iB tt o (base+p.key) st with
      | some (B,v)=>some (St.put { st with mem:=st.mem.set (base+p.key) B } o.dst v)
      | none=>Lt live o (base+p.key) st) else none
    | .w=>if isHole st.mem (base+p.key)=true then (match o9 P tt (base+p.key) o st with
      | some (m,v)=>some (St.put { st with mem:=m } o.dst v)
      | none=>none) else none
    | .s=>match ss tt (base+p.key) o st with
      | some m=>some (St.put { st with mem:=m } o.dst (.sc undef))
      | none=>none
    | .b=>match oP tt o { st with mem:=eN (p.mask.map (base + ·)) st.mem } with
      | some v=>some (st.put o.dst v)
      | none=>none
    | .z=>Lu pure o st
    | .e=>if p.mask.isEmpty=true then (match ss tt p.key o st with
      | some m=>some (St.put { st with mem:=m } o.dst (.sc undef))
      | none=>Lv IS o p.key st) else none
  | some false=>some (st.put o.dst (.sc undef))
  | none=>none
theorem Gk {P:g7} {tt:Table} {nat:rA} (vh:nY P nat) {pure:qJ} {live:zR} {IS:IQ} (hp:vS P pure) (hl:Gg P live) (hE:Nq P IS) {all:Array Oper} {base:Nat} {o:Oper} {p:Pl} {st s:St} {Q:St->Prop} (h:Lw P tt nat pure live IS all base o p st=some s) (hQ:Q s):gQ P tt all base o p st Q:=by
  unfold Lw at h;unfold gQ;split at h;·rename_i hw;rw [hw];dsimp only;split at h;(·rename_i pE;rw [pE];exact BZ vh hp h hQ);(·rename_i pE;rw [pE];exact BZ vh hp h hQ);(·rename_i pE;rw [pE];dsimp only;split at h;(·rename_i hh;refine⟨hh,?_⟩;split at h;(·rename_i h1;cases h;rw [h1];exact hQ);·rename_i h1;rw [h1];exact Gh hl h hQ);·cases h);(·rename_i pE;rw [pE];dsimp only;split at h;(·rename_i hh;refine⟨hh,?_⟩;split at h;(·rename_i h1;cases h;rw [h1];exact hQ);·cases h);·cases h);(·rename_i pE;rw [pE];dsimp only;split at h;(·rename_i h1;cases h;rw [h1];exact hQ);·cases h);(·rename_i pE;rw [pE];dsimp only;split at h;(·rename_i h1;cases h;rw [h1];exact hQ);·cases h);(·rename_i pE;rw [pE];exact Gi hp h hQ);·rename_i pE;rw [pE];dsimp only;split at h;(·rename_i hme;rw [hme];split at h;(·rename_i m h1;cases h;unfold wX;split;(·rename_i f xs ts ko;unfold ss at h1;rw [ko] at h1;cases h1);·rw [h1];exact hQ);·exact Gj hE h hQ);·cases h
  ·rename_i hw;rw [hw];cases h;exact hQ
  ·cases h
def IT (P:g7) (tt:Table) (nat:rA) (pure:qJ) (live:zR) (IS:IQ) (all:Array Oper) (base:Nat):List Oper->List Pl->St->Option St
  | [],_,st=>some st
  | o :: r,p :: ps,st=>match Lw P tt nat pure live IS all base o p st with
    | some s=>WS (Ez o) o.dst (Nn (base+p.key) o st) s fun s'=>IT P tt nat pure live IS all base r ps s'
    | none=>none
  | _ :: _,[],_=>none
theorem zS {P:g7} {tt:Table} {nat:rA} (vh:nY P nat) {pure:qJ} {live:zR} {IS:IQ} (hp:vS P pure) (hl:Gg P live) (hE:Nq P IS) {all:Array Oper} {base:Nat} {Q:St->Prop}:∀ {l:List Oper} {ps:List Pl} {st s:St},IT P tt nat pure live IS all base l ps st=some s->Q s->runM P tt all base l ps st Q
  | [],_,st,s,h,hQ=>by cases h;exact hQ
  | o :: r,p :: ps,st,s,h,hQ=>by
    simp only [IT] at h
    simp only [runM]
    split at h
    · rename_i s1 h1
      rw [vR] at h
      exact Gk vh hp hl hE h1 (zS vh hp hl hE h hQ)
    · cases h
  | _ :: _,[],_,_,h,_=>by simp [IT] at h
mutual
def abP:V->Nat
  | .ms b _ _ _|.ptr b _|.kx b|.mp b|.iI b _ _ _=>b+1
  | .agg cs|.fZ cs=>PB cs
  | .jh _ a b=>max (PB a) (PB b)
  | _=>0
def PB:List V->Nat
  | []=>0
  | c :: r=>max (abP c) (PB r)
end
def alI:bx->Nat
  | .box cs=>PB cs
  | .loop _ _ fr _ _ _=>PB fr
  | .map dU _=>dU.foldr (fun k n=>max (abP k.2.2) n) 0
  | .jX m _ _ _=>m+1
  | _=>0
def agm (l:List bx):Nat:=l.foldr (fun B n=>max (alI B) n) 0
def abQ:Nat->Nat->List bx->Nat
  | 0,n,_=>n
  | k+1,n,mem=>let m:=max n (agm (mem.take n));if m=n then n else abQ k m mem
def agn (lo:Nat) (r:V) (mem:List bx):Option (V×List bx) :=
  let n:=abQ 8 (max lo (abP r)) mem
  if lo<=n/\aQ n r=true/\(mem.take n).all (a6 n)=true then some (r,mem.take n) else none
def AS:Exit->Bool
  | .ret=>true
  | .normal=>true
  | _=>false
def Nr:Value->Value->Bool
  | .agg a,.agg b=>pJ a.toList b.toList
  | .tuple a,.tuple b=>pJ a.toList b.toList
  | .func (.func f) a b,.func (.func g) c d=>f==g&&a.isEmpty&&b.isEmpty&&c.isEmpty&&d.isEmpty
  | a,b=>F5 a b
theorem IU {a b:Value} (h:Nr a b=true):a=b:=by
  unfold Nr at h;split at h;·rename_i x y;rw [<- cJ (xs:=x),ru h,cJ]
  ·rename_i x y;rw [<- cJ (xs:=x),ru h,cJ]
  ·simp only [aG,beq_iff_eq,Array.isEmpty_iff] at h;obtain⟨⟨⟨⟨rfl,rfl⟩,rfl⟩,rfl⟩,rfl⟩:=h;rfl
  ·exact En h
mutual
def lW:V->V->Bool
  | .undef,.undef=>true
  | .gn,.gn=>true
  | .sc a,.sc b=>Nr a b
  | .agg a,.agg b=>kC a b
  | .fZ a,.fZ b=>kC a b
  | .slice a,.slice b=>kC a b
  | .full a,.full b=>kC a b
  | .fQ a,.fQ b=>kC a b
  | .ms a b c d,.ms a' b' c' d'=>a==a'&&b==b'&&c==c'&&d==d'
  | .ptr a b,.ptr a' b'=>a==a'&&b==b'
  | .iI a b c d,.iI a' b' c' d'=>a==a'&&b==b'&&c==c'&&d==d'
  | .mp a,.mp b=>a==b
  | .kx a,.kx b=>a==b
  | .jh (.func f) a b,.jh (.func g) c d=>f==g&&kC a c&&kC b d
  | _,_=>false
def kC:List V->List V->Bool
  | [],[]=>true
  | a :: r,b :: s=>lW a b&&kC r s
  | _,_=>false
end
mutual
theorem xj:∀ {a b:V},lW a b=true->a=b
  | .undef,b,h=>by cases b <;> simp [lW] at h <;> rfl
  | .gn,b,h=>by cases b <;> simp [lW] at h <;> rfl
  | .sc a,b,h=>by
    cases b <;> simp only [lW,bw] at h
    rw [IU h]
  | .agg a,b,h=>by
    cases b <;> simp only [lW,bw] at h
    rw [ir h]
  | .fZ a,b,h=>by
    cases b <;> simp only [lW,bw] at h
    rw [ir h]
  | .slice a,b,h=>by
    cases b <;> simp only [lW,bw] at h
    rw [ir h]
  | .full a,b,h=>by
    cases b <;> simp only [lW,bw] at h
    rw [ir h]
  | .fQ a,b,h=>by
    cases b <;> simp only [lW,bw] at h
    rw [ir h]
  | .ms _ _ _ _,b,h=>by
    cases b <;> simp only [lW,bw,aG,beq_iff_eq] at h
    obtain⟨⟨⟨rfl,rfl⟩,rfl⟩,rfl⟩:=h;rfl
  | .ptr _ _,b,h=>by
    cases b <;> simp only [lW,bw,aG,beq_iff_eq] at h
    obtain⟨rfl,rfl⟩:=h;rfl
  | .iI _ _ _ _,b,h=>by
    cases b <;> simp only [lW,bw,aG,beq_iff_eq] at h
    obtain⟨⟨⟨rfl,rfl⟩,rfl⟩,rfl⟩:=h;rfl
  | .mp _,b,h=>by
    cases b <;> simp only [lW,bw,beq_iff_eq] at h
    rw [h]
  | .kx _,b,h=>by
    cases b <;> simp only [lW,bw,beq_iff_eq] at h
    rw [h]
  | .jh f a c,b,h=>by
    cases b with
    | jh g a' c' =>
      cases f <;> cases g <;> simp only [lW,bw,aG,beq_iff_eq] at h
      obtain⟨⟨rfl,h1⟩,h2⟩:=h
      rw [ir h1,ir h2]
    | _=>cases f <;> simp [lW] at h
theorem ir:∀ {a b:List V},kC a b=true->a=b
  | [],b,h=>by cases b <;> simp [kC] at h <;> rfl
  | c :: r,b,h=>by
    cases b with
    | nil=>simp [kC] at h
    | cons d s =>
      simp only [kC,aG] at h
      rw [xj h.1,ir h.2]
end
def uq:List (Value×Nat×V)->List (Value×Nat×V)->Bool
  | [],[]=>true
  | a :: r,b :: s=>Nr a.1 b.1&&a.2.1==b.2.1&&lW a.2.2 b.2.2&&uq r s
  | _,_=>false
theorem B4:∀ {a b:List (Value×Nat×V)},uq a b=true->a=b
  | [],[],_=>rfl
  | (k,n,v) :: r,(k',n',v') :: s,h=>by
    simp only [uq,aG,beq_iff_eq] at h
    obtain⟨⟨⟨h1,h2⟩,h3⟩,h4⟩:=h
    rw [IU h1,h2,xj h3,B4 h4]
  | [],_ :: _,h=>by simp [uq] at h
  | _ :: _,[],h=>by simp [uq] at h
def R8:bx->bx->Bool
  | .hole,.hole=>true
  | .dead,.dead=>true
  | .oG,.oG=>true
  | .box a,.box b=>kC a b
  | .rows v e a,.rows v' e' b=>v==v'&&e==e'&&kC a b
  | .sF v e a,.sF v' e' b=>v==v'&&e==e'&&kC a b
  | .map a c,.map b d=>c==d&&uq a b
  | .jX a b c d,.jX a' b' c' d'=>a==a'&&b==b'&&c==c'&&d==d'
  | _,_=>false
theorem R9 {a b:bx} (h:R8 a b=true):a=b:=by
  unfold R8 at h;split at h;·rfl
  ·rfl
  ·rfl
  ·rw [ir h]
  ·simp only [aG,beq_iff_eq] at h;obtain⟨⟨rfl,rfl⟩,h⟩:=h;rw [ir h]
  ·simp only [aG,beq_iff_eq] at h;obtain⟨⟨rfl,rfl⟩,h⟩:=h;rw [ir h]
  ·simp only [aG,beq_iff_eq] at h;obtain⟨rfl,h⟩:=h;rw [B4 h]
  ·simp only [aG,beq_iff_eq] at h;obtain⟨⟨⟨rfl,rfl⟩,rfl⟩,rfl⟩:=h;rfl
  ·cases h
def th:List bx->List bx->Bool
  | [],[]=>true
  | a :: r,b :: s=>R8 a b&&th r s
  | _,_=>false
theorem uu:∀ {a b:List bx},th a b=true->a=b
  | [],[],_=>rfl
  | x :: r,y :: s,h=>by simp only [th,aG] at h;rw [R9 h.1,uu h.2]
  | [],_ :: _,h=>by simp [th] at h
  | _ :: _,[],h=>by simp [th] at h
def dedup:List (V×List bx)->List (V×List bx)
  | []=>[]
  | p :: r=>if (dedup r).any (fun q=>lW p.1 q.1&&th p.2 q.2)=true then dedup r else p :: dedup r
theorem yF:∀ {l:List (V×List bx)} {p:V×List bx},p∈l->p∈dedup l
  | q :: r,p,h=>by
    simp only [dedup]
    split
    · rename_i Bx
      rcases dp.1 h with rfl|h
      · obtain⟨q',h1,h2⟩:=u1.1 Bx
        simp only [aG] at h2
        have:p=q':=avZ (xj h2.1) (uu h2.2)
        rw [this];exact h1
      · exact yF h
    · rcases dp.1 h with rfl|h
      · exact cP ..
      · exact bZ _ (yF h)
def WY (P:g7) (tt:Table) (code:qH):my:=fun f vs mem =>
  match P.funcs[f]? with
  | some fn=>match fn.body with
    | some body=>(qI (fWs vs fun vs=>R6 mem fun mem=>WS true none [] (dj fn vs mem) fun s=>code false body s) fun o=>if AS o.1=true then (match qh tt fn.results o.2 with
      | some r=>fV r fun r=>match agn mem.length r o.2.mem with|some p=>R6 p.2 fun m=>some [(p.1,m)]|none=>none
      | none=>none) else none).map dedup
    | none=>none
  | none=>none
def EA (P:g7) (tt:Table) (code:qH):qJ:=fun f vs =>
  match P.funcs[f]? with
  | some fn=>match fn.body with
    | some body=>match qI (fWs vs fun vs=>WS true none [] (dj fn vs []) fun s=>code false body s) fun o=>if AS o.1=true then (match rm tt fn.results o.2 with|some r=>fV r fun r=>some [r]|none=>none) else none with
      | some (r :: rs)=>if rs.all (lW r)=true then some r else none
      | _=>none
    | none=>none
  | none=>none
def Lx:List (V×List bx)->Option (Nat×Nat×List V)
  | [(.ms 0 v 0 l,[.rows v' e rs])]=>if v'=v/\l=rs.length then some (v,e,rs) else none
  | [(.ms 0 v 0 0,[.rows v' e []]),(.sc (.slice none 0 0),[])]=>if v'=v then some (v,e,[]) else none
  | [(.sc (.slice none 0 0),[]),(.ms 0 v 0 0,[.rows v' e []])]=>if v'=v then some (v,e,[]) else none
  | _=>none
theorem Ly {outs:List (V×List bx)} {v e:Nat} {rs:List V} (h:Lx outs=some (v,e,rs)):∀ r m,(r,m)∈outs->(r = .ms 0 v 0 rs.length/\m=[.rows v e rs])\/(r = .sc (.slice none 0 0)/\m=[]/\rs=[]):=by
  unfold Lx at h;split at h;·split at h;(·rename_i hc;cases h;obtain⟨rfl,rfl⟩:=hc;intro r m hm;simp at hm;exact .inl hm);·cases h
  ·split at h;(·rename_i hc;cases h;subst hc;intro r m hm;simp at hm;(rcases hm with ⟨rfl,rfl⟩|⟨rfl,rfl⟩);(·exact .inl ⟨rfl,rfl⟩);·exact .inr ⟨rfl,rfl,rfl⟩);·cases h
  ·split at h;(·rename_i hc;cases h;subst hc;intro r m hm;simp at hm;(rcases hm with ⟨rfl,rfl⟩|⟨rfl,rfl⟩);(·exact .inr ⟨rfl,rfl,rfl⟩);·exact .inl ⟨rfl,rfl⟩);·cases h
  ·cases h
theorem jY.live {P:g7} {f:FuncId} {vs:List V} {R:V->List bx->Prop} {v e:Nat} {rs:List V} (h:jY P f vs [] R) (hR:∀ r m,R r m->(r = .ms 0 v 0 rs.length/\m=[.rows v e rs])\/(r = .sc (.slice none 0 0)/\m=[]/\rs=[])):BG P f vs e rs:=by
  refine⟨v,h.1,fun E w xs hs hx=>(h.2 E w xs hs hx).mono ?_⟩;rintro en w' ⟨E',x,r,m,rfl,hr,gM,qo,kV⟩;rcases hR r m hr with ⟨rfl,rfl⟩|⟨rfl,rfl,rfl⟩
  ·exact⟨E',x,rfl,gM,qo,kV⟩
  ·obtain rfl:=fL kV;exact⟨E',_,rfl,gM,by simpa using qo.ID v e,.jr _ _ _ _⟩
def Sa (P:g7) (tt:Table) (code:qH):zR:=fun f vs =>
  match WY P tt code f vs [] with
  | some outs=>match Lx outs with|some (_,e,rs)=>some (e,rs)|none=>none
  | none=>none
def Sb (lo:Nat) (b:Bool) (m:List bx):Option (List (Bool×List bx)) :=
  let n:=abQ 8 lo m
  if lo<=n/\(m.take n).all (a6 n)=true then R6 (m.take n) fun m=>some [(b,m)] else none
theorem Lz {lo:Nat} {b:Bool} {m:List bx} {x:List (Bool×List bx)} (h:Sb lo b m=some x):∃ n,lo<=n/\(m.take n).all (a6 n)=true/\(b,m.take n)∈x:=by
  unfold Sb at h;dsimp only at h;split at h;·rename_i hc;rw [rB] at h;cases h;exact⟨_,hc.1,hc.2,by simp⟩
  ·cases h
def WZ (code:qH):Pw:=fun k vs mem =>
  match mem[k]? with
  | some (.loop .ready none fr params assign body) =>
    if vs.length=params.size then
      qI (fWs vs fun vs=>WS true none [] { fr:=pL params.toList vs fr,mem:=mem } fun s=>code true assign s) fun o=>match o.1,o.2.mem[k]? with
        | .normal,some (.loop .ready none YX p1 WB WC) =>
          qI (WS true none [] { o.2 with mem:=o.2.mem.set k (.loop .busy none YX p1 WB WC) } fun s=>code true body s) fun u=>match s6 u.1,u.2.mem[k]? with
            | some jump,some (.loop _ _ WD p2 RO RP) =>
              Sb mem.length jump.isNone (u.2.mem.set k (.loop (if jump.isNone then .ready else .done) jump WD p2 RO RP))
            | _,_=>none
        | _,_=>none
    else none
  | _=>none
def W0:LoopState->Bool
  | .busy=>false
  | _=>true
def yG {α:Type} (f:α->Option (List (Exit×St))):List α->Option (List (Exit×St))
  | []=>none
  | a :: r=>match f a with|some x=>some x|none=>yG f r
theorem zT {α:Type} {f:α->Option (List (Exit×St))}:∀ {l:List α} {x:List (Exit×St)},yG f l=some x->∃ a∈l,f a=some x
  | [],x,h=>by cases h
  | a :: r,x,h=>by
    simp only [yG] at h
    split at h
    · rename_i hx;cases h;exact⟨a,cP ..,hx⟩
    · obtain⟨b,h1,h2⟩:=zT h;exact⟨b,bZ _ h1,h2⟩
def abR (nT:FuncId->List V->Option V) (pure:qJ):qJ:=fun f vs=>match nT f vs with|some r=>some r|none=>pure f vs
theorem W1 {P:g7} {nT:FuncId->List V->Option V} {pure:qJ} (h:r8 P nT) (hp:vS P pure):vS P (abR nT pure):=fun f vs r hr=>by
  unfold abR at hr;split at hr;·rename_i r' h1;cases hr;exact h _ _ _ h1
  ·exact hp _ _ _ hr
theorem bK.EB {P:g7} {f:FuncId} {vs:List V} {mem m m2:List bx} {v v':V} (h:bK P f vs mem v m)
    (step:∀ (E:Env) (w:World) (x:Value),dt E w { tmps := #[],defers:=[] } { fr:=[],mem:=m }->df E v x->∃ E2,dt E2 w { tmps := #[],defers:=[] } { fr:=[],mem:=m2 }/\iF E w E2 w/\df E2 v' x)
    (hv:aQ mem.length v'=true) (hm:(m2.take mem.length).all (a6 mem.length)=true):bK P f vs mem v' (m2.take mem.length):=by
  refine⟨h.1,fun E w xs hs hx=>(h.2 E w xs hs hx).mono ?_⟩;rintro e w' ⟨E',x,rfl,gM,qo,kV⟩;obtain⟨E2,s2,ev2,hry⟩:=step E' w' x qo kV;have he:=gM.trans ev2;have hc:=s2.cut (n:=mem.length) rfl hm;refine⟨E2.cut mem.length,x,rfl,⟨⟨he.le.F,fun k v t hk=>?_⟩,fun k v g e c hk=>?_,he.F,he.os,he.tape,he.output,he.size,he.heap⟩,hc,jc hry hv⟩;·(have:k<mem.length:=by (rcases bn k mem.length with bH|fP);(·exact bH);·rw [hs.top k fP v] at hk;cases hk);exact (gH this).trans (he.le.cE _ _ _ hk)
  ·(have:E2.cE k v=some (g,e,c):=by by_cases fe:k<mem.length;(·exact ((gH fe).symm.trans hk:E2.cE k v=_));·have h2:(E2.cut mem.length).cE k v=none:=g5 fe;rw [h2] at hk;cases hk);exact he.cE _ _ _ _ _ this
theorem bK.abS {P:g7} {f:FuncId} {vs:List V} {mem m:List bx} {v v':V} (h:bK P f vs mem v m) (hp:mT m v=some v') (hv:aQ mem.length v'=true) (hm:((iA m (iz v)).take mem.length).all (a6 mem.length)=true) :
    bK P f vs mem v' ((iA m (iz v)).take mem.length):=h.EB (fun E w x hs kV=>by
  obtain⟨E2,s2,ev2,r2⟩:=hs.freeze (vs:=[v]) (vs':=[v']) (by simp [jj,hp])
  have hr:[v].flatMap iz=iz v:=by simp
  rw [hr] at s2
  obtain⟨y,ys,hy,hry,-⟩:=(r2 [x] (.cons kV (.nil _))).of_cons
  cases hy
  exact⟨E2,s2,ev2,hry⟩) hv hm
def abT (n:Nat) (v:V) (m:List bx):Option (V×List bx) :=
  if m.length=n then some (v,m) else match v with
    | .ptr k 0=>match m[k]? with
      | some (.box cs)=>if n<=k/\cs.all mu=true/\((m.set k .dead).take n).all (a6 n)=true then some (.fQ cs,(m.set k .dead).take n) else none
      | _=>none
    | _=>match mT m v with
      | some v'=>if aQ n v'=true/\((iA m (iz v)).take n).all (a6 n)=true then some (v',(iA m (iz v)).take n) else none
      | none=>none
theorem W2 {P:g7} {f:FuncId} {vs:List V} {mem m0 m:List bx} {v0 v:V} (h:bK P f vs mem v0 m0) (Gm:abT mem.length v0 m0=some (v,m)):bK P f vs mem v m:=by
  unfold abT at Gm;split at Gm;·cases Gm;exact h
  ·split at Gm;(·rename_i k;split at Gm;(·rename_i cs hk;split at Gm;(·rename_i wD;cases Gm;refine h.EB (fun E w x hs kV=>?_) (by simp [aQ]) wD.2.2;exact hs.abK kV hk wD.2.1);·cases Gm);·cases Gm);·split at Gm;(·rename_i w hw;split at Gm;(·rename_i wD;cases Gm;exact h.abS hw wD.1 wD.2);·cases Gm);·cases Gm
def abU (call:my):IQ:=fun f vs k mem =>
  match mem[k]? with
  | some B0=>match call f vs mem with
    | some [(v0,m0)]=>match abT mem.length v0 m0 with
      | some (v,m)=>match m[k]? with
        | some B=>if B0.ej=0/\B.ej=0/\th m (mem.set k B)=true then some (v,B) else none
        | none=>none
      | none=>none
    | _=>none
  | none=>none
theorem W3 {P:g7} {call:my} (hc:ld P call):Nq P (abU call):=by
  intro f vs k mem v B h;unfold abU at h;split at h;·rename_i B0 h0;split at h;(·rename_i v0 m0 hf;split at h;(·rename_i v' m Gm;split at h;(·rename_i B' hB;split at h;(·rename_i sL;cases h;obtain⟨h1,h2,h3⟩:=sL;have e:=uu h3;have h4:=hc f vs mem _ hf;have h5:bK P f vs mem v0 m0:=⟨h4.1,fun E w xs hs hx=>(h4.2 E w xs hs hx).mono fun e w' ⟨E',x,r',m',p1,p2,p4⟩=>by simp only [ei,dK] at p2;obtain⟨rfl,rfl⟩:=p2;exact⟨E',x,p1,p4⟩⟩;refine⟨B0,h0,h1,h2,?_⟩;rw [<- e];exact W2 h5 Gm);·cases h);·cases h);·cases h);·cases h
  ·cases h
def Sc (ops:List Oper) (st:St) (x:Operand):Option Nat :=
  match (match x with
    | .tmp t=>(match ops.find? (fun o:Oper=>o.dst==some t) with
      | some o=>(match o.op with|.fieldAddr _ y _=>some (st.eval y)|.move y=>some (st.eval y)|_=>none)
      | none=>none)
    | _=>none) with
  | some (.ptr k _)=>some k
  | _=>match st.eval x with
    | .ptr k _=>some k
    | _=>none
def IV (ops:List Oper) (st:St):List Oper->List Pl->List (Nat×Nat)
  | o :: r,p :: ps=>if p.cls = .e/\900<=p.key then (match o.op with|.store _ x _=>(match Sc ops st x with|some k=>(p.key,k) :: IV ops st r ps|none=>IV ops st r ps)|_=>IV ops st r ps) else IV ops st r ps
  | _,_=>[]
def W4 (mem:List bx) (w:Nat):Nat:=match mem[w]? with
  | some (.box cs)=>match (cs[8]?:Option V) with
    | some (.jh _ _ _)=>w
    | _=>match (cs[6]?:Option V) with
      | some (.jh _ _ [.ptr okk _,.ptr tk _])=>match (mem[tk]?:Option bx) with
        | some (.box [.jh _ _ [.ptr ik _]])=>match (mem[ik]?:Option bx) with
          | some (.box [.mp m])=>m
          | _=>okk
        | _=>okk
      | _=>w
  | _=>w
def Gn (ops:List Oper) (st:St):List Oper->List (Nat×Nat)
  | o :: r=>match o.op with
    | .call { callee:=.value _,args:=xs,.. }=>match xs.toList with
      | x :: _=>match Sc ops st x with
        | some w=>[(99,W4 st.mem w)]
        | none=>Gn ops st r
      | []=>Gn ops st r
    | _=>Gn ops st r
  | []=>[]
def agp (l:List (Nat×Nat)) (a:Nat):Nat:=match l.find? (fun p:Nat×Nat=>p.1==a) with
  | some p=>p.2
  | none=>a
def Sd (ops:Array Oper) (st:St) (pl:List Pl):List Pl:=match Gn ops.toList st ops.toList++IV ops.toList st ops.toList pl with
  | []=>pl
  | l=>pl.map fun p => { p with key:=if p.cls = .e then agp l p.key else p.key,abs:=p.abs.map (agp l) }
def fnM (uT call:my):my:=fun f vs mem=>match uT f vs mem with
  | some r=>some r
  | none=>call f vs mem
theorem LA {P:g7} {uT call:my} (ho:ld P uT) (hc:ld P call):ld P (fnM uT call):=fun f vs mem outs h=>by
  unfold fnM at h;split at h;·rename_i hr;cases h;exact ho _ _ _ _ hr
  ·exact hc _ _ _ _ h
def noM:my:=fun _ _ _=>none
theorem abV {P:g7}:ld P noM:=fun _ _ _ _ h=>by cases h
def W5 (P:g7) (tt:Table) (nat:rA) (nT:FuncId->List V->Option V) (uT:my) (code:qH) (ops:Array Oper) (st:St) (p:List Pl×Nat):Option (List (Exit×St)) :=
  if xe ops (Sd ops st p.1)=true then (match IT P tt nat (abR nT (EA P tt code)) (Sa P tt code) (abU (fnM uT (WY P tt code))) ops st.mem.length ops.toList (Sd ops st p.1) { st with mem:=st.mem++List.replicate p.2 .hole } with
    | some s=>some [(.normal,s)]
    | none=>none) else none
def qj (P:g7) (tt:Table) (pl:IG) (nat:rA) (nT:FuncId->List V->Option V) (uT:my) (code:qH):qH:=fun ρ c st =>
  match c with
  | .skip=>some [(.normal,st)]
  | .ret=>some [(.ret,st)]
  | .exit id=>some [(.exit id,st)]
  | .seq a b=>qI (code ρ a st) fun o=>match o.1 with
    | .normal=>code ρ b o.2
    | e=>some [(e,o.2)]
  | .cond x a b=>match st.eval x with
    | .sc (.bool t)=>code ρ (if t=true then a else b) st
    | _=>none
  | .block id c=>qI (code ρ c st) fun o=>match o.1 with
    | .exit j=>if j=id then some [(.normal,o.2)] else some [(.exit j,o.2)]
    | e=>some [(e,o.2)]
  | .loop c=>qI (code ρ c st) fun o=>match o.1 with
    | .normal=>code ρ (.loop c) o.2
    | e=>some [(e,o.2)]
  | .region _ ops false=>match Pz P tt nat nT (fnM uT (WY P tt code)) (WZ code) ops ops.toList st with
    | some l=>some (l.map fun s=>(.normal,s))
    | none=>match IL st with
      | some st'=>qI (Pz P tt nat nT (fnM uT (WY P tt code)) (WZ code) ops ops.toList st') fun s=>some [(.normal,s)]
      | none=>none
  | .region id ops true=>match yG (W5 P tt nat nT uT code ops st) (pl id ops) with
    | some x=>some x
    | none=>match IL st with
      | some st'=>yG (W5 P tt nat nT uT code ops st') (pl id ops)
      | none=>none
  | .rangeFunc f params assign body=>if ρ=true then none else
    match du (st.eval f) [.kx st.mem.length] with
    | some (g,vs)=>qI (WY P tt code g vs (st.mem++[.loop .ready none st.fr params assign body])) fun o=>match o.2[st.mem.length]? with
      | some (.loop s oe _ _ _ _)=>if W0 s=true then (match oe with
        | none=>WS true none [] { st with mem:=o.2.set st.mem.length .dead } fun s=>some [(.normal,s)]
        | some c=>WS true none [] { st with mem:=o.2.set st.mem.length .dead } fun s=>code false c s) else none
      | _=>none
    | none=>none
  | _=>none
def ev (P:g7) (tt:Table) (pl:IG) (nat:rA) (nT:FuncId->List V->Option V) (uT:my) (n:Nat):qH:=Nat.rec (fun _ _ _=>none) (fun _ r=>qj P tt pl nat nT uT r) n
def B5 (P:g7) (code:qH):Prop:=∀ b c st outs,code b c st=some outs->∀ (ρ:Option Nat) (n0:Nat) (Q:Exit->St->Prop),(b=true\/ρ=none)->(∀ o∈outs,Q o.1 o.2)->fc P ρ n0 c st Q
section
variable {P:g7} {tt:Table} {pl:IG} {nat:rA} {nT:FuncId->List V->Option V} {uT:my} (ht:TT P tt) (hm:P.follows .mixedOrders=true)
  (fM:∀ (f:FuncId) (fn:Func) (body:Code),P.funcs[f]?=some fn->fn.body=some body->∀ (xs:Array Value) (w:World),(callFunc f xs).run P w = .ok (.enter f xs) w)
include ht fM
theorem yH {code:qH} (Y5:B5 P code):ld P (WY P tt code):=by
  intro f vs mem outs h;unfold WY at h;split at h;·rename_i fn hf;split at h;(·rename_i body hb;rw [bp] at h;obtain⟨apD,h,hdd⟩:=h;obtain⟨l,h1,h2⟩:=jd h;rw [Gf,rB,vR] at h1;refine RM ht hf hb (fM f fn body hf hb) (Y5 _ _ _ _ h1 none _ _ (.inr rfl) fun o ho=>?_);obtain⟨b,h3,h4⟩:=h2 o ho;split at h3;(·rename_i he;split at h3;(·rename_i r hr;rw [IJ] at h3;split at h3;(·rename_i p hp;rw [rB] at h3;cases h3;unfold agn at hp;dsimp only at hp;split at hp;(·rename_i sL;cases hp;refine⟨?_,r,_,sL.1,hr,sL.2.1,sL.2.2,by rw [<- hdd];exact yF (h4 _ (by simp))⟩;cases ho1:o.1 <;> simp [AS,ho1] at he <;> simp);·cases hp);·cases h3);·cases h3);·cases h3);·cases h
  ·cases h
theorem IW {code:qH} (Y5:B5 P code):vS P (EA P tt code):=by
  intro f vs r h;unfold EA at h;split at h;·rename_i fn hf;split at h;(·rename_i body hb;split at h;(·rename_i r1 rs ym;split at h;(·rename_i cZ;cases h;obtain⟨l,h1,h2⟩:=jd ym;rw [Gf,vR] at h1;refine Na ht hf hb (fM f fn body hf hb) (Y5 _ _ _ _ h1 none _ _ (.inr rfl) fun o ho=>?_);obtain⟨b,h3,h4⟩:=h2 o ho;split at h3;(·rename_i he;split at h3;(·rename_i r2 hr;rw [IJ] at h3;cases h3;(have H7:r2=r:=by (rcases dp.1 (h4 r2 (by simp)) with h|h);(·exact h);·exact (xj (ba.1 cZ _ h)).symm);subst H7;refine⟨?_,hr⟩;cases ho1:o.1 <;> simp [AS,ho1] at he <;> simp);·cases h3);·cases h3);·cases h);·cases h);·cases h
  ·cases h
theorem Se {code:qH} (Y5:B5 P code):Gg P (Sa P tt code):=by
  intro f vs e rs h;unfold Sa at h;split at h;·rename_i outs ho;split at h;(·rename_i v e' nC hl;cases h;exact (yH ht fM Y5 f vs [] outs ho).live fun r m hr=>Ly hl r m hr);·cases h
  ·cases h
omit ht fM in
theorem Ns {code:qH} (Y5:B5 P code):R4 P (WZ code):=by
  intro k vs mem outs h;unfold WZ at h;split at h;·rename_i fr params assign body hk;split at h;(·rename_i hlen;obtain⟨l1,h1,h2⟩:=jd h;rw [Gf,vR] at h1;refine wV hk hlen fun l=>Y5 _ _ _ _ h1 (some l) _ _ (.inl rfl) fun o ho=>?_;obtain⟨b,h3,h4⟩:=h2 o ho;split at h3;(·rename_i YX p1 WB WC he gW;refine⟨he,YX,p1,WB,WC,gW,?_⟩;obtain⟨l2,h5,h6⟩:=jd h3;rw [vR] at h5;refine Y5 _ _ _ _ h5 (some l) _ _ (.inl rfl) fun u hu=>?_;obtain⟨b2,h7,h8⟩:=h6 u hu;split at h7;(·rename_i jump s2 pe2 WD p2 RO RP hj kh;obtain⟨n,hn,VW,pY⟩:=Lz h7;exact⟨n,jump,s2,pe2,WD,p2,RO,RP,hn,hj,kh,VW,h4 _ (h8 _ pY)⟩);·cases h7);·cases h3);·cases h
  ·cases h
include hm in
theorem Y6 (Ge:r8 P nT) (Sf:ld P uT) (vh:nY P nat):∀ (n:Nat),B5 P (ev P tt pl nat nT uT n)/\∀ b c st outs,ev P tt pl nat nT uT n b (.loop c) st=some outs->∀ (ρ:Option Nat) (n0:Nat) (Q:Exit->St->Prop),(b=true\/ρ=none)->(∀ o∈outs,Q o.1 o.2)->mv P ρ n0 c n st Q:=by
  intro n
  induction n with
  | zero=>exact⟨fun b c st outs h=>by simp [ev] at h,fun b c st outs h=>by simp [ev] at h⟩
  | succ n ih =>
    obtain⟨Nt,ihl⟩:=ih
    have jH:∀ b c st,ev P tt pl nat nT uT (n+1) b c st=qj P tt pl nat nT uT (ev P tt pl nat nT uT n) b c st:=fun _ _ _=>rfl
    have loop:∀ b c st outs,ev P tt pl nat nT uT (n+1) b (.loop c) st=some outs->∀ (ρ:Option Nat) (n0:Nat) (Q:Exit->St->Prop),(b=true\/ρ=none)->(∀ o∈outs,Q o.1 o.2)->mv P ρ n0 c (n+1) st Q:=by
      intro b c st outs h ρ n0 Q hb hQ
      rw [jH] at h
      simp only [qj] at h
      obtain⟨l,h1,h2⟩:=jd h
      refine Nt _ _ _ _ h1 ρ n0 _ hb fun o ho=>?_
      obtain⟨e,s⟩:=o
      obtain⟨b',h3,h4⟩:=h2 _ ho
      cases e with
      | normal=>exact ihl _ _ _ _ h3 ρ n0 Q hb fun o' YO=>hQ _ (h4 _ YO)
      | _=>cases h3;exact hQ (_,_) (h4 _ (by simp))
    refine⟨fun b c st outs h ρ n0 Q hb hQ=>?_,loop⟩
    cases c with
    | skip=>rw [jH] at h;cases h;exact cR (hQ (_,_) (by simp))
    | ret=>rw [jH] at h;cases h;exact cy (hQ (_,_) (by simp))
    | exit id=>rw [jH] at h;cases h;exact fA (hQ (_,_) (by simp))
    | seq x y =>
      rw [jH] at h
      simp only [qj] at h
      obtain⟨l,h1,h2⟩:=jd h
      refine bS (Nt _ _ _ _ h1 ρ n0 _ hb fun o ho=>?_)
      obtain⟨e,s⟩:=o
      obtain⟨b',h3,h4⟩:=h2 _ ho
      cases e with
      | normal=>exact Nt _ _ _ _ h3 ρ n0 Q hb fun o' YO=>hQ _ (h4 _ YO)
      | _=>cases h3;exact hQ (_,_) (h4 _ (by simp))
    | cond x y z =>
      rw [jH] at h
      simp only [qj] at h
      split at h
      · rename_i t hx
        exact bD hx (Nt _ _ _ _ h ρ n0 Q hb hQ)
      · cases h
    | block id c =>
      rw [jH] at h
      simp only [qj] at h
      obtain⟨l,h1,h2⟩:=jd h
      refine cz (Nt _ _ _ _ h1 ρ n0 _ hb fun o ho=>?_)
      obtain⟨e,s⟩:=o
      obtain⟨b',h3,h4⟩:=h2 _ ho
      cases e with
      | exit j =>
        dsimp only at h3
        simp only [kB]
        split at h3
        · rename_i hj;cases h3;rw [gH hj];exact hQ (_,_) (h4 _ (by simp))
        · rename_i hj;cases h3;rw [g5 hj];exact hQ (_,_) (h4 _ (by simp))
      | _=>cases h3;exact hQ (_,_) (h4 _ (by simp))
    | loop c=>exact sX (n+1) (loop _ _ _ _ h ρ n0 Q hb hQ)
    | region id ops d =>
      rw [jH] at h
      cases d with
      | false =>
        simp only [qj] at h
        split at h
        · rename_i l h1
          cases h
          exact mV ht (rD Ge vh (LA Sf (yH ht fM Nt)) (Ns Nt) h1 fun s hs=>hQ (_,_) (dS.2 ⟨s,hs,rfl⟩))
        · split at h
          · rename_i st' Rz
            obtain⟨l,h1,h2⟩:=jd h
            refine BX Rz (mV ht (rD Ge vh (LA Sf (yH ht fM Nt)) (Ns Nt) h1 fun s hs=>?_))
            obtain⟨b',h3,h4⟩:=h2 _ hs
            cases h3
            exact hQ (_,_) (h4 _ (by simp))
          · cases h
      | true =>
        simp only [qj] at h
        have one:∀ (st:St) (outs:List (Exit×St)),(∀ o∈outs,Q o.1 o.2)->yG (W5 P tt nat nT uT (ev P tt pl nat nT uT n) ops st) (pl id ops)=some outs->fc P ρ n0 (.region id ops true) st Q:=fun st outs hQ h=>by
          obtain⟨p,-,hp⟩:=zT h
          unfold W5 at hp
          split at hp
          · rename_i iq
            split at hp
            · rename_i s hs
              cases hp
              exact qG ht hm (Sd ops st p.1) p.2 iq (zS vh (W1 Ge (IW ht fM Nt)) (Se ht fM Nt) (W3 (LA Sf (yH ht fM Nt))) hs (hQ (_,_) (by simp)))
            · cases hp
          · cases hp
        split at h
        · rename_i x hx;cases h;exact one st _ hQ hx
        · split at h
          · rename_i st' Rz
            exact BX Rz (one st' _ hQ h)
          · cases h
    | rangeFunc f params assign body =>
      rw [jH] at h
      simp only [qj] at h
      split at h
      · cases h
      · rename_i hbf
        have hρ : ρ = none := by rcases hb with h|h
                                 · exact absurd h hbf
                                 · exact h
        subst hρ
        split at h
        · rename_i g vs hg
          obtain⟨l,h1,h2⟩:=jd h
          refine s8 hg (yH ht fM Nt _ _ _ _ h1) fun r Ap hr=>?_
          obtain⟨b',h3,h4⟩:=h2 _ hr
          dsimp only at h3
          split at h3
          · rename_i s oe fr' V1 V2 V3 WE
            split at h3
            · rename_i qX
              refine⟨s,oe,fr',V1,V2,V3,WE,(fun e=>by subst e;cases qX),?_⟩
              split at h3
              · rw [vR] at h3;cases h3;exact hQ (_,_) (h4 _ (by simp))
              · rename_i c
                rw [vR] at h3
                exact Nt _ _ _ _ h3 none n0 Q (.inr rfl) fun o' YO=>hQ _ (h4 _ YO)
            · cases h3
          · cases h3
        · cases h
    | _=>rw [jH] at h;simp [qj] at h
include hm in
theorem Y7 (Ge:r8 P nT) (Sf:ld P uT) (vh:nY P nat) (n:Nat) {f:FuncId} {vs:List V} {r:V} (h:EA P tt (ev P tt pl nat nT uT n) f vs=some r):dz P f vs r:=IW ht fM (Y6 ht hm fM Ge Sf vh n).1 f vs r h
include hm in
theorem abW (Ge:r8 P nT) (Sf:ld P uT) (vh:nY P nat) (n:Nat) {f:FuncId} {vs:List V} {mem:List bx} {outs:List (V×List bx)} (h:WY P tt (ev P tt pl nat nT uT n) f vs mem=some outs):jY P f vs mem fun r m=>(r,m)∈outs:=yH ht fM (Y6 ht hm fM Ge Sf vh n).1 f vs mem outs h
end
def alJ (P:g7):Bool:=P.funcs.all fun fn=>fn.name != "runtime.NumGoroutine"
theorem Sg {P:g7} (h:alJ P=true) (f:FuncId) (fn:Func) (body:Code) (hf:P.funcs[f]?=some fn) (hb:fn.body=some body) (xs:Array Value) (w:World):(callFunc f xs).run P w = .ok (.enter f xs) w:=by
  have bH:f<P.funcs.size:=(dT.1 hf).1;have hn:=(Array.all_eq_true.1 h) f bH;have hfe:P.funcs[f]=fn:=(dT.1 hf).2;rw [hfe] at hn;have dI:(fn.name == "runtime.NumGoroutine")=false:=by simpa using hn
  simp only [callFunc,program,Sem.run_bind];show (match P.funcs[f]? with|none=>_|some fn=>_:Sem Next).run P w=_;rw [hf];dsimp only;rw [dI,hb];rfl
def abY (l:List (Nat×Nat×Nat×List Pl)):IG:=fun id ops =>
  (l.filter fun e=>e.1==id&&e.2.1==ops.size).map fun e=>(e.2.2.2,e.2.2.1)
def LC:List V->Option V
  | [.sc (.string a),.sc (.string b)]=>if 2<=b.size/\OS b.size=true/\a.size<4294967281 then
      (match (List.range (a.size+1-b.size)).find? fun i=>a.extract i (i+b.size)==b with
        | some i=>some (.sc (.int .i64 i))
        | none=>some (.sc (.int .i64 (-1)))) else none
  | _=>none
theorem PC {P:g7} {f:FuncId} {fn:Func} {g:Nat} (hf:P.funcs[f]?=some fn) (hn:(fn.name == "runtime.NumGoroutine")=false) (hb:fn.body=none) (Si:Extern.findNext fn=none) (HR:Extern.find fn=some Extern.BytealgIndex.index)
    (hg:∀ w,(globalAddr "internal/bytealg.MaxLen").run P w = .ok ⟨g,0,none⟩ w) (hG:bJ.g=some g) {vs:List V} {r:V} (h:LC vs=some r):sS P f vs r:=fun E w xs hF hx=>by
  unfold LC at h
  split at h
  · rename_i a b
    split at h
    · rename_i hc
      obtain⟨h2,hm,ha⟩:=hc
      rw [FE] at hm
      have hm:(b.size:Int)<=bJ.n:=by simpa using hm
      obtain⟨x,r1,hy,DJ,hx⟩:=hx.of_cons
      obtain⟨y,r2,hz,H7,hx⟩:=hx.of_cons
      have:=hx.of_nil
      subst this;subst hz
      obtain rfl:=fL DJ
      obtain rfl:=fL H7
      obtain rfl:xs = #[.string a,.string b]:=by rw [<- cJ (xs:=xs),hy]
      have qz:w.cell? ⟨g,0,none⟩=some (.int .i64 bJ.n):=hF _ _ (E.gl.n g hG)
      have alK:Extern.BytealgIndex.maxLen.run P w = .ok bJ.n w:=by
        simp [Extern.BytealgIndex.maxLen,hg,load,Sem.run,qz,asInt,asIntOf]
      have fG:(Extern.BytealgIndex.index #[.string a,.string b]).run P w = .ok (match (List.range (a.size+1-b.size)).find? fun i=>a.extract i (i+b.size)==b with|some i=>goInt i|none=>goInt (-1)) w:=by
        show (do
          let a <- Extern.Bytes.bytesOf (.string a)
          let b <- Extern.Bytes.bytesOf (.string b)
          if b.size<2||(b.size:Int)>(<- Extern.BytealgIndex.maxLen) then
            unsupported (.noEntry "extern/internal/bytealg.Index.length")
          if a.size≥2 ^ 32-15 then
            unsupported (.noEntry "extern/internal/bytealg.Index: a haystack of 2^32 - 15 bytes or more")
          match (List.range (a.size+1-b.size)).find? fun i=>a.extract i (i+b.size)==b with
          | some i=>pure (goInt i)
          | none=>pure (goInt (-1)):Sem Value).run P w=_
        have e1:(decide (b.size<2))=false:=by simp;omega
        have e2:decide ((b.size:Int)>bJ.n)=false:=by simp;omega
        have e3:¬ a.size≥2 ^ 32-15:=by omega
        simp only [Extern.Bytes.bytesOf,Sem.run_bind,Sem.run_pure,Result.andThen_ok,alK,e1,e2,bg,bw,if_false,e3]
        split <;> rfl
      refine⟨(match (List.range (a.size+1-b.size)).find? fun i=>a.extract i (i+b.size)==b with|some i=>goInt i|none=>goInt (-1)),?_,?_⟩
      · simp only [callFunc,program,Sem.run_bind]
        show (match P.funcs[f]? with|none=>_|some fn=>_:Sem Next).run P w=_
        rw [hf]
        dsimp only
        rw [hn,hb]
        simp only [bw,if_false,aeX,if_true,Si,HR,Sem.run_bind,mark,Sem.run,Result.andThen_ok]
        rw [fG];rfl
      · split at h
        · cases h;exact .sc _ _
        · cases h;exact .sc _ _
    · cases h
  · cases h
end Go.Eng
end
