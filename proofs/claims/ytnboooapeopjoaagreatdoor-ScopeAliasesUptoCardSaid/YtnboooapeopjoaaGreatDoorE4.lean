import Derived.Test.YtnboooapeopjoaaGreatDoorE3
open Array renaming getElem?_eq_some_iff→dp,toArray_toList→cL
open Bool renaming and_eq_true→aN,false_eq_true→b9,or_self→bu
open List renaming all_eq_true→aY,any_eq_true→am3,ext_getElem?→di,getD_eq_getElem?_getD→eH,getElem?_cons_succ→mg,getElem?_cons_zero→fb,getElem?_eq_getElem→ah,getElem?_eq_none→dF,getElem?_map→ae,getElem?_set→bw,mem_append_left→dU,mem_append_right→dG,mem_cons→cp,mem_cons_of_mem→bh,mem_cons_self→bJ,mem_map→cu,mem_singleton→fO,not_mem_nil→nG
open Nat renaming lt_or_ge→bW,zero_add→ct
open Option renaming isNone_none→Yy,map_eq_some_iff→br
open Option.some renaming injEq→aB
open Prod renaming ext→ane
open Prod.mk renaming injEq→dQ
set_option linter.all false
section
namespace Go.Eng
variable [a6]

abbrev Eh:=Nat→Array Oper→List (List Pl×Nat)
abbrev kM:=FuncId→List V→List ba→Option (List (V×List ba))
abbrev oJ:=FuncId→List V→Option V
def lP (P:Program) (nat:oJ):Prop:=∀ f vs r,nat f vs=some r→qo P f vs r
abbrev J6:=Nat→List V→List ba→Option (List (Bool×List ba))
abbrev oK:=Bool→Code→St→Option (List (Exit×St))

def oL {α β:Type} (x:Option (List α)) (f:α→Option (List β)):Option (List β) :=
  match x with
  | none=>none
  | some l=>l.foldr (fun a acc=>match f a,acc with | some b,some c=>some (b++c) | _,_=>none) (some [])
theorem A8 {α β:Type} {f:α→Option (List β)}:∀ {l:List α} {out:List β},oL (some l) f=some out→∀ a∈l,∃ b,f a=some b∧∀ x∈b,x∈out
  | [],_,_,a,ha=>by simp at ha
  | c :: r,out,h,a,ha=>by
    simp only [oL,List.foldr_cons] at h
    split at h
    · rename_i b t hb hc
      cases h
      rcases cp.1 ha with rfl | ha
      · exact⟨b,hb,fun x hx=>dU _ hx⟩
      · obtain⟨b',h1,h2⟩:=A8 (l:=r) (out:=t) hc a ha
        exact⟨b',h1,fun x hx=>dG _ (h2 x hx)⟩
    · cases h
theorem gW {α β:Type} {x:Option (List α)} {f:α→Option (List β)} {out:List β} (h:oL x f=some out):∃ l,x=some l∧∀ a∈l,∃ b,f a=some b∧∀ y∈b,y∈out:=by cases x with | none=>cases h | some l=>exact⟨l,rfl,A8 h⟩

def ME (st:St) (it:V) (str:Bool):Option (List (V×List ba)) :=
  match it with
  | .ptr b 0=>match st.mem[b]? with
    | some (.jc m since seen last)=>match st.mem[m]? with
      | some (.map dq clock)=>if str=false∧B5 dq seen last=false then
          some ((if (x8 dq seen since).isEmpty then [(x9,st.mem)] else []) ++
            (x8 dq seen since++L3 dq seen since).map fun e=>(L6 e,st.mem.set b (.jc m since (seen++[e.2.1]) clock)))
        else none
      | _=>none
    | some (.mS s pos)=>if str=true then (if pos<s.size then some [(TA s pos,st.mem.set b (.mS s (pos+(Utf8.decode s pos).2)))] else some [(x9,st.mem)]) else none
    | some .nh=>if str=false then some [(x9,st.mem)] else none
    | _=>none
  | _=>none
theorem ga {α:Type} {Q:α→Prop} {a:α} (h:∀ p∈[a],Q p):Q a:=h a (fO.2 rfl)
theorem Ei {st:St} {dst:Option Tmp} {it:V} {str:Bool} {outs:List (V×List ba)} {Q:St→Prop} (h:ME st it str=some outs) (hQ:∀ p∈outs,Q (St.put { st with mem:=p.2 } dst p.1)):tG st dst it str Q:=by
  unfold ME at h;unfold tG;split at h;·split at h;(·rename_i h1;simp only [h1];split at h;(·rename_i h2;simp only [h2];split at h;(·rename_i h3;cases h;refine⟨h3.1,h3.2,fun he=>?_,fun e he=>?_⟩;(·have:=hQ (x9,st.mem) (by rw [he]; exact dU _ (fO.2 rfl)); exact this);·have:=hQ _ (dG _ (cu.2 ⟨e,he,rfl⟩)); exact this);·cases h);·cases h);(·rename_i h1;simp only [h1];split at h;(·rename_i h3;refine⟨h3,?_⟩;split at h;(·rename_i h4; cases h; rw [if_pos h4]; exact (by have h9:=ga hQ; exact h9));·rename_i h4; cases h; rw [if_neg h4]; exact (by have h9:=ga hQ; exact h9));·cases h);(·rename_i h1;simp only [h1];split at h;(·rename_i h3;cases h;exact⟨h3,(by have h9:=ga hQ; exact h9)⟩);·cases h);·cases h
  ·cases h

def ZS (lQ:FuncId→List V→Option V) (g:FuncId) (vs:List V) (st:St):Option (V×List ba) :=
  match fh st.mem vs with
  | some vs'=>match lQ g vs' with
    | some r=>some (r,fQ st.mem (vs.flatMap eR) r)
    | none=>none
  | none=>none
def oM (P:Program) (lQ:FuncId→List V→Option V):Prop:=∀ f vs r,lQ f vs=some r→bG P f vs r
def MF (P:Program) (tt:Table) (nat:oJ) (lQ:FuncId→List V→Option V) (call:kM) (jz:J6) (key:Nat) (o:Oper) (st:St):Option (List (V×List ba)) :=
  match o.op with
  | .alloc T=>match tt T with
    | some i=>some [((.ptr key 0),c7 st.mem key (.box (i.zero.map V.sc)))]
    | none=>none
  | .box _ x=>match k7 (st.eval x) with
    | some cs=>some [((.ptr key 0),c7 st.mem key (.box cs))]
    | none=>none
  | .build T parts=>match mH P tt T parts.toList st.eval with
    | some v=>some [(v,st.mem)]
    | none=>none
  | .buildSlice T len parts=>match vl tt T len parts.toList st.eval with
    | some (size,rs)=>some [((.ms key 0 0 len),c7 st.mem key (.rows 0 size rs))]
    | none=>match Q6 tt T len parts.toList st with
      | some (size,rs)=>some [((.ms key 0 0 len),c7 (ey st.mem (B8 st.eval parts.toList)) key (.rows 0 size rs))]
      | none=>none
  | .store T p x=>match mG tt st.mem T (st.eval p) (st.eval x) with
    | some bM=>some [((.sc undef),bM)]
    | none=>match B9 tt st.mem T (st.eval p) (st.eval x) with
      | some bM=>some [((.sc undef),bM)]
      | none=>none
  | .call { callee:=.builtin .append,args:=xs,argTypes:=ts }=>match xs.toList.map st.eval with
    | [s,x]=>match iw tt st.mem ts.toList s x with
      | some (size,sD,rows)=>some [((fM st.mem key size rows sD).2,(fM st.mem key size rows sD).1)]
      | none=>none
    | _=>none
  | .call { callee:=.value f,args:=xs,.. }=>match st.eval f with
    | .jz k=>match jz k (xs.toList.map st.eval) st.mem with
      | some outs=>some (outs.map fun p=>((.sc (.bool p.1)),p.2))
      | none=>none
    | fv=>match cP fv (xs.toList.map st.eval) with
      | some (g,vs)=>match ZS lQ g vs st with
        | some (r,bM)=>some [(r,bM)]
        | none=>match call g vs st.mem with
          | some outs=>some (outs.map fun p=>(p.1,p.2))
          | none=>match nat g vs with
            | some r=>some [(r,st.mem)]
            | none=>none
      | none=>none
  | .makeSlice T l c=>match wy tt T (st.eval l) (st.eval c) with
    | some (size,rs,_)=>some [((.ms key 0 0 rs.length),c7 st.mem key (.rows 0 size rs))]
    | none=>none
  | .makeMap _ none=>some [((.mp key),c7 st.mem key (.map [] 0))]
  | .mapUpdate T m k x=>match dt P st.mem T (st.eval m) (st.eval k) (st.eval x) with
    | some bM=>some [((.sc undef),bM)]
    | none=>none
  | .insert T m k x=>match dt P st.mem T (st.eval m) (st.eval k) (st.eval x) with
    | some bM=>some [((.sc undef),bM)]
    | none=>none
  | .mapEntry T m k=>match vm P st.mem T (st.eval m) (st.eval k) with
    | some (bM,v)=>some [(v,bM)]
    | none=>none
  | .entryStore _ m s x=>match vn st.mem (st.eval m) (st.eval s) (st.eval x) with
    | some bM=>some [((.sc undef),bM)]
    | none=>none
  | .call { callee:=.builtin .delete,args:=xs,argTypes:=ts }=>match rj P st.mem ts (xs.toList.map st.eval) with
    | some bM=>some [((.sc (.tuple #[])),bM)]
    | none=>none
  | .range T x=>match oD P st.mem T (st.eval x) with
    | some B=>some [((.ptr key 0),c7 st.mem key B)]
    | none=>none
  | .next it str=>ME st (st.eval it) str
  | .binOp op T x y _=>match od tt op T (st.eval x) (st.eval y) with
    | some n=>if n=0 then some [((.sc (.bool (o7 op false))),st.mem),((.sc (.bool (o7 op true))),st.mem)] else some [((.sc (.bool (o7 op false))),st.mem)]
    | none=>match lr P tt st o with
      | some v=>some [(v,st.mem)]
      | none=>none
  | _=>match lr P tt st o with
    | some v=>some [(v,st.mem)]
    | none=>none

def jE (P:Program) (call:kM):Prop:=∀ f vs mem outs,call f vs mem=some outs→dR P f vs mem fun r m=>(r,m)∈outs
def MG (P:Program) (jz:J6):Prop:=∀ k vs mem outs,jz k vs mem=some outs→JX P k vs mem fun b m=>(b,m)∈outs

theorem Ej {P:Program} {tt:Table} {nat:oJ} {lQ:FuncId→List V→Option V} {call:kM} {jz:J6} (xn:oM P lQ) (cq:lP P nat) (hc:jE P call) (hy:MG P jz) {key:Nat} {o:Oper} {st:St} {outs:List (V×List ba)} {Q:St→Prop} (h:MF P tt nat lQ call jz key o st=some outs) (hQ:∀ p∈outs,Q (St.put { st with mem:=p.2 } o.dst p.1)) :
    c8 P tt key o st Q:=by
  unfold MF at h;unfold c8;split at h;·rename_i heq; rw [heq]; dsimp only;split at h;(·rename_i h1; cases h; rw [h1]; exact (by have h9:=ga hQ; exact h9));·cases h
  ·rename_i heq; rw [heq]; dsimp only;split at h;(·rename_i h1; cases h; rw [h1]; exact (by have h9:=ga hQ; exact h9));·cases h
  ·rename_i heq; rw [heq]; dsimp only;split at h;(·rename_i h1; cases h; rw [h1]; exact (by have h9:=ga hQ; exact h9));·cases h
  ·rename_i heq; rw [heq]; dsimp only;split at h;(·rename_i h1; cases h; rw [h1]; exact (by have h9:=ga hQ; exact h9));·rename_i h0;rw [h0]; dsimp only;split at h;(·rename_i h1; cases h; rw [h1]; exact (by have h9:=ga hQ; exact h9));·cases h
  ·rename_i heq; rw [heq]; dsimp only;split at h;(·rename_i h1; cases h; rw [h1]; exact (by have h9:=ga hQ; exact h9));·rename_i h0;rw [h0]; dsimp only;split at h;(·rename_i h1; cases h; rw [h1]; exact (by have h9:=ga hQ; exact h9));·cases h
  ·rename_i heq; rw [heq]; dsimp only;split at h;(·rename_i h0;rw [h0]; dsimp only;split at h;(·rename_i h1; cases h; rw [h1]; exact (by have h9:=ga hQ; exact h9));·cases h);·cases h
  ·rename_i heq; rw [heq]; dsimp only;split at h;(·rename_i k hk;rw [hk]; dsimp only;split at h;(·rename_i os ho;cases h;exact .inr ⟨_,hy _ _ _ _ ho,fun b m hm=>(by have:=hQ _ (cu.2 ⟨_,hm,rfl⟩); exact this)⟩);·cases h);·rename_i fv YD;split at h;(·rename_i g vs hg;split at h;(·rename_i r bM J7;cases h;unfold ZS at J7;split at J7;(·rename_i vs' TE;split at J7;(·rename_i r1 Dn;cases J7;split;(·rename_i k hk; exact absurd hk (YD k));·rw [hg]; exact .inl ⟨vs',_,TE,xn _ _ _ Dn,(by have h9:=ga hQ; exact h9)⟩);·cases J7);·cases J7);·split at h;(·rename_i os ho;cases h;split;(·rename_i k hk; exact absurd hk (YD k));·rw [hg]; exact .inr (.inr (.inl ⟨_,hc _ _ _ _ ho,fun b m hm=>(by have:=hQ _ (cu.2 ⟨_,hm,rfl⟩); exact this)⟩)));·split at h;(·rename_i r hr;cases h;split;(·rename_i k hk; exact absurd hk (YD k));·rw [hg]; exact .inr (.inr (.inr ⟨r,cq _ _ _ hr,(by have h9:=ga hQ; exact h9)⟩)));·cases h);·cases h
  ·rename_i heq; rw [heq]; dsimp only;split at h;(·rename_i h1; cases h; rw [h1]; exact (by have h9:=ga hQ; exact h9));·cases h
  ·rename_i heq; rw [heq]; dsimp only; cases h; exact (by have h9:=ga hQ; exact h9)
  ·rename_i heq; rw [heq]; dsimp only;split at h;(·rename_i h1; cases h; rw [h1]; exact (by have h9:=ga hQ; exact h9));·cases h
  ·rename_i heq; rw [heq]; dsimp only;split at h;(·rename_i h1; cases h; rw [h1]; exact (by have h9:=ga hQ; exact h9));·cases h
  ·rename_i heq; rw [heq]; dsimp only;split at h;(·rename_i h1; cases h; rw [h1]; exact (by have h9:=ga hQ; exact h9));·cases h
  ·rename_i heq; rw [heq]; dsimp only;split at h;(·rename_i h1; cases h; rw [h1]; exact (by have h9:=ga hQ; exact h9));·cases h
  ·rename_i heq; rw [heq]; dsimp only;split at h;(·rename_i h1; cases h; rw [h1]; exact (by have h9:=ga hQ; exact h9));·cases h
  ·rename_i heq; rw [heq]; dsimp only;split at h;(·rename_i h1; cases h; rw [h1]; exact (by have h9:=ga hQ; exact h9));·cases h
  ·rename_i heq; rw [heq]; dsimp only;exact Ei h hQ
  ·rename_i heq; rw [heq]; dsimp only;split at h;(·rename_i n hn;rw [hn]; dsimp only;intro b hb;split at h;(·cases h; cases b;(·have:=hQ _ (bJ ..); exact this);·have:=hQ _ (bh _ (fO.2 rfl)); exact this);·rename_i h0; cases h; rw [hb h0]; exact (by have h9:=ga hQ; exact h9));·rename_i hn;rw [hn]; dsimp only;split at h;(·rename_i h1; cases h; rw [h1]; exact (by have h9:=ga hQ; exact h9));·cases h
  ·split at h;(·rename_i h1;cases h;split <;> first | (rw [h1]; exact (by have h9:=ga hQ; exact h9)) | (exfalso; solve_by_elim));·cases h

def MH {α β:Type}:List α→(List α→β)→β
  | [],k=>k []
  | c :: r,k=>MH r fun r'=>k (c :: r')
theorem pf {α β:Type}:∀ (l:List α) (k:List α→β),MH l k=k l
  | [],_=>rfl
  | c :: r,k=>by rw [MH,pf r]
def mJ {β:Type} (n:Nat) (k:Nat→β):β:=Nat.casesOn n (k 0) fun m=>k (Nat.succ m)
theorem iV {β:Type} (n:Nat) (k:Nat→β):mJ n k=k n:=by cases n <;> rfl
def VW {β:Type} (n:Int) (k:Int→β):β:=match n with | .ofNat m=>mJ m fun m'=>k (.ofNat m') | .negSucc m=>mJ m fun m'=>k (.negSucc m')
theorem Rp {β:Type} (n:Int) (k:Int→β):VW n k=k n:=by cases n <;> simp only [VW,iV]
def GX {β:Type} (s:ByteArray) (k:ByteArray→β):β:=MH s.data.toList fun l=>k ⟨⟨l⟩⟩
theorem J8 {β:Type} (s:ByteArray) (k:ByteArray→β):GX s k=k s:=by rw [GX,pf]
def Rr {β:Type} (v:Value) (k:Value→β):β :=
  match v with
  | .bool true=>k (.bool true)
  | .bool false=>k (.bool false)
  | .int t n=>VW n fun n'=>k (.int t n')
  | .string s=>GX s fun s'=>k (.string s')
  | v=>k v
theorem IH {β:Type} (v:Value) (k:Value→β):Rr v k=k v:=by
  unfold Rr;split;·rfl
  ·rfl
  ·rw [Rp]
  ·rw [J8]
  ·rfl
def fW {β:Type} (v:V) (k:V→β):β :=
  match v with
  | .undef=>k .undef
  | .sc v=>k (.sc v)
  | .agg cs=>k (.agg cs)
  | .slice r=>k (.slice r)
  | .ms a b c d=>k (.ms a b c d)
  | .ptr a b=>k (.ptr a b)
  | .gC a b c d=>k (.gC a b c d)
  | .eL cs=>k (.eL cs)
  | .cC f a b=>k (.cC f a b)
  | .eC l=>k (.eC l)
  | .jz a=>k (.jz a)
  | .mp a=>k (.mp a)
  | .gn=>k .gn
  | .full r=>k (.full r)
theorem TO {β:Type} (v:V) (k:V→β):fW v k=k v:=by cases v <;> rfl
def YJ {β:Type}:List V→(List V→β)→β
  | [],k=>k []
  | c :: r,k=>fW c fun c'=>YJ r fun r'=>k (c' :: r')
theorem Cj {β:Type}:∀ (l:List V) (k:List V→β),YJ l k=k l
  | [],_=>rfl
  | c :: r,k=>by rw [YJ,TO,Cj r]
mutual
def fV {β:Type}:V→(V→β)→β
  | .undef,k=>k .undef
  | .gn,k=>k .gn
  | .sc v,k=>Rr v fun v'=>k (.sc v')
  | .agg cs,k=>II cs fun sj=>k (.agg sj)
  | .eC cs,k=>II cs fun sj=>k (.eC sj)
  | .slice cs,k=>II cs fun sj=>k (.slice sj)
  | .full cs,k=>II cs fun sj=>k (.full sj)
  | .eL cs,k=>II cs fun sj=>k (.eL sj)
  | .cC f a b,k=>II a fun a'=>II b fun b'=>k (.cC f a' b')
  | .ms a b c d,k=>mJ a fun a'=>mJ b fun b'=>mJ c fun c'=>mJ d fun d'=>k (.ms a' b' c' d')
  | .ptr a b,k=>mJ a fun a'=>mJ b fun b'=>k (.ptr a' b')
  | .gC a b c d,k=>mJ a fun a'=>mJ b fun b'=>mJ c fun c'=>mJ d fun d'=>k (.gC a' b' c' d')
  | .jz a,k=>mJ a fun a'=>k (.jz a')
  | .mp a,k=>mJ a fun a'=>k (.mp a')
def II {β:Type}:List V→(List V→β)→β
  | [],k=>k []
  | c :: r,k=>fV c fun c'=>II r fun r'=>k (c' :: r')
end
mutual
theorem Ek {β:Type}:∀ (v:V) (k:V→β),fV v k=k v
  | .undef,_=>by rw [fV]
  | .gn,_=>by rw [fV]
  | .sc v,k=>by rw [fV,IH]
  | .agg cs,k=>by rw [fV,pg cs]
  | .eC cs,k=>by rw [fV,pg cs]
  | .slice cs,k=>by rw [fV,pg cs]
  | .full cs,k=>by rw [fV,pg cs]
  | .eL cs,k=>by rw [fV,pg cs]
  | .cC f a b,k=>by rw [fV,pg a,pg b]
  | .ms a b c d,k=>by rw [fV,iV,iV,iV,iV]
  | .ptr a b,k=>by rw [fV,iV,iV]
  | .gC a b c d,k=>by rw [fV,iV,iV,iV,iV]
  | .jz a,k=>by rw [fV,iV]
  | .mp a,k=>by rw [fV,iV]
theorem pg {β:Type}:∀ (l:List V) (k:List V→β),II l k=k l
  | [],_=>by rw [II]
  | c :: r,k=>by rw [II,Ek c,pg r]
end
def Rs {β:Type}:List (Value×Nat×V)→(List (Value×Nat×V)→β)→β
  | [],k=>k []
  | (a,n,v) :: r,k=>Rr a fun a'=>mJ n fun n'=>fV v fun v'=>Rs r fun r'=>k ((a',n',v') :: r')
theorem IJ {β:Type}:∀ (l:List (Value×Nat×V)) (k:List (Value×Nat×V)→β),Rs l k=k l
  | [],_=>rfl
  | (a,n,v) :: r,k=>by rw [Rs,IH,iV,Ek,IJ r]
def fB {β:Type} (B:ba) (k:ba→β):β :=
  match B with
  | .hole=>k .hole
  | .dead=>k .dead
  | .nh=>k .nh
  | .box cs=>II cs fun sj=>k (.box sj)
  | .rows v e rs=>mJ v fun v'=>mJ e fun e'=>II rs fun mo=>k (.rows v' e' mo)
  | .tv v e rs=>mJ v fun v'=>mJ e fun e'=>II rs fun mo=>k (.tv v' e' mo)
  | .loop s p fr ps a b=>k (.loop s p fr ps a b)
  | .map dq c=>Rs dq fun kvs'=>mJ c fun c'=>k (.map kvs' c')
  | .jc a b c d=>mJ a fun a'=>mJ b fun b'=>MH c fun c'=>mJ d fun d'=>k (.jc a' b' c' d')
  | .mS s p=>mJ p fun p'=>k (.mS s p')
theorem ZT {β:Type} (B:ba) (k:ba→β):fB B k=k B:=by cases B <;> simp only [fB,pg,iV,IJ,pf]
def GY {β:Type}:List Nat→List ba→(List ba→β)→β
  | [],m,k=>MH m k
  | i :: r,m,k=>match m[i]? with
    | some B=>fB B fun B'=>GY r (m.set i B') k
    | none=>GY r m k
theorem tX {β:Type}:∀ (ks:List Nat) (m:List ba) (k:List ba→β),GY ks m k=k m
  | [],m,k=>pf m k
  | i :: r,m,k=>by
    simp only [GY]
    split
    · rename_i B hB
      rw [ZT,tX r]
      congr 1
      apply di
      intro j
      rw [bw]
      split
      · rename_i Gd; subst Gd
        split
        · exact hB.symm
        · rename_i bX; rw [dF (by omega)]
      · rfl
    · exact tX r m k
def A9 (o:Oper):Bool :=
  match o.op with
  | .move _ | .assign _ | .pick .. | .load .. | .extract .. | .nilCheck _ | .field .. => true
  | _=>false
def fD {β:Type} (b:Bool) (v:V) (k:V→β):β:=match b with | true=>fW v k | false=>fV v k
theorem TP {β:Type} (b:Bool) (v:V) (k:V→β):fD b v k=k v:=by cases b <;> simp only [fD,TO,Ek]
def Rt {β:Type} (b:Bool) (d:Option Tmp) (ks:List Nat) (s:St) (k:St→β):β :=
  match d with
  | some d=>fD b (s.fr.getD d .undef) fun v=>MH (if d<s.fr.length then s.fr.set d v else s.fr) fun fr=>GY ks s.mem fun mem=>k { fr:=fr,mem:=mem }
  | none=>MH s.fr fun fr=>GY ks s.mem fun mem=>k { fr:=fr,mem:=mem }
theorem sL {β:Type} (b:Bool) (d:Option Tmp) (ks:List Nat) (s:St) (k:St→β):Rt b d ks s k=k s:=by
  unfold Rt;split;·rename_i d;rw [TP,pf,tX];congr 1;split;(·rename_i hd;obtain⟨fr,mem⟩:=s;dsimp only at hd ⊢;congr 1;apply di;intro j;rw [bw];split;(·rename_i Gd; subst Gd;rw [eH,ah hd]; rfl);·rfl);·rfl
  ·rw [pf,tX]
def Ru {β:Type}:List V→Nat→V→(List V→β)→β
  | [],_,_,k=>k []
  | _ :: r,0,v,k=>k (v :: r)
  | c :: r,d+1,v,k=>Ru r d v fun r'=>k (c :: r')
theorem IK {β:Type}:∀ (l:List V) (d:Nat) (v:V) (k:List V→β),Ru l d v k=k (l.set d v)
  | [],_,_,_=>rfl
  | _ :: _,0,_,_=>rfl
  | c :: r,d+1,v,k=>by rw [Ru,IK r]; rfl
def IL {β:Type} (ks:List Nat) (m:List ba) (k:List ba→β):β:=match ks with | []=>k m | _ :: _=>GY ks m k
theorem El {β:Type} (ks:List Nat) (m:List ba) (k:List ba→β):IL ks m k=k m:=by
  unfold IL;split;·rfl
  ·rw [tX]
def VX {β:Type} (b:Bool) (d:Option Tmp) (ks:List Nat) (st:St) (v:V) (m:List ba) (k:St→β):β :=
  match d with
  | some d=>fD b v fun v=>Ru st.fr d v fun fr=>IL ks m fun mem=>k { fr:=fr,mem:=mem }
  | none=>IL ks m fun mem=>k { fr:=st.fr,mem:=mem }
theorem Rw {β:Type} (b:Bool) (d:Option Tmp) (ks:List Nat) (st:St) (v:V) (m:List ba) (k:St→β):VX b d ks st v m k=k (St.put { st with mem:=m } d v):=by
  unfold VX;split;·rw [TP,IK,El]; rfl
  ·rw [El]; rfl
def MI:V→List Nat
  | .ptr b _=>[b]
  | .gC b _ _ _=>[b]
  | .ms b _ _ _=>[b]
  | .mp b=>[b]
  | _=>[]
def IN (key:Nat) (o:Oper) (st:St):List Nat :=
  match o.op with
  | .alloc _ | .box .. | .buildSlice .. | .makeMap .. | .makeSlice .. | .range .. => [key]
  | .store _ p _=>MI (st.eval p)
  | .call { callee:=.builtin .append,args:=xs,.. }=>match xs.toList with | s :: _=>key :: MI (st.eval s) | _=>[]
  | .call { callee:=.builtin .delete,args:=xs,.. }=>match xs.toList with | s :: _=>MI (st.eval s) | _=>[]
  | .mapUpdate _ m _ _ | .insert _ m _ _ | .mapEntry _ m _ | .entryStore _ m _ _=>MI (st.eval m)
  | .call { callee:=.value _,.. }=>[0]
  | .next it _=>MI (st.eval it)
  | _=>[]

def J9 (P:Program) (tt:Table) (nat:oJ) (lQ:FuncId→List V→Option V) (call:kM) (jz:J6) (all:Array Oper):List Oper→St→Option (List St)
  | [],st=>some [st]
  | o :: r,st=>match fE all st.fr o with
    | some true=>oL (MF P tt nat lQ call jz st.mem.length o st) fun p=>VX (A9 o) o.dst (IN st.mem.length o st) st p.1 p.2 fun s'=>J9 P tt nat lQ call jz all r s'
    | some false=>J9 P tt nat lQ call jz all r (st.put o.dst (.sc undef))
    | none=>none
theorem ph {P:Program} {tt:Table} {nat:oJ} {lQ:FuncId→List V→Option V} (xn:oM P lQ) {call:kM} {jz:J6} (cq:lP P nat) (hc:jE P call) (hy:MG P jz) {all:Array Oper} {Q:St→Prop}:∀ {l:List Oper} {st:St} {outs:List St},J9 P tt nat lQ call jz all l st=some outs→(∀ s∈outs,Q s)→fq P tt all l st Q
  | [],st,outs,h,hQ=>by cases h; exact hQ _ (by simp)
  | o :: r,st,outs,h,hQ=>by
    simp only [J9] at h
    simp only [fq]
    split at h
    · rename_i hw
      rw [hw]
      obtain⟨l,h1,h2⟩:=gW h
      refine Ej xn cq hc hy h1 fun s hs=>?_
      obtain⟨b,h3,h4⟩:=h2 s hs
      rw [Rw] at h3
      exact ph xn cq hc hy h3 fun s' oY=>hQ _ (h4 _ oY)
    · rename_i hw
      rw [hw]
      exact ph xn cq hc hy h hQ
    · cases h

def gw:Nat→List ba→List (Nat×Nat)
  | _,[]=>[]
  | i,.rows v _ _ :: r=>(i,v) :: gw (i+1) r
  | i,.tv v _ _ :: r=>(i,v) :: gw (i+1) r
  | i,_ :: r=>gw (i+1) r
theorem pj:∀ {m:List ba} {n k v e:Nat} {rs:List V},(m[k]?=some (.rows v e rs)∨m[k]?=some (.tv v e rs))→(n+k,v)∈gw n m
  | [],n,k,v,e,rs,h=>by simp at h
  | B :: r,n,0,v,e,rs,h=>by
    simp only [fb,aB] at h
    rcases h with rfl | rfl <;> simp [gw]
  | B :: r,n,k+1,v,e,rs,h=>by
    simp only [mg] at h
    have:=pj (n:=n+1) h
    rw [show n+1+k=n+(k+1) from by omega] at this
    cases B <;> simp only [gw] <;> first | exact this | exact bh _ this
def jZ (mem:List ba) (v:V):V:=match dg mem v with | some v'=>v' | none=>v
def VY (mem:List ba):V→V
  | .agg cs=>.agg (cs.map (jZ mem))
  | .eC vs=>.eC (vs.map fun v=>match v with | .agg cs=>.agg (cs.map (jZ mem)) | v=>jZ mem v)
  | v=>jZ mem v
def vz (mem:List ba):ba→ba
  | .box cs=>.box (cs.map (jZ mem))
  | B=>B
def Em (st:St):Option St :=
  let keys:=gw 0 st.mem
  match fh st.mem (keys.map fun (k:Nat×Nat)=>V.ms k.1 k.2 0 0) with
  | some _=>some { fr:=st.fr.map (VY st.mem),mem:=(ey st.mem keys).map (vz st.mem) }
  | none=>none
theorem IP:∀ (keys:List (Nat×Nat)),(keys.map fun (k:Nat×Nat)=>V.ms k.1 k.2 0 0).flatMap eR=keys
  | []=>rfl
  | k :: r=>by simp [eR,kr,IP r]
theorem Ka {mem:List ba} {B:ba} (h:∀ cs,B ≠ .box cs):vz mem B=B:=by cases B <;> first | rfl | exact absurd rfl (h _)
theorem GZ (mem:List ba) (B:ba):(vz mem B).dw=B.dw:=by cases B <;> rfl
theorem En {E:Env} {w:World} {a:Act} {st st':St} (hs:cU E w a st) (h:Em st=some st'):∃ E',cU E' w a st'∧gE E w E' w:=by
  unfold Em at h;dsimp only at h;split at h;·rename_i vs' hp;cases h;obtain⟨ks,Rx⟩:∃ ks,ks=((gw 0 st.mem).map (fun (k:Nat×Nat)=>V.ms k.1 k.2 0 0)).flatMap eR:=⟨_,rfl⟩;(have ZU:gE E w (E.oX w ks) w∧cU (E.oX w ks) w a { st with mem:=ey st.mem ks }:=by subst Rx;obtain⟨hg,h1,h2⟩:=yf hs hp (F':=(E.oX w (((gw 0 st.mem).map (fun (k:Nat×Nat)=>V.ms k.1 k.2 0 0)).flatMap eR)).F) (fun _ _ h=>h) (fun ad y h=>Env.Iy hs.F h) (fun _ _ h=>.inl h) (Go.RowKit.Below.refl _ w);exact⟨h1,h2⟩);rw [IP] at Rx;subst Rx;obtain⟨gD,sA⟩:=ZU;(have tD:∀ {v:V} {x:Value},cK E v x→cK (E.oX w (gw 0 st.mem)) (jZ st.mem v) x:=fun {v x} hr=>by unfold jZ;split;(·rename_i v' hv;refine (oc hs hr hv fun k hk=>?_).mono (Env.re _);cases v <;> simp only [kr,fO,nG] at hk;subst hk;simp only [dg] at hv;split at hv;(·rename_i hm;split at hv;(·rename_i hc; have:=pj (n:=0) (.inl hm); rw [ct,hc.1] at this; exact this);·cases hv);(·rename_i hm;split at hv;(·rename_i hc; have:=pj (n:=0) (.inr hm); rw [ct,hc.1] at this; exact this);·cases hv);·cases hv);·exact hr.mono (Env.vo E w _));(have Q3:∀ {cs:List V} {xs:List Value},cz E cs xs→cz (E.oX w (gw 0 st.mem)) (cs.map (jZ st.mem)) xs:=fun {cs xs} hr=>by refine⟨by simpa using hr.1,fun i c x hc hx=>?_⟩;simp only [ae,br] at hc;obtain⟨c0,G0,rfl⟩:=hc;exact tD (hr.2 i c0 x G0 hx));(have h1:∀ {v:V} {x:Value},cK E v x→cK (E.oX w (gw 0 st.mem)) (match v with | .agg cs=>.agg (cs.map (jZ st.mem)) | v=>jZ st.mem v) x:=fun {v x} hr=>by split;(·rename_i cs;cases hr with | agg _ cs xs hl hh =>have:=Q3 (cs:=cs) (xs:=xs.toList) ⟨by simpa using hl,fun i c x hc hx=>hh i c x hc (by simpa using hx)⟩;exact .agg _ _ _ (by simpa using this.1) fun i c x hc hx=>this.2 i c x hc (by simpa using hx));·exact tD hr);(have hV:∀ {v:V} {x:Value},cK E v x→cK (E.oX w (gw 0 st.mem)) (VY st.mem v) x:=fun {v x} hr=>by unfold VY;split;(·exact h1 (v:=.agg _) hr);(·rename_i vs;cases hr with | eC _ vs xs hl hh =>refine .eC _ _ _ (by simpa using hl) fun i c x hc hx=>?_;simp only [ae,br] at hc;obtain⟨c0,G0,rfl⟩:=hc;exact h1 (hh i c0 x G0 hx));·exact tD hr);refine⟨_,⟨sA.F,sA.lt,fun k B hk=>?_,fun k hk=>sA.top k (by simpa using hk),fun k B hk v hv=>?_,sA.apart,⟨by simpa using hs.fr.1,fun i v x hv hx=>?_⟩⟩,gD⟩;(·simp only [ae,br] at hk;obtain⟨B0,Iz,rfl⟩:=hk;have h0:=sA.mem k B0 Iz;by_cases ZV:∃ cs,B0 = .box cs;(·obtain⟨cs,rfl⟩:=ZV;(have hold:st.mem[k]?=some (.box cs):=by rw [o6] at Iz;cases QF:st.mem[k]? with | none=>rw [QF] at Iz; simp [nS] at Iz | some B1 =>rw [QF] at Iz;cases B1 <;> simp only [nS] at Iz <;> first | exact Iz | (split at Iz <;> cases Iz));obtain⟨g,T,xs,q1,q2,q3,q4⟩:=h0;obtain⟨g',T',sF,r1,r2,r3,r4⟩:=hs.mem k _ hold;(have:g=g':=by have:=gD.le.cj _ _ _ r1;have e:(E.oX w (gw 0 st.mem)).cj k 0=some (g,0,0):=q1;have e2:(E.oX w (gw 0 st.mem)).cj k 0=some (g',0,0):=this;rw [e] at e2; cases e2; rfl);subst this;rw [r2] at q2; cases q2;exact⟨g,T,xs,q1,r2,Q3 r3,q4⟩);·rw [Ka fun cs e=>ZV ⟨cs,e⟩]; exact h0);(·simp only [ae,br] at hk;obtain⟨B0,Iz,rfl⟩:=hk;rw [GZ] at hv;exact sA.dw k B0 Iz v hv);·simp only [ae,br] at hv;obtain⟨v0,LU,rfl⟩:=hv;exact hV (hs.fr.2 i v0 x LU hx)
  ·cases h
theorem yB {P:Program} {ρ:Option Nat} {n0:Nat} {c:Code} {st st':St} {Q:Exit→St→Prop} (hf:Em st=some st') (h:dN P ρ n0 c st' Q):dN P ρ n0 c st Q:=fun E0 w0 h0 E w a he hs Dt=>by obtain⟨E',h1,h2⟩:=En hs hf;exact h E0 w0 h0 E' w a (he.trans h2) h1 (Dt.LD h2)

abbrev oN:=FuncId→List V→Option V
abbrev wN:=FuncId→List V→Option (Nat×List V)
def Ck (P:Program) (live:wN):Prop:=∀ f vs e rs,live f vs=some (e,rs)→wH P f vs e rs
def G1 (live:wN) (o:Oper) (key:Nat) (st:St):Option St :=
  match o.op with
  | .call { callee:=.value f,args:=xs,.. }=>match cP (st.eval f) (xs.toList.map st.eval) with
    | some (g,vs)=>match fh [] vs with
      | some vs'=>match live g vs' with
        | some (e,rs)=>some (vr st key o.dst e rs)
        | none=>none
      | none=>none
    | none=>none
  | _=>none
theorem Cl {P:Program} {live:wN} (hl:Ck P live) {o:Oper} {key:Nat} {st s:St} {Q:St→Prop} (h:G1 live o key st=some s) (hQ:Q s):sJ P o key st Q:=by
  unfold G1 at h;unfold sJ;split at h;·rename_i heq; rw [heq]; dsimp only;split at h;(·rename_i g vs hg;rw [hg]; dsimp only;split at h;(·rename_i vs' hv;split at h;(·rename_i e rs hr;cases h;exact⟨vs',e,rs,hv,hl _ _ _ _ hr,hQ⟩);·cases h);·cases h);·cases h
  ·cases h
def sM (P:Program) (pure:oN):Prop:=∀ f vs r,pure f vs=some r→bG P f vs r
def Ry (P:Program) (tt:Table) (nat:oJ) (pure:oN) (o:Oper) (AB st:St):Option St :=
  match o.op with
  | .call { callee:=.value f,args:=xs,.. }=>match cP (AB.eval f) (xs.toList.map AB.eval) with
    | some (g,vs)=>match fh [] vs with
      | some vs'=>match pure g vs' with
        | some r=>some (st.put o.dst r)
        | none=>match nat g vs' with
          | some r=>some (st.put o.dst r)
          | none=>none
      | none=>none
    | none=>none
  | _=>match xm P tt o AB with
    | some v=>some (st.put o.dst v)
    | none=>none
theorem yC {P:Program} {tt:Table} {nat:oJ} (cq:lP P nat) {pure:oN} (hp:sM P pure) {o:Oper} {AB st s:St} {Q:St→Prop} (h:Ry P tt nat pure o AB st=some s) (hQ:Q s):rY P tt o AB st Q:=by
  unfold Ry at h;unfold rY;split at h;·rename_i heq; rw [heq]; dsimp only;split at h;(·rename_i g vs hg;rw [hg]; dsimp only;split at h;(·rename_i vs' hv;split at h;(·rename_i r hr;cases h;exact⟨vs',r,hv,.inl (hp _ _ _ hr),hQ⟩);·split at h;(·rename_i r hr;cases h;exact⟨vs',r,hv,.inr (cq _ _ _ hr),hQ⟩);·cases h);·cases h);·cases h
  ·split at h;(·rename_i h1;cases h;split;(·exfalso; solve_by_elim);·rw [h1]; exact hQ);·cases h
def G2 (pure:oN) (o:Oper) (st:St):Option St :=
  match o.op with
  | .call { callee:=.value f,args:=xs,.. }=>match cP (st.eval f) (xs.toList.map st.eval) with
    | some (g,vs)=>match fh st.mem vs with
      | some vs'=>match pure g vs' with
        | some r=>some (St.put { st with mem:=fQ st.mem (vs.flatMap eR) r } o.dst r)
        | none=>none
      | none=>none
    | none=>none
  | _=>none
theorem Cm {P:Program} {pure:oN} (hp:sM P pure) {o:Oper} {st s:St} {Q:St→Prop} (h:G2 pure o st=some s) (hQ:Q s):oF P o st Q:=by
  unfold G2 at h;unfold oF;split at h;·rename_i f xs ts lD;split at h;(·rename_i g vs hg;split at h;(·rename_i vs' hv;split at h;(·rename_i r hr;cases h;rw [lD];dsimp only;rw [hg];exact⟨vs',r,hv,hp _ _ _ hr,hQ⟩);·cases h);·cases h);·cases h
  ·cases h
abbrev Eo:=FuncId→List V→Nat→List ba→Option (V×ba)
def IQ (P:Program) (Ep:Eo):Prop:=∀ f vs k mem v B,Ep f vs k mem=some (v,B)→∃ B0,mem[k]?=some B0∧B0.dw=0∧B.dw=0∧bk P f vs mem v (mem.set k B)
def G3 (Ep:Eo) (o:Oper) (k:Nat) (st:St):Option St :=
  match o.op with
  | .call { callee:=.value f,args:=xs,.. }=>match cP (st.eval f) (xs.toList.map st.eval) with
    | some (g,vs)=>match Ep g vs k st.mem with
      | some (v,B)=>some (St.put { st with mem:=st.mem.set k B } o.dst v)
      | none=>none
    | none=>none
  | _=>none
theorem Cn {P:Program} {tt:Table} {Ep:Eo} (he:IQ P Ep) {o:Oper} {k:Nat} {st s:St} {Q:St→Prop} (h:G3 Ep o k st=some s) (hQ:Q s):tN P tt o k st Q:=by
  unfold G3 at h;unfold tN;split at h;·rename_i f xs ts lD;split at h;(·rename_i g vs hg;split at h;(·rename_i v B hb;cases h;obtain⟨B0,h1,h2,h3,h4⟩:=he _ _ _ _ _ _ hb;rw [lD];dsimp only;rw [hg];exact⟨v,B0,B,h2,h3,h1,h4,hQ⟩);·cases h);·cases h
  ·cases h
def G4 (P:Program) (tt:Table) (nat:oJ) (pure:oN) (live:wN) (Ep:Eo) (all:Array Oper) (base:Nat) (o:Oper) (p:Pl) (st:St):Option St :=
  match fE all st.fr o with
  | some true=>match p.cls with
    | .n=>Ry P tt nat pure o { st with mem:=[] } st
    | .r=>Ry P tt nat pure o { st with mem:=gL (p.mask.map (base + ·)++p.abs) st.mem } st
    | .a=>if isHole st.mem (base+p.key)=true then (match jt tt o (base+p.key) st with
      | some (B,v)=>some (St.put { st with mem:=st.mem.set (base+p.key) B } o.dst v)
      | none=>G1 live o (base+p.key) st) else none
    | .w=>if isHole st.mem (base+p.key)=true then (match tM P tt (base+p.key) o st with
      | some (m,v)=>some (St.put { st with mem:=m } o.dst v)
      | none=>none) else none
    | .s=>match pW tt (base+p.key) o st with
      | some m=>some (St.put { st with mem:=m } o.dst (.sc undef))
      | none=>none
    | .b=>match pQ tt o st with
      | some v=>some (st.put o.dst v)
      | none=>none
    | .z=>G2 pure o st
    | .e=>match pW tt p.key o st with
      | some m=>some (St.put { st with mem:=m } o.dst (.sc undef))
      | none=>G3 Ep o p.key st
  | some false=>some (st.put o.dst (.sc undef))
  | none=>none
theorem Co {P:Program} {tt:Table} {nat:oJ} (cq:lP P nat) {pure:oN} {live:wN} {Ep:Eo} (hp:sM P pure) (hl:Ck P live) (hE:IQ P Ep) {all:Array Oper} {base:Nat} {o:Oper} {p:Pl} {st s:St} {Q:St→Prop} (h:G4 P tt nat pure live Ep all base o p st=some s) (hQ:Q s):gv P tt all base o p st Q:=by
  unfold G4 at h;unfold gv;split at h;·rename_i hw; rw [hw]; dsimp only;split at h;(·rename_i n9; rw [n9]; exact yC cq hp h hQ);(·rename_i n9; rw [n9]; exact yC cq hp h hQ);(·rename_i n9; rw [n9]; dsimp only;split at h;(·rename_i hh;refine⟨hh,?_⟩;split at h;(·rename_i h1; cases h; rw [h1]; exact hQ);·rename_i h1; rw [h1]; exact Cl hl h hQ);·cases h);(·rename_i n9; rw [n9]; dsimp only;split at h;(·rename_i hh;refine⟨hh,?_⟩;split at h;(·rename_i h1; cases h; rw [h1]; exact hQ);·cases h);·cases h);(·rename_i n9; rw [n9]; dsimp only;split at h;(·rename_i h1; cases h; rw [h1]; exact hQ);·cases h);(·rename_i n9; rw [n9]; dsimp only;split at h;(·rename_i h1; cases h; rw [h1]; exact hQ);·cases h);(·rename_i n9; rw [n9]; exact Cm hp h hQ);·rename_i n9; rw [n9]; dsimp only;split at h;(·rename_i m h1;cases h;unfold tN;split;(·rename_i f xs ts lD; unfold pW at h1; rw [lD] at h1; cases h1);·rw [h1]; exact hQ);·exact Cn hE h hQ
  ·rename_i hw; rw [hw]; cases h; exact hQ
  ·cases h
def Er (P:Program) (tt:Table) (nat:oJ) (pure:oN) (live:wN) (Ep:Eo) (all:Array Oper) (base:Nat):List Oper→List Pl→St→Option St
  | [],_,st=>some st
  | o :: r,p :: ps,st=>match G4 P tt nat pure live Ep all base o p st with
    | some s=>Rt (A9 o) o.dst (IN (base+p.key) o st) s fun s'=>Er P tt nat pure live Ep all base r ps s'
    | none=>none
  | _ :: _,[],_=>none
theorem wO {P:Program} {tt:Table} {nat:oJ} (cq:lP P nat) {pure:oN} {live:wN} {Ep:Eo} (hp:sM P pure) (hl:Ck P live) (hE:IQ P Ep) {all:Array Oper} {base:Nat} {Q:St→Prop}:∀ {l:List Oper} {ps:List Pl} {st s:St},Er P tt nat pure live Ep all base l ps st=some s→Q s→runM P tt all base l ps st Q
  | [],_,st,s,h,hQ=>by cases h; exact hQ
  | o :: r,p :: ps,st,s,h,hQ=>by
    simp only [Er] at h
    simp only [runM]
    split at h
    · rename_i s1 h1
      rw [sL] at h
      exact Co cq hp hl hE h1 (wO cq hp hl hE h hQ)
    · cases h
  | _ :: _,[],_,_,h,_=>by simp [Er] at h

mutual
def VZ:V→Nat
  | .ms b _ _ _ | .ptr b _ | .jz b | .mp b | .gC b _ _ _=>b+1
  | .agg cs | .eC cs=>Kb cs
  | .cC _ a b=>max (Kb a) (Kb b)
  | _=>0
def Kb:List V→Nat
  | []=>0
  | c :: r=>max (VZ c) (Kb r)
end
def afN:ba→Nat
  | .box cs=>Kb cs
  | .loop _ _ fr _ _ _=>Kb fr
  | .map dq _=>dq.foldr (fun k n=>max (VZ k.2.2) n) 0
  | .jc m _ _ _=>m+1
  | _=>0
def ZW (l:List ba):Nat:=l.foldr (fun B n=>max (afN B) n) 0
def V0:Nat→Nat→List ba→Nat
  | 0,n,_=>n
  | k+1,n,mem=>let m:=max n (ZW (mem.take n)); if m=n then n else V0 k m mem
def ZX (lo:Nat) (r:V) (mem:List ba):Option (V×List ba) :=
  let n:=V0 8 (max lo (VZ r)) mem
  if lo≤n∧aH n r=true∧(mem.take n).all (aI n)=true then some (r,mem.take n) else none

def xC:Exit→Bool
  | .ret=>true
  | .normal=>true
  | _=>false
def IT:Value→Value→Bool
  | .agg a,.agg b=>nT a.toList b.toList
  | .tuple a,.tuple b=>nT a.toList b.toList
  | .func (.func f) a b,.func (.func g) c d=>f==g&&a.isEmpty&&b.isEmpty&&c.isEmpty&&d.isEmpty
  | a,b=>Cc a b
theorem Es {a b:Value} (h:IT a b=true):a=b:=by
  unfold IT at h;split at h;·rename_i x y; rw [← cL (xs:=x),o9 h,cL]
  ·rename_i x y; rw [← cL (xs:=x),o9 h,cL]
  ·simp only [aN,beq_iff_eq,Array.isEmpty_iff] at h;obtain⟨⟨⟨⟨rfl,rfl⟩,rfl⟩,rfl⟩,rfl⟩:=h;rfl
  ·exact A1 h
mutual
def kN:V→V→Bool
  | .undef,.undef=>true
  | .gn,.gn=>true
  | .sc a,.sc b=>IT a b
  | .agg a,.agg b=>jF a b
  | .eC a,.eC b=>jF a b
  | .slice a,.slice b=>jF a b
  | .full a,.full b=>jF a b
  | .eL a,.eL b=>jF a b
  | .ms a b c d,.ms a' b' c' d'=>a==a'&&b==b'&&c==c'&&d==d'
  | .ptr a b,.ptr a' b'=>a==a'&&b==b'
  | .gC a b c d,.gC a' b' c' d'=>a==a'&&b==b'&&c==c'&&d==d'
  | .mp a,.mp b=>a==b
  | .jz a,.jz b=>a==b
  | .cC (.func f) a b,.cC (.func g) c d=>f==g&&jF a c&&jF b d
  | _,_=>false
def jF:List V→List V→Bool
  | [],[]=>true
  | a :: r,b :: s=>kN a b&&jF r s
  | _,_=>false
end
mutual
theorem tY:∀ {a b:V},kN a b=true→a=b
  | .undef,b,h=>by cases b <;> simp [kN] at h <;> rfl
  | .gn,b,h=>by cases b <;> simp [kN] at h <;> rfl
  | .sc a,b,h=>by
    cases b <;> simp only [kN,b9] at h
    rw [Es h]
  | .agg a,b,h=>by
    cases b <;> simp only [kN,b9] at h
    rw [gp h]
  | .eC a,b,h=>by
    cases b <;> simp only [kN,b9] at h
    rw [gp h]
  | .slice a,b,h=>by
    cases b <;> simp only [kN,b9] at h
    rw [gp h]
  | .full a,b,h=>by
    cases b <;> simp only [kN,b9] at h
    rw [gp h]
  | .eL a,b,h=>by
    cases b <;> simp only [kN,b9] at h
    rw [gp h]
  | .ms _ _ _ _,b,h=>by
    cases b <;> simp only [kN,b9,aN,beq_iff_eq] at h
    obtain⟨⟨⟨rfl,rfl⟩,rfl⟩,rfl⟩:=h; rfl
  | .ptr _ _,b,h=>by
    cases b <;> simp only [kN,b9,aN,beq_iff_eq] at h
    obtain⟨rfl,rfl⟩:=h; rfl
  | .gC _ _ _ _,b,h=>by
    cases b <;> simp only [kN,b9,aN,beq_iff_eq] at h
    obtain⟨⟨⟨rfl,rfl⟩,rfl⟩,rfl⟩:=h; rfl
  | .mp _,b,h=>by
    cases b <;> simp only [kN,b9,beq_iff_eq] at h
    rw [h]
  | .jz _,b,h=>by
    cases b <;> simp only [kN,b9,beq_iff_eq] at h
    rw [h]
  | .cC f a c,b,h=>by
    cases b with
    | cC g a' c' =>
      cases f <;> cases g <;> simp only [kN,b9,aN,beq_iff_eq] at h
      obtain⟨⟨rfl,h1⟩,h2⟩:=h
      rw [gp h1,gp h2]
    | _=>cases f <;> simp [kN] at h
theorem gp:∀ {a b:List V},jF a b=true→a=b
  | [],b,h=>by cases b <;> simp [jF] at h <;> rfl
  | c :: r,b,h=>by
    cases b with
    | nil=>simp [jF] at h
    | cons d s =>
      simp only [jF,aN] at h
      rw [tY h.1,gp h.2]
end
def rv:List (Value×Nat×V)→List (Value×Nat×V)→Bool
  | [],[]=>true
  | a :: r,b :: s=>IT a.1 b.1&&a.2.1==b.2.1&&kN a.2.2 b.2.2&&rv r s
  | _,_=>false
theorem yD:∀ {a b:List (Value×Nat×V)},rv a b=true→a=b
  | [],[],_=>rfl
  | (k,n,v) :: r,(k',n',v') :: s,h=>by
    simp only [rv,aN,beq_iff_eq] at h
    obtain⟨⟨⟨h1,h2⟩,h3⟩,h4⟩:=h
    rw [Es h1,h2,tY h3,yD h4]
  | [],_ :: _,h=>by simp [rv] at h
  | _ :: _,[],h=>by simp [rv] at h
def MJ:ba→ba→Bool
  | .hole,.hole=>true
  | .dead,.dead=>true
  | .nh,.nh=>true
  | .box a,.box b=>jF a b
  | .rows v e a,.rows v' e' b=>v==v'&&e==e'&&jF a b
  | .tv v e a,.tv v' e' b=>v==v'&&e==e'&&jF a b
  | .map a c,.map b d=>c==d&&rv a b
  | .jc a b c d,.jc a' b' c' d'=>a==a'&&b==b'&&c==c'&&d==d'
  | _,_=>false
theorem MK {a b:ba} (h:MJ a b=true):a=b:=by
  unfold MJ at h;split at h;·rfl
  ·rfl
  ·rfl
  ·rw [gp h]
  ·simp only [aN,beq_iff_eq] at h; obtain⟨⟨rfl,rfl⟩,h⟩:=h; rw [gp h]
  ·simp only [aN,beq_iff_eq] at h; obtain⟨⟨rfl,rfl⟩,h⟩:=h; rw [gp h]
  ·simp only [aN,beq_iff_eq] at h; obtain⟨rfl,h⟩:=h; rw [yD h]
  ·simp only [aN,beq_iff_eq] at h; obtain⟨⟨⟨rfl,rfl⟩,rfl⟩,rfl⟩:=h; rfl
  ·cases h
def qB:List ba→List ba→Bool
  | [],[]=>true
  | a :: r,b :: s=>MJ a b&&qB r s
  | _,_=>false
theorem ry:∀ {a b:List ba},qB a b=true→a=b
  | [],[],_=>rfl
  | x :: r,y :: s,h=>by simp only [qB,aN] at h; rw [MK h.1,ry h.2]
  | [],_ :: _,h=>by simp [qB] at h
  | _ :: _,[],h=>by simp [qB] at h
def dedup:List (V×List ba)→List (V×List ba)
  | []=>[]
  | p :: r=>if (dedup r).any (fun q=>kN p.1 q.1&&qB p.2 q.2)=true then dedup r else p :: dedup r
theorem rz:∀ {l:List (V×List ba)} {p:V×List ba},p∈l→p∈dedup l
  | q :: r,p,h=>by
    simp only [dedup]
    split
    · rename_i dC
      rcases cp.1 h with rfl | h
      · obtain⟨q',h1,h2⟩:=am3.1 dC
        simp only [aN] at h2
        have:p=q':=ane (tY h2.1) (ry h2.2)
        rw [this]; exact h1
      · exact rz h
    · rcases cp.1 h with rfl | h
      · exact bJ ..
      · exact bh _ (rz h)
def QL (P:Program) (tt:Table) (code:oK):kM:=fun f vs mem =>
  match P.funcs[f]? with
  | some fn=>match fn.body with
    | some body=>(oL (YJ vs fun vs=>MH mem fun mem=>Rt true none [] (cn fn vs mem) fun s=>code false body s) fun o=>if xC o.1=true then (match ka tt fn.results o.2 with
      | some r=>fV r fun r=>match ZX mem.length r o.2.mem with | some p=>MH p.2 fun m=>some [(p.1,m)] | none=>none
      | none=>none) else none).map dedup
    | none=>none
  | none=>none
def wP (P:Program) (tt:Table) (code:oK):oN:=fun f vs =>
  match P.funcs[f]? with
  | some fn=>match fn.body with
    | some body=>match oL (YJ vs fun vs=>Rt true none [] (cn fn vs []) fun s=>code false body s) fun o=>if xC o.1=true then (match pV tt fn.results o.2 with | some r=>fV r fun r=>some [r] | none=>none) else none with
      | some (r :: rs)=>if rs.all (kN r)=true then some r else none
      | _=>none
    | none=>none
  | none=>none
def G5:List (V×List ba)→Option (Nat×Nat×List V)
  | [(.ms 0 v 0 l,[.rows v' e rs])]=>if v'=v∧l=rs.length then some (v,e,rs) else none
  | [(.ms 0 v 0 0,[.rows v' e []]),(.sc (.slice none 0 0),[])]=>if v'=v then some (v,e,[]) else none
  | [(.sc (.slice none 0 0),[]),(.ms 0 v 0 0,[.rows v' e []])]=>if v'=v then some (v,e,[]) else none
  | _=>none
theorem G6 {outs:List (V×List ba)} {v e:Nat} {rs:List V} (h:G5 outs=some (v,e,rs)):∀ r m,(r,m)∈outs→(r = .ms 0 v 0 rs.length∧m=[.rows v e rs])∨(r = .sc (.slice none 0 0)∧m=[]∧rs=[]):=by
  unfold G5 at h;split at h;·split at h;(·rename_i hc; cases h; obtain⟨rfl,rfl⟩:=hc;intro r m hm; simp at hm; exact .inl hm);·cases h
  ·split at h;(·rename_i hc; cases h; subst hc;intro r m hm; simp at hm;(rcases hm with ⟨rfl,rfl⟩ | ⟨rfl,rfl⟩);(·exact .inl ⟨rfl,rfl⟩);·exact .inr ⟨rfl,rfl,rfl⟩);·cases h
  ·split at h;(·rename_i hc; cases h; subst hc;intro r m hm; simp at hm;(rcases hm with ⟨rfl,rfl⟩ | ⟨rfl,rfl⟩);(·exact .inr ⟨rfl,rfl,rfl⟩);·exact .inl ⟨rfl,rfl⟩);·cases h
  ·cases h
theorem dR.live {P:Program} {f:FuncId} {vs:List V} {R:V→List ba→Prop} {v e:Nat} {rs:List V} (h:dR P f vs [] R) (hR:∀ r m,R r m→(r = .ms 0 v 0 rs.length∧m=[.rows v e rs])∨(r = .sc (.slice none 0 0)∧m=[]∧rs=[])):wH P f vs e rs:=by
  refine⟨v,h.1,fun E w xs hs hx=>(h.2 E w xs hs hx).mono ?_⟩;rintro en w' ⟨E',x,r,m,rfl,hr,gD,oY,mm⟩;rcases hR r m hr with ⟨rfl,rfl⟩ | ⟨rfl,rfl,rfl⟩
  ·exact⟨E',x,rfl,gD,oY,mm⟩
  ·obtain rfl:=fY mm;exact⟨E',_,rfl,gD,by simpa using oY.tW v e,.iz _ _ _ _⟩
def ML (P:Program) (tt:Table) (code:oK):wN:=fun f vs =>
  match QL P tt code f vs [] with
  | some outs=>match G5 outs with | some (_,e,rs)=>some (e,rs) | none=>none
  | none=>none
def MM (lo:Nat) (b:Bool) (m:List ba):Option (List (Bool×List ba)) :=
  let n:=V0 8 lo m
  if lo≤n∧(m.take n).all (aI n)=true then MH (m.take n) fun m=>some [(b,m)] else none
theorem G7 {lo:Nat} {b:Bool} {m:List ba} {x:List (Bool×List ba)} (h:MM lo b m=some x):∃ n,lo≤n∧(m.take n).all (aI n)=true∧(b,m.take n)∈x:=by
  unfold MM at h;dsimp only at h;split at h;·rename_i hc; rw [pf] at h; cases h; exact⟨_,hc.1,hc.2,by simp⟩
  ·cases h
def Rz (code:oK):J6:=fun k vs mem =>
  match mem[k]? with
  | some (.loop .ready none fr params assign body) =>
    if vs.length=params.size then
      oL (YJ vs fun vs=>Rt true none [] { fr:=nV params.toList vs fr,mem:=mem } fun s=>code true assign s) fun o=>match o.1,o.2.mem[k]? with
        | .normal,some (.loop .ready none TG p1 Rg Rh) =>
          oL (Rt true none [] { o.2 with mem:=o.2.mem.set k (.loop .busy none TG p1 Rg Rh) } fun s=>code true body s) fun u=>match qv u.1,u.2.mem[k]? with
            | some jump,some (.loop _ _ Ri p2 Ml Mm) =>
              MM mem.length jump.isNone (u.2.mem.set k (.loop (if jump.isNone then .ready else .done) jump Ri p2 Ml Mm))
            | _,_=>none
        | _,_=>none
    else none
  | _=>none
def RA:LoopState→Bool
  | .busy=>false
  | _=>true

def vA {α:Type} (f:α→Option (List (Exit×St))):List α→Option (List (Exit×St))
  | []=>none
  | a :: r=>match f a with | some x=>some x | none=>vA f r
theorem wQ {α:Type} {f:α→Option (List (Exit×St))}:∀ {l:List α} {x:List (Exit×St)},vA f l=some x→∃ a∈l,f a=some x
  | [],x,h=>by cases h
  | a :: r,x,h=>by
    simp only [vA] at h
    split at h
    · rename_i hx; cases h; exact⟨a,bJ ..,hx⟩
    · obtain⟨b,h1,h2⟩:=wQ h; exact⟨b,bh _ h1,h2⟩
def V1 (lQ:FuncId→List V→Option V) (pure:oN):oN:=fun f vs=>match lQ f vs with | some r=>some r | none=>pure f vs
theorem RB {P:Program} {lQ:FuncId→List V→Option V} {pure:oN} (h:oM P lQ) (hp:sM P pure):sM P (V1 lQ pure):=fun f vs r hr=>by
  unfold V1 at hr;split at hr;·rename_i r' h1; cases hr; exact h _ _ _ h1
  ·exact hp _ _ _ hr
theorem bk.yE {P:Program} {f:FuncId} {vs:List V} {mem m m2:List ba} {v v':V} (h:bk P f vs mem v m)
    (step:∀ (E:Env) (w:World) (x:Value),cU E w { tmps := #[],defers:=[] } { fr:=[],mem:=m }→cK E v x→∃ E2,cU E2 w { tmps := #[],defers:=[] } { fr:=[],mem:=m2 }∧gE E w E2 w∧cK E2 v' x)
    (hv:aH mem.length v'=true) (hm:(m2.take mem.length).all (aI mem.length)=true):bk P f vs mem v' (m2.take mem.length):=by
  refine⟨h.1,fun E w xs hs hx=>(h.2 E w xs hs hx).mono ?_⟩;rintro e w' ⟨E',x,rfl,gD,oY,mm⟩;obtain⟨E2,s2,V2,MD⟩:=step E' w' x oY mm;have he:=gD.trans V2;have hc:=s2.cut (n:=mem.length) rfl hm;refine⟨E2.cut mem.length,x,rfl,⟨⟨he.le.F,fun k v t hk=>?_⟩,fun k v g e c hk=>?_,he.F,he.os,he.tape,he.output,he.size,he.heap⟩,hc,iU MD hv⟩;·(have:k<mem.length:=by (rcases bW k mem.length with bX | jw);(·exact bX);·rw [hs.top k jw v] at hk; cases hk);exact (if_pos this).trans (he.le.cj _ _ _ hk)
  ·(have:E2.cj k v=some (g,e,c):=by by_cases la:k<mem.length;(·exact ((if_pos la).symm.trans hk:E2.cj k v=_));·have h2:(E2.cut mem.length).cj k v=none:=if_neg la;rw [h2] at hk; cases hk);exact he.cj _ _ _ _ _ this
theorem bk.V3 {P:Program} {f:FuncId} {vs:List V} {mem m:List ba} {v v':V} (h:bk P f vs mem v m) (hp:gu m v=some v') (hv:aH mem.length v'=true) (hm:((ey m (eR v)).take mem.length).all (aI mem.length)=true) :
    bk P f vs mem v' ((ey m (eR v)).take mem.length):=h.yE (fun E w x hs mm=>by
  obtain⟨E2,s2,V2,r2⟩:=hs.freeze (vs:=[v]) (vs':=[v']) (by simp [fh,hp])
  have hr:[v].flatMap eR=eR v:=by simp
  rw [hr] at s2
  obtain⟨y,ys,hy,MD,-⟩:=(r2 [x] (.cons mm (.nil _))).of_cons
  cases hy
  exact⟨E2,s2,V2,MD⟩) hv hm
def V4 (n:Nat) (v:V) (m:List ba):Option (V×List ba) :=
  if m.length=n then some (v,m) else match v with
    | .ptr k 0=>match m[k]? with
      | some (.box cs)=>if n≤k∧cs.all iA=true∧((m.set k .dead).take n).all (aI n)=true then some (.eL cs,(m.set k .dead).take n) else none
      | _=>none
    | _=>match gu m v with
      | some v'=>if aH n v'=true∧((ey m (eR v)).take n).all (aI n)=true then some (v',(ey m (eR v)).take n) else none
      | none=>none
theorem RC {P:Program} {f:FuncId} {vs:List V} {mem m0 m:List ba} {v0 v:V} (h:bk P f vs mem v0 m0) (Gf:V4 mem.length v0 m0=some (v,m)):bk P f vs mem v m:=by
  unfold V4 at Gf;split at Gf;·cases Gf; exact h
  ·split at Gf;(·rename_i k;split at Gf;(·rename_i cs hk;split at Gf;(·rename_i AS;cases Gf;refine h.yE (fun E w x hs mm=>?_) (by simp [aH]) AS.2.2;exact hs.VV mm hk AS.2.1);·cases Gf);·cases Gf);·split at Gf;(·rename_i w hw;split at Gf;(·rename_i AS;cases Gf;exact h.V3 hw AS.1 AS.2);·cases Gf);·cases Gf
def V5 (call:kM):Eo:=fun f vs k mem =>
  match mem[k]? with
  | some B0=>match call f vs mem with
    | some [(v0,m0)]=>match V4 mem.length v0 m0 with
      | some (v,m)=>match m[k]? with
        | some B=>if B0.dw=0∧B.dw=0∧qB m (mem.set k B)=true then some (v,B) else none
        | none=>none
      | none=>none
    | _=>none
  | none=>none
theorem RD {P:Program} {call:kM} (hc:jE P call):IQ P (V5 call):=by
  intro f vs k mem v B h;unfold V5 at h;split at h;·rename_i B0 h0;split at h;(·rename_i v0 m0 hf;split at h;(·rename_i v' m Gf;split at h;(·rename_i B' hB;split at h;(·rename_i qi;cases h;obtain⟨h1,h2,h3⟩:=qi;have e:=ry h3;have h4:=hc f vs mem _ hf;have h5:bk P f vs mem v0 m0:=⟨h4.1,fun E w xs hs hx=>(h4.2 E w xs hs hx).mono fun e w' ⟨E',x,r',m',p1,p2,p4⟩=>by simp only [fO,dQ] at p2;obtain⟨rfl,rfl⟩:=p2;exact⟨E',x,p1,p4⟩⟩;refine⟨B0,h0,h1,h2,?_⟩;rw [← e];exact RC h5 Gf);·cases h);·cases h);·cases h);·cases h
  ·cases h
def MN (ops:List Oper) (st:St) (x:Operand):Option Nat :=
  match (match x with
    | .tmp t=>(match ops.find? (fun o:Oper=>o.dst==some t) with
      | some o=>(match o.op with | .fieldAddr _ y _=>some (st.eval y) | .move y=>some (st.eval y) | _=>none)
      | none=>none)
    | _=>none) with
  | some (.ptr k _)=>some k
  | _=>match st.eval x with
    | .ptr k _=>some k
    | _=>none
def Et (ops:List Oper) (st:St):List Oper→List Pl→List (Nat×Nat)
  | o :: r,p :: ps=>if p.cls = .e∧900≤p.key then (match o.op with | .store _ x _=>(match MN ops st x with | some k=>(p.key,k) :: Et ops st r ps | none=>Et ops st r ps) | _=>Et ops st r ps) else Et ops st r ps
  | _,_=>[]
def RE (mem:List ba) (w:Nat):Nat:=match mem[w]? with
  | some (.box cs)=>match (cs[8]?:Option V) with
    | some (.cC _ _ _)=>w
    | _=>match (cs[6]?:Option V) with
      | some (.cC _ _ [.ptr okk _,.ptr tk _])=>match (mem[tk]?:Option ba) with
        | some (.box [.cC _ _ [.ptr ik _]])=>match (mem[ik]?:Option ba) with
          | some (.box [.mp m])=>m
          | _=>okk
        | _=>okk
      | _=>w
  | _=>w
def Cp (ops:List Oper) (st:St):List Oper→List (Nat×Nat)
  | o :: r=>match o.op with
    | .call { callee:=.value _,args:=xs,.. }=>match xs.toList with
      | x :: _=>match MN ops st x with
        | some w=>[(99,RE st.mem w)]
        | none=>Cp ops st r
      | []=>Cp ops st r
    | _=>Cp ops st r
  | []=>[]
def ZY (l:List (Nat×Nat)) (a:Nat):Nat:=match l.find? (fun p:Nat×Nat=>p.1==a) with
  | some p=>p.2
  | none=>a
def MO (ops:Array Oper) (st:St) (pl:List Pl):List Pl:=match Cp ops.toList st ops.toList++Et ops.toList st ops.toList pl with
  | []=>pl
  | l=>pl.map fun p => { p with key:=if p.cls = .e then ZY l p.key else p.key,abs:=p.abs.map (ZY l) }
def ZZ (qa call:kM):kM:=fun f vs mem=>match qa f vs mem with
  | some r=>some r
  | none=>call f vs mem
theorem G8 {P:Program} {qa call:kM} (ho:jE P qa) (hc:jE P call):jE P (ZZ qa call):=fun f vs mem outs h=>by
  unfold ZZ at h;split at h;·rename_i hr; cases h; exact ho _ _ _ _ hr
  ·exact hc _ _ _ _ h
def noM:kM:=fun _ _ _=>none
theorem V6 {P:Program}:jE P noM:=fun _ _ _ _ h=>by cases h
def RF (P:Program) (tt:Table) (nat:oJ) (lQ:FuncId→List V→Option V) (qa:kM) (code:oK) (ops:Array Oper) (st:St) (p:List Pl×Nat):Option (List (Exit×St)) :=
  if tT ops (MO ops st p.1)=true then (match Er P tt nat (V1 lQ (wP P tt code)) (ML P tt code) (V5 (ZZ qa (QL P tt code))) ops st.mem.length ops.toList (MO ops st p.1) { st with mem:=st.mem++List.replicate p.2 .hole } with
    | some s=>some [(.normal,s)]
    | none=>none) else none
def oi (P:Program) (tt:Table) (pl:Eh) (nat:oJ) (lQ:FuncId→List V→Option V) (qa:kM) (code:oK):oK:=fun ρ c st =>
  match c with
  | .skip=>some [(.normal,st)]
  | .ret=>some [(.ret,st)]
  | .exit id=>some [(.exit id,st)]
  | .seq a b=>oL (code ρ a st) fun o=>match o.1 with
    | .normal=>code ρ b o.2
    | e=>some [(e,o.2)]
  | .cond x a b=>match st.eval x with
    | .sc (.bool t)=>code ρ (if t=true then a else b) st
    | _=>none
  | .block id c=>oL (code ρ c st) fun o=>match o.1 with
    | .exit j=>if j=id then some [(.normal,o.2)] else some [(.exit j,o.2)]
    | e=>some [(e,o.2)]
  | .loop c=>oL (code ρ c st) fun o=>match o.1 with
    | .normal=>code ρ (.loop c) o.2
    | e=>some [(e,o.2)]
  | .region _ ops false=>match J9 P tt nat lQ (ZZ qa (QL P tt code)) (Rz code) ops ops.toList st with
    | some l=>some (l.map fun s=>(.normal,s))
    | none=>match Em st with
      | some st'=>oL (J9 P tt nat lQ (ZZ qa (QL P tt code)) (Rz code) ops ops.toList st') fun s=>some [(.normal,s)]
      | none=>none
  | .region id ops true=>match vA (RF P tt nat lQ qa code ops st) (pl id ops) with
    | some x=>some x
    | none=>match Em st with
      | some st'=>vA (RF P tt nat lQ qa code ops st') (pl id ops)
      | none=>none
  | .rangeFunc f params assign body=>if ρ=true then none else
    match cP (st.eval f) [.jz st.mem.length] with
    | some (g,vs)=>oL (QL P tt code g vs (st.mem++[.loop .ready none st.fr params assign body])) fun o=>match o.2[st.mem.length]? with
      | some (.loop s mX _ _ _ _)=>if RA s=true then (match mX with
        | none=>Rt true none [] { st with mem:=o.2.set st.mem.length .dead } fun s=>some [(.normal,s)]
        | some c=>Rt true none [] { st with mem:=o.2.set st.mem.length .dead } fun s=>code false c s) else none
      | _=>none
    | none=>none
  | _=>none

def ev (P:Program) (tt:Table) (pl:Eh) (nat:oJ) (lQ:FuncId→List V→Option V) (qa:kM) (n:Nat):oK:=Nat.rec (fun _ _ _=>none) (fun _ r=>oi P tt pl nat lQ qa r) n

def yF (P:Program) (code:oK):Prop:=∀ b c st outs,code b c st=some outs→∀ (ρ:Option Nat) (n0:Nat) (Q:Exit→St→Prop),(b=true∨ρ=none)→(∀ o∈outs,Q o.1 o.2)→dN P ρ n0 c st Q

section
variable {P:Program} {tt:Table} {pl:Eh} {nat:oJ} {lQ:FuncId→List V→Option V} {qa:kM} (ht:TT P tt) (hm:P.follows .mixedOrders=true)
  (fR:∀ (f:FuncId) (fn:Func) (body:Code),P.funcs[f]?=some fn→fn.body=some body→∀ (xs:Array Value) (w:World),(callFunc f xs).run P w = .ok (.enter f xs) w)
include ht fR
theorem vB {code:oK} (TQ:yF P code):jE P (QL P tt code):=by
  intro f vs mem outs h;unfold QL at h;split at h;·rename_i fn hf;split at h;(·rename_i body hb;rw [br] at h;obtain⟨aje,h,Ms⟩:=h;obtain⟨l,h1,h2⟩:=gW h;rw [Cj,pf,sL] at h1;refine Mk ht hf hb (fR f fn body hf hb) (TQ _ _ _ _ h1 none _ _ (.inr rfl) fun o ho=>?_);obtain⟨b,h3,h4⟩:=h2 o ho;split at h3;(·rename_i he;split at h3;(·rename_i r hr;rw [Ek] at h3;split at h3;(·rename_i p hp;rw [pf] at h3;cases h3;unfold ZX at hp;dsimp only at hp;split at hp;(·rename_i qi;cases hp;refine⟨?_,r,_,qi.1,hr,qi.2.1,qi.2.2,by rw [← Ms]; exact rz (h4 _ (by simp))⟩;cases YA:o.1 <;> simp [xC,YA] at he <;> simp);·cases hp);·cases h3);·cases h3);·cases h3);·cases h
  ·cases h
theorem Eu {code:oK} (TQ:yF P code):sM P (wP P tt code):=by
  intro f vs r h;unfold wP at h;split at h;·rename_i fn hf;split at h;(·rename_i body hb;split at h;(·rename_i r1 rs LX;split at h;(·rename_i er;cases h;obtain⟨l,h1,h2⟩:=gW LX;rw [Cj,sL] at h1;refine je ht hf hb (fR f fn body hf hb) (TQ _ _ _ _ h1 none _ _ (.inr rfl) fun o ho=>?_);obtain⟨b,h3,h4⟩:=h2 o ho;split at h3;(·rename_i he;split at h3;(·rename_i r2 hr;rw [Ek] at h3;cases h3;(have Dq:r2=r:=by (rcases cp.1 (h4 r2 (by simp)) with h | h);(·exact h);·exact (tY (aY.1 er _ h)).symm);subst Dq;refine⟨?_,hr⟩;cases YA:o.1 <;> simp [xC,YA] at he <;> simp);·cases h3);·cases h3);·cases h);·cases h);·cases h
  ·cases h
theorem MQ {code:oK} (TQ:yF P code):Ck P (ML P tt code):=by
  intro f vs e rs h;unfold ML at h;split at h;·rename_i outs ho;split at h;(·rename_i v e' mo hl;cases h;exact (vB ht fR TQ f vs [] outs ho).live fun r m hr=>G6 hl r m hr);·cases h
  ·cases h
omit ht fR in
theorem IU {code:oK} (TQ:yF P code):MG P (Rz code):=by
  intro k vs mem outs h;unfold Rz at h;split at h;·rename_i fr params assign body hk;split at h;(·rename_i hlen;obtain⟨l1,h1,h2⟩:=gW h;rw [Cj,sL] at h1;refine tK hk hlen fun l=>TQ _ _ _ _ h1 (some l) _ _ (.inl rfl) fun o ho=>?_;obtain⟨b,h3,h4⟩:=h2 o ho;split at h3;(·rename_i TG p1 Rg Rh he ji;refine⟨he,TG,p1,Rg,Rh,ji,?_⟩;obtain⟨l2,h5,h6⟩:=gW h3;rw [sL] at h5;refine TQ _ _ _ _ h5 (some l) _ _ (.inl rfl) fun u hu=>?_;obtain⟨b2,h7,h8⟩:=h6 u hu;split at h7;(·rename_i jump s2 pe2 Ri p2 Ml Mm hj l9;obtain⟨n,hn,QB,n8⟩:=G7 h7;exact⟨n,jump,s2,pe2,Ri,p2,Ml,Mm,hn,hj,l9,QB,h4 _ (h8 _ n8)⟩);·cases h7);·cases h3);·cases h
  ·cases h

include hm in
theorem TR (xn:oM P lQ) (Kc:jE P qa) (cq:lP P nat):∀ (n:Nat),yF P (ev P tt pl nat lQ qa n)∧∀ b c st outs,ev P tt pl nat lQ qa n b (.loop c) st=some outs→∀ (ρ:Option Nat) (n0:Nat) (Q:Exit→St→Prop),(b=true∨ρ=none)→(∀ o∈outs,Q o.1 o.2)→k9 P ρ n0 c n st Q:=by
  intro n
  induction n with
  | zero=>exact⟨fun b c st outs h=>by simp [ev] at h,fun b c st outs h=>by simp [ev] at h⟩
  | succ n ih =>
    obtain⟨IV,ihl⟩:=ih
    have kL:∀ b c st,ev P tt pl nat lQ qa (n+1) b c st=oi P tt pl nat lQ qa (ev P tt pl nat lQ qa n) b c st:=fun _ _ _=>rfl
    have loop:∀ b c st outs,ev P tt pl nat lQ qa (n+1) b (.loop c) st=some outs→∀ (ρ:Option Nat) (n0:Nat) (Q:Exit→St→Prop),(b=true∨ρ=none)→(∀ o∈outs,Q o.1 o.2)→k9 P ρ n0 c (n+1) st Q:=by
      intro b c st outs h ρ n0 Q hb hQ
      rw [kL] at h
      simp only [oi] at h
      obtain⟨l,h1,h2⟩:=gW h
      refine IV _ _ _ _ h1 ρ n0 _ hb fun o ho=>?_
      obtain⟨e,s⟩:=o
      obtain⟨b',h3,h4⟩:=h2 _ ho
      cases e with
      | normal=>exact ihl _ _ _ _ h3 ρ n0 Q hb fun o' Tq=>hQ _ (h4 _ Tq)
      | _=>cases h3; exact hQ (_,_) (h4 _ (by simp))
    refine⟨fun b c st outs h ρ n0 Q hb hQ=>?_,loop⟩
    cases c with
    | skip=>rw [kL] at h; cases h; exact bZ (hQ (_,_) (by simp))
    | ret=>rw [kL] at h; cases h; exact bK (hQ (_,_) (by simp))
    | exit id=>rw [kL] at h; cases h; exact dZ (hQ (_,_) (by simp))
    | seq x y =>
      rw [kL] at h
      simp only [oi] at h
      obtain⟨l,h1,h2⟩:=gW h
      refine bj (IV _ _ _ _ h1 ρ n0 _ hb fun o ho=>?_)
      obtain⟨e,s⟩:=o
      obtain⟨b',h3,h4⟩:=h2 _ ho
      cases e with
      | normal=>exact IV _ _ _ _ h3 ρ n0 Q hb fun o' Tq=>hQ _ (h4 _ Tq)
      | _=>cases h3; exact hQ (_,_) (h4 _ (by simp))
    | cond x y z =>
      rw [kL] at h
      simp only [oi] at h
      split at h
      · rename_i t hx
        exact aU hx (IV _ _ _ _ h ρ n0 Q hb hQ)
      · cases h
    | block id c =>
      rw [kL] at h
      simp only [oi] at h
      obtain⟨l,h1,h2⟩:=gW h
      refine bP (IV _ _ _ _ h1 ρ n0 _ hb fun o ho=>?_)
      obtain⟨e,s⟩:=o
      obtain⟨b',h3,h4⟩:=h2 _ ho
      cases e with
      | exit j =>
        dsimp only at h3
        simp only [jC]
        split at h3
        · rename_i hj; cases h3; rw [if_pos hj]; exact hQ (_,_) (h4 _ (by simp))
        · rename_i hj; cases h3; rw [if_neg hj]; exact hQ (_,_) (h4 _ (by simp))
      | _=>cases h3; exact hQ (_,_) (h4 _ (by simp))
    | loop c=>exact qt (n+1) (loop _ _ _ _ h ρ n0 Q hb hQ)
    | region id ops d =>
      rw [kL] at h
      cases d with
      | false =>
        simp only [oi] at h
        split at h
        · rename_i l h1
          cases h
          exact lL ht (ph xn cq (G8 Kc (vB ht fR IV)) (IU IV) h1 fun s hs=>hQ (_,_) (cu.2 ⟨s,hs,rfl⟩))
        · split at h
          · rename_i st' L8
            obtain⟨l,h1,h2⟩:=gW h
            refine yB L8 (lL ht (ph xn cq (G8 Kc (vB ht fR IV)) (IU IV) h1 fun s hs=>?_))
            obtain⟨b',h3,h4⟩:=h2 _ hs
            cases h3
            exact hQ (_,_) (h4 _ (by simp))
          · cases h
      | true =>
        simp only [oi] at h
        have one:∀ (st:St) (outs:List (Exit×St)),(∀ o∈outs,Q o.1 o.2)→vA (RF P tt nat lQ qa (ev P tt pl nat lQ qa n) ops st) (pl id ops)=some outs→dN P ρ n0 (.region id ops true) st Q:=fun st outs hQ h=>by
          obtain⟨p,-,hp⟩:=wQ h
          unfold RF at hp
          split at hp
          · rename_i gh
            split at hp
            · rename_i s hs
              cases hp
              exact oI ht hm (MO ops st p.1) p.2 gh (wO cq (RB xn (Eu ht fR IV)) (MQ ht fR IV) (RD (G8 Kc (vB ht fR IV))) hs (hQ (_,_) (by simp)))
            · cases hp
          · cases hp
        split at h
        · rename_i x hx; cases h; exact one st _ hQ hx
        · split at h
          · rename_i st' L8
            exact yB L8 (one st' _ hQ h)
          · cases h
    | rangeFunc f params assign body =>
      rw [kL] at h
      simp only [oi] at h
      split at h
      · cases h
      · rename_i hbf
        have hρ : ρ = none := by rcases hb with h | h
                                 · exact absurd h hbf
                                 · exact h
        subst hρ
        split at h
        · rename_i g vs hg
          obtain⟨l,h1,h2⟩:=gW h
          refine qx hg (vB ht fR IV _ _ _ _ h1) fun r xl hr=>?_
          obtain⟨b',h3,h4⟩:=h2 _ hr
          dsimp only at h3
          split at h3
          · rename_i s mX YG QI QJ QK hm2
            split at h3
            · rename_i u9
              refine⟨s,mX,YG,QI,QJ,QK,hm2,(fun e=>by subst e; cases u9),?_⟩
              split at h3
              · rw [sL] at h3; cases h3; exact hQ (_,_) (h4 _ (by simp))
              · rename_i c
                rw [sL] at h3
                exact IV _ _ _ _ h3 none n0 Q (.inr rfl) fun o' Tq=>hQ _ (h4 _ Tq)
            · cases h3
          · cases h3
        · cases h
    | _=>rw [kL] at h; simp [oi] at h

include hm in
theorem TS (xn:oM P lQ) (Kc:jE P qa) (cq:lP P nat) (n:Nat) {f:FuncId} {vs:List V} {r:V} (h:wP P tt (ev P tt pl nat lQ qa n) f vs=some r):bG P f vs r:=Eu ht fR (TR ht hm fR xn Kc cq n).1 f vs r h
include hm in
theorem V7 (xn:oM P lQ) (Kc:jE P qa) (cq:lP P nat) (n:Nat) {f:FuncId} {vs:List V} {mem:List ba} {outs:List (V×List ba)} (h:QL P tt (ev P tt pl nat lQ qa n) f vs mem=some outs):dR P f vs mem fun r m=>(r,m)∈outs:=vB ht fR (TR ht hm fR xn Kc cq n).1 f vs mem outs h
end
def afO (P:Program):Bool:=P.funcs.all fun fn=>fn.name != "runtime.NumGoroutine"
theorem MR {P:Program} (h:afO P=true) (f:FuncId) (fn:Func) (body:Code) (hf:P.funcs[f]?=some fn) (hb:fn.body=some body) (xs:Array Value) (w:World):(callFunc f xs).run P w = .ok (.enter f xs) w:=by
  have bX:f<P.funcs.size:=(dp.1 hf).1;have hn:=(Array.all_eq_true.1 h) f bX;have hfe:P.funcs[f]=fn:=(dp.1 hf).2;rw [hfe] at hn;have dK:(fn.name == "runtime.NumGoroutine")=false:=by simpa using hn
  simp only [callFunc,program,Sem.run_bind];show (match P.funcs[f]? with | none=>_ | some fn=>_:Sem Next).run P w=_;rw [hf];dsimp only;rw [dK,hb];rfl
def V8 (l:List (Nat×Nat×Nat×List Pl)):Eh:=fun id ops =>
  (l.filter fun e=>e.1==id&&e.2.1==ops.size).map fun e=>(e.2.2.2,e.2.2.1)
def G9:List V→Option V
  | [.sc (.string a),.sc (.string b)]=>if 2≤b.size∧JO b.size=true∧a.size<4294967281 then
      (match (List.range (a.size+1-b.size)).find? fun i=>a.extract i (i+b.size)==b with
        | some i=>some (.sc (.int .i64 i))
        | none=>some (.sc (.int .i64 (-1)))) else none
  | _=>none
theorem Kd {P:Program} {f:FuncId} {fn:Func} {g:Nat} (hf:P.funcs[f]?=some fn) (hn:(fn.name == "runtime.NumGoroutine")=false) (hb:fn.body=none) (MS:Extern.findNext fn=none) (DB:Extern.find fn=some Extern.BytealgIndex.index)
    (hg:∀ w,(globalAddr "internal/bytealg.MaxLen").run P w = .ok ⟨g,0,none⟩ w) (hG:a6.g=some g) {vs:List V} {r:V} (h:G9 vs=some r):qo P f vs r:=fun E w xs hF hx=>by
  unfold G9 at h
  split at h
  · rename_i a b
    split at h
    · rename_i hc
      obtain⟨h2,hm,ha⟩:=hc
      rw [BJ] at hm
      have hm:(b.size:Int)≤a6.n:=by simpa using hm
      obtain⟨x,r1,hy,Dn,hx⟩:=hx.of_cons
      obtain⟨y,r2,hz,Dq,hx⟩:=hx.of_cons
      have:=hx.of_nil
      subst this; subst hz
      obtain rfl:=fY Dn
      obtain rfl:=fY Dq
      obtain rfl:xs = #[.string a,.string b]:=by rw [← cL (xs:=xs),hy]
      have tD:w.cell? ⟨g,0,none⟩=some (.int .i64 a6.n):=hF _ _ (E.gl.n g hG)
      have afP:Extern.BytealgIndex.maxLen.run P w = .ok a6.n w:=by
        simp [Extern.BytealgIndex.maxLen,hg,load,Sem.run,tD,asInt,asIntOf]
      have fZ:(Extern.BytealgIndex.index #[.string a,.string b]).run P w = .ok (match (List.range (a.size+1-b.size)).find? fun i=>a.extract i (i+b.size)==b with | some i=>goInt i | none=>goInt (-1)) w:=by
        show (do
          let a ← Extern.Bytes.bytesOf (.string a)
          let b ← Extern.Bytes.bytesOf (.string b)
          if b.size<2||(b.size:Int)>(← Extern.BytealgIndex.maxLen) then
            unsupported (.noEntry "extern/internal/bytealg.Index.length")
          if a.size≥2 ^ 32-15 then
            unsupported (.noEntry "extern/internal/bytealg.Index: a haystack of 2^32 - 15 bytes or more")
          match (List.range (a.size+1-b.size)).find? fun i=>a.extract i (i+b.size)==b with
          | some i=>pure (goInt i)
          | none=>pure (goInt (-1)):Sem Value).run P w=_
        have e1:(decide (b.size<2))=false:=by simp; omega
        have e2:decide ((b.size:Int)>a6.n)=false:=by simp; omega
        have e3:¬ a.size≥2 ^ 32-15:=by omega
        simp only [Extern.Bytes.bytesOf,Sem.run_bind,Sem.run_pure,Result.andThen_ok,afP,e1,e2,bu,b9,if_false,e3]
        split <;> rfl
      refine⟨(match (List.range (a.size+1-b.size)).find? fun i=>a.extract i (i+b.size)==b with | some i=>goInt i | none=>goInt (-1)),?_,?_⟩
      · simp only [callFunc,program,Sem.run_bind]
        show (match P.funcs[f]? with | none=>_ | some fn=>_:Sem Next).run P w=_
        rw [hf]
        dsimp only
        rw [hn,hb]
        simp only [b9,if_false,Yy,if_true,MS,DB,Sem.run_bind,mark,Sem.run,Result.andThen_ok]
        rw [fZ]; rfl
      · split at h
        · cases h; exact .sc _ _
        · cases h; exact .sc _ _
    · cases h
  · cases h
end Go.Eng
end
