import Derived.Test.YtnboooapeopjoaaGreatDoorE3
open Array renaming getElem?_eq_some_iff→dN,toArray_toList→di
open Bool renaming and_eq_true→aL,false_eq_true→cf,or_self→bJ
open List renaming all_eq_true→a7,any_eq_true→agH,ext_getElem?→dy,getD_eq_getElem?_getD→eZ,getElem?_cons_succ→dx,getElem?_cons_zero→dk,getElem?_eq_getElem→ak,getElem?_eq_none→dQ,getElem?_map→ae,getElem?_set→bK,mem_append_left→hX,mem_append_right→gC,mem_cons→cb,mem_cons_of_mem→bP,mem_cons_self→b9,mem_map→dv,mem_singleton→eJ,not_mem_nil→tv
open Nat renaming lt_or_ge→bL,zero_add→bE
open Option renaming isNone_none→aaT,map_eq_some_iff→bA
open Option.some renaming injEq→aF
open Prod renaming ext→apJ
open Prod.mk renaming injEq→eA
set_option linter.all false
section
namespace Go.Eng
variable [bg]

abbrev F7:=Nat→Array Oper→List (List Pl×Nat)
abbrev lG:=FuncId→List V→List bm→Option (List (V×List bm))
abbrev pR:=FuncId→List V→Option V
def mL (P:Program) (nat:pR):Prop:=∀ f vs r,nat f vs=some r→rC P f vs r
abbrev Mp:=Nat→List V→List bm→Option (List (Bool×List bm))
abbrev pS:=Bool→Code→St→Option (List (Exit×St))

def pT {α β:Type} (x:Option (List α)) (f:α→Option (List β)):Option (List β) :=
  match x with
  | none=>none
  | some l=>l.foldr (fun a acc=>match f a,acc with | some b,some c=>some (b++c) | _,_=>none) (some [])
theorem CL {α β:Type} {f:α→Option (List β)}:∀ {l:List α} {out:List β},pT (some l) f=some out→∀ a∈l,∃ b,f a=some b∧∀ x∈b,x∈out
  | [],_,_,a,ha=>by simp at ha
  | c :: r,out,h,a,ha=>by
    simp only [pT,List.foldr_cons] at h
    split at h
    · rename_i b t hb hc
      cases h
      rcases cb.1 ha with rfl | ha
      · exact⟨b,hb,fun x hx=>hX _ hx⟩
      · obtain⟨b',h1,h2⟩:=CL (l:=r) (out:=t) hc a ha
        exact⟨b',h1,fun x hx=>gC _ (h2 x hx)⟩
    · cases h
theorem iR {α β:Type} {x:Option (List α)} {f:α→Option (List β)} {out:List β} (h:pT x f=some out):∃ l,x=some l∧∀ a∈l,∃ b,f a=some b∧∀ y∈b,y∈out:=by cases x with | none=>cases h | some l=>exact⟨l,rfl,CL h⟩

def OW (st:St) (it:V) (str:Bool):Option (List (V×List bm)) :=
  match it with
  | .ptr b 0=>match st.mem[b]? with
    | some (.jO m since seen last)=>match st.mem[m]? with
      | some (.map dO clock)=>if str=false∧DO dO seen last=false then
          some ((if (zN dO seen since).isEmpty then [(zO,st.mem)] else []) ++
            (zN dO seen since++On dO seen since).map fun e=>(Oo e,st.mem.set b (.jO m since (seen++[e.2.1]) clock)))
        else none
      | _=>none
    | some (.nP s pos)=>if str=true then (if pos<s.size then some [(V7 s pos,st.mem.set b (.nP s (pos+(Utf8.decode s pos).2)))] else some [(zO,st.mem)]) else none
    | some .oa=>if str=false then some [(zO,st.mem)] else none
    | _=>none
  | _=>none
theorem gS {α:Type} {Q:α→Prop} {a:α} (h:∀ p∈[a],Q p):Q a:=h a (eJ.2 rfl)
theorem F8 {st:St} {dst:Option Tmp} {it:V} {str:Bool} {outs:List (V×List bm)} {Q:St→Prop} (h:OW st it str=some outs) (hQ:∀ p∈outs,Q (St.put { st with mem:=p.2 } dst p.1)):u0 st dst it str Q:=by
  unfold OW at h;unfold u0;split at h;·split at h;(·rename_i h1;simp only [h1];split at h;(·rename_i h2;simp only [h2];split at h;(·rename_i h3;cases h;refine⟨h3.1,h3.2,fun he=>?_,fun e he=>?_⟩;(·have:=hQ (zO,st.mem) (by rw [he]; exact hX _ (eJ.2 rfl)); exact this);·have:=hQ _ (gC _ (dv.2 ⟨e,he,rfl⟩)); exact this);·cases h);·cases h);(·rename_i h1;simp only [h1];split at h;(·rename_i h3;refine⟨h3,?_⟩;split at h;(·rename_i h4; cases h; rw [if_pos h4]; exact (by have h9:=gS hQ; exact h9));·rename_i h4; cases h; rw [if_neg h4]; exact (by have h9:=gS hQ; exact h9));·cases h);(·rename_i h1;simp only [h1];split at h;(·rename_i h3;cases h;exact⟨h3,(by have h9:=gS hQ; exact h9)⟩);·cases h);·cases h
  ·cases h

def ace (mM:FuncId→List V→Option V) (g:FuncId) (vs:List V) (st:St):Option (V×List bm) :=
  match gx st.mem vs with
  | some vs'=>match mM g vs' with
    | some r=>some (r,bT st.mem (vs.flatMap fb) r)
    | none=>none
  | none=>none
def pU (P:Program) (mM:FuncId→List V→Option V):Prop:=∀ f vs r,mM f vs=some r→bR P f vs r
def OX (P:Program) (tt:Table) (nat:pR) (mM:FuncId→List V→Option V) (call:lG) (ke:Mp) (key:Nat) (o:Oper) (st:St):Option (List (V×List bm)) :=
  match o.op with
  | .alloc T=>match tt T with
    | some i=>some [((.ptr key 0),dB st.mem key (.box (i.zero.map V.sc)))]
    | none=>none
  | .box _ x=>match lW (st.eval x) with
    | some cs=>some [((.ptr key 0),dB st.mem key (.box cs))]
    | none=>none
  | .build T parts=>match nC P tt T parts.toList st.eval with
    | some v=>some [(v,st.mem)]
    | none=>none
  | .buildSlice T len parts=>match wV tt T len parts.toList st.eval with
    | some (size,rs)=>some [((.ms key 0 0 len),dB st.mem key (.rows 0 size rs))]
    | none=>match Tw tt T len parts.toList st with
      | some (size,rs)=>some [((.ms key 0 0 len),dB (ck st.mem (DR st.eval parts.toList)) key (.rows 0 size rs))]
      | none=>none
  | .store T p x=>match nB tt st.mem T (st.eval p) (st.eval x) with
    | some bV=>some [((.sc undef),bV)]
    | none=>match DS tt st.mem T (st.eval p) (st.eval x) with
      | some bV=>some [((.sc undef),bV)]
      | none=>none
  | .call { callee:=.builtin .append,args:=xs,argTypes:=ts }=>match xs.toList.map st.eval with
    | [s,x]=>match ji tt st.mem ts.toList s x with
      | some (size,tW,rows)=>some [((gE st.mem key size rows tW).2,(gE st.mem key size rows tW).1)]
      | none=>none
    | _=>none
  | .call { callee:=.value f,args:=xs,.. }=>match st.eval f with
    | .ke k=>match ke k (xs.toList.map st.eval) st.mem with
      | some outs=>some (outs.map fun p=>((.sc (.bool p.1)),p.2))
      | none=>none
    | fv=>match dn fv (xs.toList.map st.eval) with
      | some (g,vs)=>match ace mM g vs st with
        | some (r,bV)=>some [(r,bV)]
        | none=>match call g vs st.mem with
          | some outs=>some (outs.map fun p=>(p.1,p.2))
          | none=>match nat g vs with
            | some r=>some [(r,st.mem)]
            | none=>none
      | none=>none
  | .makeSlice T l c=>match xT tt T (st.eval l) (st.eval c) with
    | some (size,rs,_)=>some [((.ms key 0 0 rs.length),dB st.mem key (.rows 0 size rs))]
    | none=>none
  | .makeMap _ none=>some [((.mp key),dB st.mem key (.map [] 0))]
  | .mapUpdate T m k x=>match dR P st.mem T (st.eval m) (st.eval k) (st.eval x) with
    | some bV=>some [((.sc undef),bV)]
    | none=>none
  | .insert T m k x=>match dR P st.mem T (st.eval m) (st.eval k) (st.eval x) with
    | some bV=>some [((.sc undef),bV)]
    | none=>none
  | .mapEntry T m k=>match wW P st.mem T (st.eval m) (st.eval k) with
    | some (bV,v)=>some [(v,bV)]
    | none=>none
  | .entryStore _ m s x=>match wX st.mem (st.eval m) (st.eval s) (st.eval x) with
    | some bV=>some [((.sc undef),bV)]
    | none=>none
  | .call { callee:=.builtin .delete,args:=xs,argTypes:=ts }=>match sC P st.mem ts (xs.toList.map st.eval) with
    | some bV=>some [((.sc (.tuple #[])),bV)]
    | none=>none
  | .range T x=>match pK P st.mem T (st.eval x) with
    | some B=>some [((.ptr key 0),dB st.mem key B)]
    | none=>none
  | .next it str=>OW st (st.eval it) str
  | .binOp op T x y _=>match pd tt op T (st.eval x) (st.eval y) with
    | some n=>if n=0 then some [((.sc (.bool (ql op false))),st.mem),((.sc (.bool (ql op true))),st.mem)] else some [((.sc (.bool (ql op false))),st.mem)]
    | none=>match me P tt st o with
      | some v=>some [(v,st.mem)]
      | none=>none
  | _=>match me P tt st o with
    | some v=>some [(v,st.mem)]
    | none=>none

def ki (P:Program) (call:lG):Prop:=∀ f vs mem outs,call f vs mem=some outs→eB P f vs mem fun r m=>(r,m)∈outs
def OY (P:Program) (ke:Mp):Prop:=∀ k vs mem outs,ke k vs mem=some outs→Mc P k vs mem fun b m=>(b,m)∈outs

theorem F9 {P:Program} {tt:Table} {nat:pR} {mM:FuncId→List V→Option V} {call:lG} {ke:Mp} (yI:pU P mM) (cO:mL P nat) (hc:ki P call) (hy:OY P ke) {key:Nat} {o:Oper} {st:St} {outs:List (V×List bm)} {Q:St→Prop} (h:OX P tt nat mM call ke key o st=some outs) (hQ:∀ p∈outs,Q (St.put { st with mem:=p.2 } o.dst p.1)) :
    de P tt key o st Q:=by
  unfold OX at h;unfold de;split at h;·rename_i heq; rw [heq]; dsimp only;split at h;(·rename_i h1; cases h; rw [h1]; exact (by have h9:=gS hQ; exact h9));·cases h
  ·rename_i heq; rw [heq]; dsimp only;split at h;(·rename_i h1; cases h; rw [h1]; exact (by have h9:=gS hQ; exact h9));·cases h
  ·rename_i heq; rw [heq]; dsimp only;split at h;(·rename_i h1; cases h; rw [h1]; exact (by have h9:=gS hQ; exact h9));·cases h
  ·rename_i heq; rw [heq]; dsimp only;split at h;(·rename_i h1; cases h; rw [h1]; exact (by have h9:=gS hQ; exact h9));·rename_i h0;rw [h0]; dsimp only;split at h;(·rename_i h1; cases h; rw [h1]; exact (by have h9:=gS hQ; exact h9));·cases h
  ·rename_i heq; rw [heq]; dsimp only;split at h;(·rename_i h1; cases h; rw [h1]; exact (by have h9:=gS hQ; exact h9));·rename_i h0;rw [h0]; dsimp only;split at h;(·rename_i h1; cases h; rw [h1]; exact (by have h9:=gS hQ; exact h9));·cases h
  ·rename_i heq; rw [heq]; dsimp only;split at h;(·rename_i h0;rw [h0]; dsimp only;split at h;(·rename_i h1; cases h; rw [h1]; exact (by have h9:=gS hQ; exact h9));·cases h);·cases h
  ·rename_i heq; rw [heq]; dsimp only;split at h;(·rename_i k hk;rw [hk]; dsimp only;split at h;(·rename_i os ho;cases h;exact .inr ⟨_,hy _ _ _ _ ho,fun b m hm=>(by have:=hQ _ (dv.2 ⟨_,hm,rfl⟩); exact this)⟩);·cases h);·rename_i fv hfv;split at h;(·rename_i g vs hg;split at h;(·rename_i r bV Mq;cases h;unfold ace at Mq;split at Mq;(·rename_i vs' hvs;split at Mq;(·rename_i r1 It;cases Mq;split;(·rename_i k hk; exact absurd hk (hfv k));·rw [hg]; exact .inl ⟨vs',_,hvs,yI _ _ _ It,(by have h9:=gS hQ; exact h9)⟩);·cases Mq);·cases Mq);·split at h;(·rename_i os ho;cases h;split;(·rename_i k hk; exact absurd hk (hfv k));·rw [hg]; exact .inr (.inr (.inl ⟨_,hc _ _ _ _ ho,fun b m hm=>(by have:=hQ _ (dv.2 ⟨_,hm,rfl⟩); exact this)⟩)));·split at h;(·rename_i r hr;cases h;split;(·rename_i k hk; exact absurd hk (hfv k));·rw [hg]; exact .inr (.inr (.inr ⟨r,cO _ _ _ hr,(by have h9:=gS hQ; exact h9)⟩)));·cases h);·cases h
  ·rename_i heq; rw [heq]; dsimp only;split at h;(·rename_i h1; cases h; rw [h1]; exact (by have h9:=gS hQ; exact h9));·cases h
  ·rename_i heq; rw [heq]; dsimp only; cases h; exact (by have h9:=gS hQ; exact h9)
  ·rename_i heq; rw [heq]; dsimp only;split at h;(·rename_i h1; cases h; rw [h1]; exact (by have h9:=gS hQ; exact h9));·cases h
  ·rename_i heq; rw [heq]; dsimp only;split at h;(·rename_i h1; cases h; rw [h1]; exact (by have h9:=gS hQ; exact h9));·cases h
  ·rename_i heq; rw [heq]; dsimp only;split at h;(·rename_i h1; cases h; rw [h1]; exact (by have h9:=gS hQ; exact h9));·cases h
  ·rename_i heq; rw [heq]; dsimp only;split at h;(·rename_i h1; cases h; rw [h1]; exact (by have h9:=gS hQ; exact h9));·cases h
  ·rename_i heq; rw [heq]; dsimp only;split at h;(·rename_i h1; cases h; rw [h1]; exact (by have h9:=gS hQ; exact h9));·cases h
  ·rename_i heq; rw [heq]; dsimp only;split at h;(·rename_i h1; cases h; rw [h1]; exact (by have h9:=gS hQ; exact h9));·cases h
  ·rename_i heq; rw [heq]; dsimp only;exact F8 h hQ
  ·rename_i heq; rw [heq]; dsimp only;split at h;(·rename_i n hn;rw [hn]; dsimp only;intro b hb;split at h;(·cases h; cases b;(·have:=hQ _ (b9 ..); exact this);·have:=hQ _ (bP _ (eJ.2 rfl)); exact this);·rename_i h0; cases h; rw [hb h0]; exact (by have h9:=gS hQ; exact h9));·rename_i hn;rw [hn]; dsimp only;split at h;(·rename_i h1; cases h; rw [h1]; exact (by have h9:=gS hQ; exact h9));·cases h
  ·split at h;(·rename_i h1;cases h;split <;> first | (rw [h1]; exact (by have h9:=gS hQ; exact h9)) | (exfalso; solve_by_elim));·cases h

def OZ {α β:Type}:List α→(List α→β)→β
  | [],k=>k []
  | c :: r,k=>OZ r fun r'=>k (c :: r')
theorem qt {α β:Type}:∀ (l:List α) (k:List α→β),OZ l k=k l
  | [],_=>rfl
  | c :: r,k=>by rw [OZ,qt r]
def nE {β:Type} (n:Nat) (k:Nat→β):β:=Nat.casesOn n (k 0) fun m=>k (Nat.succ m)
theorem jJ {β:Type} (n:Nat) (k:Nat→β):nE n k=k n:=by cases n <;> rfl
def Yj {β:Type} (n:Int) (k:Int→β):β:=match n with | .ofNat m=>nE m fun m'=>k (.ofNat m') | .negSucc m=>nE m fun m'=>k (.negSucc m')
theorem TV {β:Type} (n:Int) (k:Int→β):Yj n k=k n:=by cases n <;> simp only [Yj,jJ]
def IV {β:Type} (s:ByteArray) (k:ByteArray→β):β:=OZ s.data.toList fun l=>k ⟨⟨l⟩⟩
theorem Mr {β:Type} (s:ByteArray) (k:ByteArray→β):IV s k=k s:=by rw [IV,qt]
def TW {β:Type} (v:Value) (k:Value→β):β :=
  match v with
  | .bool true=>k (.bool true)
  | .bool false=>k (.bool false)
  | .int t n=>Yj n fun n'=>k (.int t n')
  | .string s=>IV s fun s'=>k (.string s')
  | v=>k v
theorem KP {β:Type} (v:Value) (k:Value→β):TW v k=k v:=by
  unfold TW;split;·rfl
  ·rfl
  ·rw [TV]
  ·rw [Mr]
  ·rfl
def fW {β:Type} (v:V) (k:V→β):β :=
  match v with
  | .undef=>k .undef
  | .sc v=>k (.sc v)
  | .agg cs=>k (.agg cs)
  | .slice r=>k (.slice r)
  | .ms a b c d=>k (.ms a b c d)
  | .ptr a b=>k (.ptr a b)
  | .iy a b c d=>k (.iy a b c d)
  | .fa cs=>k (.fa cs)
  | .cX f a b=>k (.cX f a b)
  | .eV l=>k (.eV l)
  | .ke a=>k (.ke a)
  | .mp a=>k (.mp a)
  | .gn=>k .gn
  | .full r=>k (.full r)
theorem Wk {β:Type} (v:V) (k:V→β):fW v k=k v:=by cases v <;> rfl
def fWs {β:Type}:List V→(List V→β)→β
  | [],k=>k []
  | c :: r,k=>fW c fun c'=>fWs r fun r'=>k (c' :: r')
theorem D2 {β:Type}:∀ (l:List V) (k:List V→β),fWs l k=k l
  | [],_=>rfl
  | c :: r,k=>by rw [fWs,Wk,D2 r]
mutual
def fV {β:Type}:V→(V→β)→β
  | .undef,k=>k .undef
  | .gn,k=>k .gn
  | .sc v,k=>TW v fun v'=>k (.sc v')
  | .agg cs,k=>KQ cs fun tC=>k (.agg tC)
  | .eV cs,k=>KQ cs fun tC=>k (.eV tC)
  | .slice cs,k=>KQ cs fun tC=>k (.slice tC)
  | .full cs,k=>KQ cs fun tC=>k (.full tC)
  | .fa cs,k=>KQ cs fun tC=>k (.fa tC)
  | .cX f a b,k=>KQ a fun a'=>KQ b fun b'=>k (.cX f a' b')
  | .ms a b c d,k=>nE a fun a'=>nE b fun b'=>nE c fun c'=>nE d fun d'=>k (.ms a' b' c' d')
  | .ptr a b,k=>nE a fun a'=>nE b fun b'=>k (.ptr a' b')
  | .iy a b c d,k=>nE a fun a'=>nE b fun b'=>nE c fun c'=>nE d fun d'=>k (.iy a' b' c' d')
  | .ke a,k=>nE a fun a'=>k (.ke a')
  | .mp a,k=>nE a fun a'=>k (.mp a')
def KQ {β:Type}:List V→(List V→β)→β
  | [],k=>k []
  | c :: r,k=>fV c fun c'=>KQ r fun r'=>k (c' :: r')
end
mutual
theorem Ga {β:Type}:∀ (v:V) (k:V→β),fV v k=k v
  | .undef,_=>by rw [fV]
  | .gn,_=>by rw [fV]
  | .sc v,k=>by rw [fV,KP]
  | .agg cs,k=>by rw [fV,qu cs]
  | .eV cs,k=>by rw [fV,qu cs]
  | .slice cs,k=>by rw [fV,qu cs]
  | .full cs,k=>by rw [fV,qu cs]
  | .fa cs,k=>by rw [fV,qu cs]
  | .cX f a b,k=>by rw [fV,qu a,qu b]
  | .ms a b c d,k=>by rw [fV,jJ,jJ,jJ,jJ]
  | .ptr a b,k=>by rw [fV,jJ,jJ]
  | .iy a b c d,k=>by rw [fV,jJ,jJ,jJ,jJ]
  | .ke a,k=>by rw [fV,jJ]
  | .mp a,k=>by rw [fV,jJ]
theorem qu {β:Type}:∀ (l:List V) (k:List V→β),KQ l k=k l
  | [],_=>by rw [KQ]
  | c :: r,k=>by rw [KQ,Ga c,qu r]
end
def TX {β:Type}:List (Value×Nat×V)→(List (Value×Nat×V)→β)→β
  | [],k=>k []
  | (a,n,v) :: r,k=>TW a fun a'=>nE n fun n'=>fV v fun v'=>TX r fun r'=>k ((a',n',v') :: r')
theorem KR {β:Type}:∀ (l:List (Value×Nat×V)) (k:List (Value×Nat×V)→β),TX l k=k l
  | [],_=>rfl
  | (a,n,v) :: r,k=>by rw [TX,KP,jJ,Ga,KR r]
def fB {β:Type} (B:bm) (k:bm→β):β :=
  match B with
  | .hole=>k .hole
  | .dead=>k .dead
  | .oa=>k .oa
  | .box cs=>KQ cs fun tC=>k (.box tC)
  | .rows v e rs=>nE v fun v'=>nE e fun e'=>KQ rs fun nj=>k (.rows v' e' nj)
  | .uR v e rs=>nE v fun v'=>nE e fun e'=>KQ rs fun nj=>k (.uR v' e' nj)
  | .loop s p fr ps a b=>k (.loop s p fr ps a b)
  | .map dO c=>TX dO fun kvs'=>nE c fun c'=>k (.map kvs' c')
  | .jO a b c d=>nE a fun a'=>nE b fun b'=>OZ c fun c'=>nE d fun d'=>k (.jO a' b' c' d')
  | .nP s p=>nE p fun p'=>k (.nP s p')
theorem acf {β:Type} (B:bm) (k:bm→β):fB B k=k B:=by cases B <;> simp only [fB,qu,jJ,KR,qt]
def IW {β:Type}:List Nat→List bm→(List bm→β)→β
  | [],m,k=>OZ m k
  | i :: r,m,k=>match m[i]? with
    | some B=>fB B fun B'=>IW r (m.set i B') k
    | none=>IW r m k
theorem vh {β:Type}:∀ (ks:List Nat) (m:List bm) (k:List bm→β),IW ks m k=k m
  | [],m,k=>qt m k
  | i :: r,m,k=>by
    simp only [IW]
    split
    · rename_i B hB
      rw [acf,vh r]
      congr 1
      apply dy
      intro j
      rw [bK]
      split
      · rename_i Ic; subst Ic
        split
        · exact hB.symm
        · rename_i ca; rw [dQ (by omega)]
      · rfl
    · exact vh r m k
def CM (o:Oper):Bool :=
  match o.op with
  | .move _ | .assign _ | .pick .. | .load .. | .extract .. | .nilCheck _ | .field .. => true
  | _=>false
def fD {β:Type} (b:Bool) (v:V) (k:V→β):β:=match b with | true=>fW v k | false=>fV v k
theorem Wl {β:Type} (b:Bool) (v:V) (k:V→β):fD b v k=k v:=by cases b <;> simp only [fD,Wk,Ga]
def TY {β:Type} (b:Bool) (d:Option Tmp) (ks:List Nat) (s:St) (k:St→β):β :=
  match d with
  | some d=>fD b (s.fr.getD d .undef) fun v=>OZ (if d<s.fr.length then s.fr.set d v else s.fr) fun fr=>IW ks s.mem fun mem=>k { fr:=fr,mem:=mem }
  | none=>OZ s.fr fun fr=>IW ks s.mem fun mem=>k { fr:=fr,mem:=mem }
theorem uf {β:Type} (b:Bool) (d:Option Tmp) (ks:List Nat) (s:St) (k:St→β):TY b d ks s k=k s:=by
  unfold TY;split;·rename_i d;rw [Wl,qt,vh];congr 1;split;(·rename_i hd;obtain⟨fr,mem⟩:=s;dsimp only at hd ⊢;congr 1;apply dy;intro j;rw [bK];split;(·rename_i Ic; subst Ic;rw [eZ,ak hd]; rfl);·rfl);·rfl
  ·rw [qt,vh]
def TZ {β:Type}:List V→Nat→V→(List V→β)→β
  | [],_,_,k=>k []
  | _ :: r,0,v,k=>k (v :: r)
  | c :: r,d+1,v,k=>TZ r d v fun r'=>k (c :: r')
theorem KS {β:Type}:∀ (l:List V) (d:Nat) (v:V) (k:List V→β),TZ l d v k=k (l.set d v)
  | [],_,_,_=>rfl
  | _ :: _,0,_,_=>rfl
  | c :: r,d+1,v,k=>by rw [TZ,KS r]; rfl
def KU {β:Type} (ks:List Nat) (m:List bm) (k:List bm→β):β:=match ks with | []=>k m | _ :: _=>IW ks m k
theorem Gb {β:Type} (ks:List Nat) (m:List bm) (k:List bm→β):KU ks m k=k m:=by
  unfold KU;split;·rfl
  ·rw [vh]
def Yk {β:Type} (b:Bool) (d:Option Tmp) (ks:List Nat) (st:St) (v:V) (m:List bm) (k:St→β):β :=
  match d with
  | some d=>fD b v fun v=>TZ st.fr d v fun fr=>KU ks m fun mem=>k { fr:=fr,mem:=mem }
  | none=>KU ks m fun mem=>k { fr:=st.fr,mem:=mem }
theorem T0 {β:Type} (b:Bool) (d:Option Tmp) (ks:List Nat) (st:St) (v:V) (m:List bm) (k:St→β):Yk b d ks st v m k=k (St.put { st with mem:=m } d v):=by
  unfold Yk;split;·rw [Wl,KS,Gb]; rfl
  ·rw [Gb]; rfl
def O0:V→List Nat
  | .ptr b _=>[b]
  | .iy b _ _ _=>[b]
  | .ms b _ _ _=>[b]
  | .mp b=>[b]
  | _=>[]
def KV (key:Nat) (o:Oper) (st:St):List Nat :=
  match o.op with
  | .alloc _ | .box .. | .buildSlice .. | .makeMap .. | .makeSlice .. | .range .. => [key]
  | .store _ p _=>O0 (st.eval p)
  | .call { callee:=.builtin .append,args:=xs,.. }=>match xs.toList with | s :: _=>key :: O0 (st.eval s) | _=>[]
  | .call { callee:=.builtin .delete,args:=xs,.. }=>match xs.toList with | s :: _=>O0 (st.eval s) | _=>[]
  | .mapUpdate _ m _ _ | .insert _ m _ _ | .mapEntry _ m _ | .entryStore _ m _ _=>O0 (st.eval m)
  | .call { callee:=.value _,.. }=>[0]
  | .next it _=>O0 (st.eval it)
  | _=>[]

def Ms (P:Program) (tt:Table) (nat:pR) (mM:FuncId→List V→Option V) (call:lG) (ke:Mp) (all:Array Oper):List Oper→St→Option (List St)
  | [],st=>some [st]
  | o :: r,st=>match gr all st.fr o with
    | some true=>pT (OX P tt nat mM call ke st.mem.length o st) fun p=>Yk (CM o) o.dst (KV st.mem.length o st) st p.1 p.2 fun s'=>Ms P tt nat mM call ke all r s'
    | some false=>Ms P tt nat mM call ke all r (st.put o.dst (.sc undef))
    | none=>none
theorem qv {P:Program} {tt:Table} {nat:pR} {mM:FuncId→List V→Option V} (yI:pU P mM) {call:lG} {ke:Mp} (cO:mL P nat) (hc:ki P call) (hy:OY P ke) {all:Array Oper} {Q:St→Prop}:∀ {l:List Oper} {st:St} {outs:List St},Ms P tt nat mM call ke all l st=some outs→(∀ s∈outs,Q s)→gb P tt all l st Q
  | [],st,outs,h,hQ=>by cases h; exact hQ _ (by simp)
  | o :: r,st,outs,h,hQ=>by
    simp only [Ms] at h
    simp only [gb]
    split at h
    · rename_i hw
      rw [hw]
      obtain⟨l,h1,h2⟩:=iR h
      refine F9 yI cO hc hy h1 fun s hs=>?_
      obtain⟨b,h3,h4⟩:=h2 s hs
      rw [T0] at h3
      exact qv yI cO hc hy h3 fun s' pC=>hQ _ (h4 _ pC)
    · rename_i hw
      rw [hw]
      exact qv yI cO hc hy h hQ
    · cases h

def im:Nat→List bm→List (Nat×Nat)
  | _,[]=>[]
  | i,.rows v _ _ :: r=>(i,v) :: im (i+1) r
  | i,.uR v _ _ :: r=>(i,v) :: im (i+1) r
  | i,_ :: r=>im (i+1) r
theorem qw:∀ {m:List bm} {n k v e:Nat} {rs:List V},(m[k]?=some (.rows v e rs)∨m[k]?=some (.uR v e rs))→(n+k,v)∈im n m
  | [],n,k,v,e,rs,h=>by simp at h
  | B :: r,n,0,v,e,rs,h=>by
    simp only [dk,aF] at h
    rcases h with rfl | rfl <;> simp [im]
  | B :: r,n,k+1,v,e,rs,h=>by
    simp only [dx] at h
    have:=qw (n:=n+1) h
    rw [show n+1+k=n+(k+1) from by omega] at this
    cases B <;> simp only [im] <;> first | exact this | exact bP _ this
def kI (mem:List bm) (v:V):V:=match dC mem v with | some v'=>v' | none=>v
def Yl (mem:List bm):V→V
  | .agg cs=>.agg (cs.map (kI mem))
  | .eV vs=>.eV (vs.map fun v=>match v with | .agg cs=>.agg (cs.map (kI mem)) | v=>kI mem v)
  | v=>kI mem v
def ue (mem:List bm):bm→bm
  | .box cs=>.box (cs.map (kI mem))
  | B=>B
def Gc (st:St):Option St :=
  let keys:=im 0 st.mem
  match gx st.mem (keys.map fun (k:Nat×Nat)=>V.ms k.1 k.2 0 0) with
  | some _=>some { fr:=st.fr.map (Yl st.mem),mem:=(ck st.mem keys).map (ue st.mem) }
  | none=>none
theorem KW:∀ (keys:List (Nat×Nat)),(keys.map fun (k:Nat×Nat)=>V.ms k.1 k.2 0 0).flatMap fb=keys
  | []=>rfl
  | k :: r=>by simp [fb,jj,KW r]
theorem Mt {mem:List bm} {B:bm} (h:∀ cs,B ≠ .box cs):ue mem B=B:=by cases B <;> first | rfl | exact absurd rfl (h _)
theorem IX (mem:List bm) (B:bm):(ue mem B).dV=B.dV:=by cases B <;> rfl
theorem Gd {E:Env} {w:World} {a:Act} {st st':St} (hs:dr E w a st) (h:Gc st=some st'):∃ E',dr E' w a st'∧iC E w E' w:=by
  unfold Gc at h;dsimp only at h;split at h;·rename_i vs' hp;cases h;obtain⟨ks,T1⟩:∃ ks,ks=((im 0 st.mem).map (fun (k:Nat×Nat)=>V.ms k.1 k.2 0 0)).flatMap fb:=⟨_,rfl⟩;(have acg:iC E w (E.qb w ks) w∧dr (E.qb w ks) w a { st with mem:=ck st.mem ks }:=by subst T1;obtain⟨hg,h1,h2⟩:=zU hs hp (F':=(E.qb w (((im 0 st.mem).map (fun (k:Nat×Nat)=>V.ms k.1 k.2 0 0)).flatMap fb)).F) (fun _ _ h=>h) (fun ad y h=>Env.KF hs.F h) (fun _ _ h=>.inl h) (Go.RowKit.Below.refl _ w);exact⟨h1,h2⟩);rw [KW] at T1;subst T1;obtain⟨iz,tS⟩:=acg;(have uY:∀ {v:V} {x:Value},dh E v x→dh (E.qb w (im 0 st.mem)) (kI st.mem v) x:=fun {v x} hr=>by unfold kI;split;(·rename_i v' hv;refine (pc hs hr hv fun k hk=>?_).mono (Env.sx _);cases v <;> simp only [jj,eJ,tv] at hk;subst hk;simp only [dC] at hv;split at hv;(·rename_i hm;split at hv;(·rename_i hc; have:=qw (n:=0) (.inl hm); rw [bE,hc.1] at this; exact this);·cases hv);(·rename_i hm;split at hv;(·rename_i hc; have:=qw (n:=0) (.inr hm); rw [bE,hc.1] at this; exact this);·cases hv);·cases hv);·exact hr.mono (Env.wY E w _));(have Tt:∀ {cs:List V} {xs:List Value},cY E cs xs→cY (E.qb w (im 0 st.mem)) (cs.map (kI st.mem)) xs:=fun {cs xs} hr=>by refine⟨by simpa using hr.1,fun i c x hc hx=>?_⟩;simp only [ae,bA] at hc;obtain⟨c0,IY,rfl⟩:=hc;exact uY (hr.2 i c0 x IY hx));(have h1:∀ {v:V} {x:Value},dh E v x→dh (E.qb w (im 0 st.mem)) (match v with | .agg cs=>.agg (cs.map (kI st.mem)) | v=>kI st.mem v) x:=fun {v x} hr=>by split;(·rename_i cs;cases hr with | agg _ cs xs hl hh =>have:=Tt (cs:=cs) (xs:=xs.toList) ⟨by simpa using hl,fun i c x hc hx=>hh i c x hc (by simpa using hx)⟩;exact .agg _ _ _ (by simpa using this.1) fun i c x hc hx=>this.2 i c x hc (by simpa using hx));·exact uY hr);(have hV:∀ {v:V} {x:Value},dh E v x→dh (E.qb w (im 0 st.mem)) (Yl st.mem v) x:=fun {v x} hr=>by unfold Yl;split;(·exact h1 (v:=.agg _) hr);(·rename_i vs;cases hr with | eV _ vs xs hl hh =>refine .eV _ _ _ (by simpa using hl) fun i c x hc hx=>?_;simp only [ae,bA] at hc;obtain⟨c0,IY,rfl⟩:=hc;exact h1 (hh i c0 x IY hx));·exact uY hr);refine⟨_,⟨tS.F,tS.lt,fun k B hk=>?_,fun k hk=>tS.top k (by simpa using hk),fun k B hk v hv=>?_,tS.apart,⟨by simpa using hs.fr.1,fun i v x hv hx=>?_⟩⟩,iz⟩;(·simp only [ae,bA] at hk;obtain⟨B0,KG,rfl⟩:=hk;have h0:=tS.mem k B0 KG;by_cases ach:∃ cs,B0 = .box cs;(·obtain⟨cs,rfl⟩:=ach;(have hold:st.mem[k]?=some (.box cs):=by rw [qk] at KG;cases SY:st.mem[k]? with | none=>rw [SY] at KG; simp [oV] at KG | some B1 =>rw [SY] at KG;cases B1 <;> simp only [oV] at KG <;> first | exact KG | (split at KG <;> cases KG));obtain⟨g,T,xs,q1,q2,q3,q4⟩:=h0;obtain⟨g',T',tY,r1,r2,r3,r4⟩:=hs.mem k _ hold;(have:g=g':=by have:=iz.le.cI _ _ _ r1;have e:(E.qb w (im 0 st.mem)).cI k 0=some (g,0,0):=q1;have e2:(E.qb w (im 0 st.mem)).cI k 0=some (g',0,0):=this;rw [e] at e2; cases e2; rfl);subst this;rw [r2] at q2; cases q2;exact⟨g,T,xs,q1,r2,Tt r3,q4⟩);·rw [Mt fun cs e=>ach ⟨cs,e⟩]; exact h0);(·simp only [ae,bA] at hk;obtain⟨B0,KG,rfl⟩:=hk;rw [IX] at hv;exact tS.dV k B0 KG v hv);·simp only [ae,bA] at hv;obtain⟨v0,Oe,rfl⟩:=hv;exact hV (hs.fr.2 i v0 x Oe hx)
  ·cases h
theorem Ah {P:Program} {ρ:Option Nat} {n0:Nat} {c:Code} {st st':St} {Q:Exit→St→Prop} (hf:Gc st=some st') (h:eg P ρ n0 c st' Q):eg P ρ n0 c st Q:=fun E0 w0 h0 E w a he hs CC=>by obtain⟨E',h1,h2⟩:=Gd hs hf;exact h E0 w0 h0 E' w a (he.trans h2) h1 (CC.Mf h2)

abbrev pV:=FuncId→List V→Option V
abbrev yb:=FuncId→List V→Option (Nat×List V)
def D3 (P:Program) (live:yb):Prop:=∀ f vs e rs,live f vs=some (e,rs)→x5 P f vs e rs
def IZ (live:yb) (o:Oper) (key:Nat) (st:St):Option St :=
  match o.op with
  | .call { callee:=.value f,args:=xs,.. }=>match dn (st.eval f) (xs.toList.map st.eval) with
    | some (g,vs)=>match gx [] vs with
      | some vs'=>match live g vs' with
        | some (e,rs)=>some (w6 st key o.dst e rs)
        | none=>none
      | none=>none
    | none=>none
  | _=>none
theorem D4 {P:Program} {live:yb} (hl:D3 P live) {o:Oper} {key:Nat} {st s:St} {Q:St→Prop} (h:IZ live o key st=some s) (hQ:Q s):uc P o key st Q:=by
  unfold IZ at h;unfold uc;split at h;·rename_i heq; rw [heq]; dsimp only;split at h;(·rename_i g vs hg;rw [hg]; dsimp only;split at h;(·rename_i vs' hv;split at h;(·rename_i e rs hr;cases h;exact⟨vs',e,rs,hv,hl _ _ _ _ hr,hQ⟩);·cases h);·cases h);·cases h
  ·cases h
def ug (P:Program) (pure:pV):Prop:=∀ f vs r,pure f vs=some r→bR P f vs r
def T2 (P:Program) (tt:Table) (nat:pR) (pure:pV) (o:Oper) (Cc st:St):Option St :=
  match o.op with
  | .call { callee:=.value f,args:=xs,.. }=>match dn (Cc.eval f) (xs.toList.map Cc.eval) with
    | some (g,vs)=>match gx [] vs with
      | some vs'=>match pure g vs' with
        | some r=>some (st.put o.dst r)
        | none=>match nat g vs' with
          | some r=>some (st.put o.dst r)
          | none=>none
      | none=>none
    | none=>none
  | _=>match yH P tt o Cc with
    | some v=>some (st.put o.dst v)
    | none=>none
theorem Ai {P:Program} {tt:Table} {nat:pR} (cO:mL P nat) {pure:pV} (hp:ug P pure) {o:Oper} {Cc st s:St} {Q:St→Prop} (h:T2 P tt nat pure o Cc st=some s) (hQ:Q s):nV P tt o Cc st Q:=by
  unfold T2 at h;unfold nV;split at h;·rename_i heq; rw [heq]; dsimp only;split at h;(·rename_i g vs hg;rw [hg]; dsimp only;split at h;(·rename_i vs' hv;split at h;(·rename_i r hr;cases h;exact⟨vs',r,hv,.inl (hp _ _ _ hr),hQ⟩);·split at h;(·rename_i r hr;cases h;exact⟨vs',r,hv,.inr (cO _ _ _ hr),hQ⟩);·cases h);·cases h);·cases h
  ·split at h;(·rename_i h1;cases h;split;(·exfalso; solve_by_elim);·rw [h1]; exact hQ);·cases h
def I0 (pure:pV) (o:Oper) (st:St):Option St :=
  match o.op with
  | .call { callee:=.value f,args:=xs,.. }=>match dn (st.eval f) (xs.toList.map st.eval) with
    | some (g,vs)=>match gx st.mem vs with
      | some vs'=>match pure g vs' with
        | some r=>some (St.put { st with mem:=bT st.mem (vs.flatMap fb) r } o.dst r)
        | none=>none
      | none=>none
    | none=>none
  | _=>none
theorem D5 {P:Program} {pure:pV} (hp:ug P pure) {o:Oper} {st s:St} {Q:St→Prop} (h:I0 pure o st=some s) (hQ:Q s):pL P o st Q:=by
  unfold I0 at h;unfold pL;split at h;·rename_i f xs ts mv;split at h;(·rename_i g vs hg;split at h;(·rename_i vs' hv;split at h;(·rename_i r hr;cases h;rw [mv];dsimp only;rw [hg];exact⟨vs',r,hv,hp _ _ _ hr,hQ⟩);·cases h);·cases h);·cases h
  ·cases h
abbrev Ge:=FuncId→List V→Nat→List bm→Option (V×bm)
def KX (P:Program) (Gf:Ge):Prop:=∀ f vs k mem v B,Gf f vs k mem=some (v,B)→∃ B0,mem[k]?=some B0∧B0.dV=0∧B.dV=0∧bz P f vs mem v (mem.set k B)
def I1 (Gf:Ge) (o:Oper) (k:Nat) (st:St):Option St :=
  match o.op with
  | .call { callee:=.value f,args:=xs,.. }=>match dn (st.eval f) (xs.toList.map st.eval) with
    | some (g,vs)=>match Gf g vs k st.mem with
      | some (v,B)=>some (St.put { st with mem:=st.mem.set k B } o.dst v)
      | none=>none
    | none=>none
  | _=>none
theorem D6 {P:Program} {tt:Table} {Gf:Ge} (he:KX P Gf) {o:Oper} {k:Nat} {st s:St} {Q:St→Prop} (h:I1 Gf o k st=some s) (hQ:Q s):u6 P tt o k st Q:=by
  unfold I1 at h;unfold u6;split at h;·rename_i f xs ts mv;split at h;(·rename_i g vs hg;split at h;(·rename_i v B hb;cases h;obtain⟨B0,h1,h2,h3,h4⟩:=he _ _ _ _ _ _ hb;rw [mv];dsimp only;rw [hg];exact⟨v,B0,B,h2,h3,h1,h4,hQ⟩);·cases h);·cases h
  ·cases h
def I2 (P:Program) (tt:Table) (nat:pR) (pure:pV) (live:yb) (Gf:Ge) (all:Array Oper) (base:Nat) (o:Oper) (p:Pl) (st:St):Option St :=
  match gr all st.fr o with
  | some true=>match p.cls with
    | .n=>T2 P tt nat pure o { st with mem:=[] } st
    | .r=>T2 P tt nat pure o { st with mem:=iL (p.mask.map (base + ·)++p.abs) st.mem } st
    | .a=>if isHole st.mem (base+p.key)=true then (match j2 tt o (base+p.key) st with
      | some (B,v)=>some (St.put { st with mem:=st.mem.set (base+p.key) B } o.dst v)
      | none=>IZ live o (base+p.key) st) else none
    | .w=>if isHole st.mem (base+p.key)=true then (match u5 P tt (base+p.key) o st with
      | some (m,v)=>some (St.put { st with mem:=m } o.dst v)
      | none=>none) else none
    | .s=>match qY tt (base+p.key) o st with
      | some m=>some (St.put { st with mem:=m } o.dst (.sc undef))
      | none=>none
    | .b=>match qQ tt o st with
      | some v=>some (st.put o.dst v)
      | none=>none
    | .z=>I0 pure o st
    | .e=>match qY tt p.key o st with
      | some m=>some (St.put { st with mem:=m } o.dst (.sc undef))
      | none=>I1 Gf o p.key st
  | some false=>some (st.put o.dst (.sc undef))
  | none=>none
theorem D7 {P:Program} {tt:Table} {nat:pR} (cO:mL P nat) {pure:pV} {live:yb} {Gf:Ge} (hp:ug P pure) (hl:D3 P live) (hE:KX P Gf) {all:Array Oper} {base:Nat} {o:Oper} {p:Pl} {st s:St} {Q:St→Prop} (h:I2 P tt nat pure live Gf all base o p st=some s) (hQ:Q s):fH P tt all base o p st Q:=by
  unfold I2 at h;unfold fH;split at h;·rename_i hw; rw [hw]; dsimp only;split at h;(·rename_i o8; rw [o8]; exact Ai cO hp h hQ);(·rename_i o8; rw [o8]; exact Ai cO hp h hQ);(·rename_i o8; rw [o8]; dsimp only;split at h;(·rename_i hh;refine⟨hh,?_⟩;split at h;(·rename_i h1; cases h; rw [h1]; exact hQ);·rename_i h1; rw [h1]; exact D4 hl h hQ);·cases h);(·rename_i o8; rw [o8]; dsimp only;split at h;(·rename_i hh;refine⟨hh,?_⟩;split at h;(·rename_i h1; cases h; rw [h1]; exact hQ);·cases h);·cases h);(·rename_i o8; rw [o8]; dsimp only;split at h;(·rename_i h1; cases h; rw [h1]; exact hQ);·cases h);(·rename_i o8; rw [o8]; dsimp only;split at h;(·rename_i h1; cases h; rw [h1]; exact hQ);·cases h);(·rename_i o8; rw [o8]; exact D5 hp h hQ);·rename_i o8; rw [o8]; dsimp only;split at h;(·rename_i m h1;cases h;unfold u6;split;(·rename_i f xs ts mv; unfold qY at h1; rw [mv] at h1; cases h1);·rw [h1]; exact hQ);·exact D6 hE h hQ
  ·rename_i hw; rw [hw]; cases h; exact hQ
  ·cases h
def Gg (P:Program) (tt:Table) (nat:pR) (pure:pV) (live:yb) (Gf:Ge) (all:Array Oper) (base:Nat):List Oper→List Pl→St→Option St
  | [],_,st=>some st
  | o :: r,p :: ps,st=>match I2 P tt nat pure live Gf all base o p st with
    | some s=>TY (CM o) o.dst (KV (base+p.key) o st) s fun s'=>Gg P tt nat pure live Gf all base r ps s'
    | none=>none
  | _ :: _,[],_=>none
theorem yc {P:Program} {tt:Table} {nat:pR} (cO:mL P nat) {pure:pV} {live:yb} {Gf:Ge} (hp:ug P pure) (hl:D3 P live) (hE:KX P Gf) {all:Array Oper} {base:Nat} {Q:St→Prop}:∀ {l:List Oper} {ps:List Pl} {st s:St},Gg P tt nat pure live Gf all base l ps st=some s→Q s→runM P tt all base l ps st Q
  | [],_,st,s,h,hQ=>by cases h; exact hQ
  | o :: r,p :: ps,st,s,h,hQ=>by
    simp only [Gg] at h
    simp only [runM]
    split at h
    · rename_i s1 h1
      rw [uf] at h
      exact D7 cO hp hl hE h1 (yc cO hp hl hE h hQ)
    · cases h
  | _ :: _,[],_,_,h,_=>by simp [Gg] at h

mutual
def Ym:V→Nat
  | .ms b _ _ _ | .ptr b _ | .ke b | .mp b | .iy b _ _ _=>b+1
  | .agg cs | .eV cs=>Mu cs
  | .cX _ a b=>max (Mu a) (Mu b)
  | _=>0
def Mu:List V→Nat
  | []=>0
  | c :: r=>max (Ym c) (Mu r)
end
def ahZ:bm→Nat
  | .box cs=>Mu cs
  | .loop _ _ fr _ _ _=>Mu fr
  | .map dO _=>dO.foldr (fun k n=>max (Ym k.2.2) n) 0
  | .jO m _ _ _=>m+1
  | _=>0
def aci (l:List bm):Nat:=l.foldr (fun B n=>max (ahZ B) n) 0
def Yn:Nat→Nat→List bm→Nat
  | 0,n,_=>n
  | k+1,n,mem=>let m:=max n (aci (mem.take n)); if m=n then n else Yn k m mem
def acj (lo:Nat) (r:V) (mem:List bm):Option (V×List bm) :=
  let n:=Yn 8 (max lo (Ym r)) mem
  if lo≤n∧aA n r=true∧(mem.take n).all (aJ n)=true then some (r,mem.take n) else none

def y5:Exit→Bool
  | .ret=>true
  | .normal=>true
  | _=>false
def KY:Value→Value→Bool
  | .agg a,.agg b=>oW a.toList b.toList
  | .tuple a,.tuple b=>oW a.toList b.toList
  | .func (.func f) a b,.func (.func g) c d=>f==g&&a.isEmpty&&b.isEmpty&&c.isEmpty&&d.isEmpty
  | a,b=>DV a b
theorem Gh {a b:Value} (h:KY a b=true):a=b:=by
  unfold KY at h;split at h;·rename_i x y; rw [← di (xs:=x),qn h,di]
  ·rename_i x y; rw [← di (xs:=x),qn h,di]
  ·simp only [aL,beq_iff_eq,Array.isEmpty_iff] at h;obtain⟨⟨⟨⟨rfl,rfl⟩,rfl⟩,rfl⟩,rfl⟩:=h;rfl
  ·exact CD h
mutual
def lH:V→V→Bool
  | .undef,.undef=>true
  | .gn,.gn=>true
  | .sc a,.sc b=>KY a b
  | .agg a,.agg b=>kj a b
  | .eV a,.eV b=>kj a b
  | .slice a,.slice b=>kj a b
  | .full a,.full b=>kj a b
  | .fa a,.fa b=>kj a b
  | .ms a b c d,.ms a' b' c' d'=>a==a'&&b==b'&&c==c'&&d==d'
  | .ptr a b,.ptr a' b'=>a==a'&&b==b'
  | .iy a b c d,.iy a' b' c' d'=>a==a'&&b==b'&&c==c'&&d==d'
  | .mp a,.mp b=>a==b
  | .ke a,.ke b=>a==b
  | .cX (.func f) a b,.cX (.func g) c d=>f==g&&kj a c&&kj b d
  | _,_=>false
def kj:List V→List V→Bool
  | [],[]=>true
  | a :: r,b :: s=>lH a b&&kj r s
  | _,_=>false
end
mutual
theorem vi:∀ {a b:V},lH a b=true→a=b
  | .undef,b,h=>by cases b <;> simp [lH] at h <;> rfl
  | .gn,b,h=>by cases b <;> simp [lH] at h <;> rfl
  | .sc a,b,h=>by
    cases b <;> simp only [lH,cf] at h
    rw [Gh h]
  | .agg a,b,h=>by
    cases b <;> simp only [lH,cf] at h
    rw [ic h]
  | .eV a,b,h=>by
    cases b <;> simp only [lH,cf] at h
    rw [ic h]
  | .slice a,b,h=>by
    cases b <;> simp only [lH,cf] at h
    rw [ic h]
  | .full a,b,h=>by
    cases b <;> simp only [lH,cf] at h
    rw [ic h]
  | .fa a,b,h=>by
    cases b <;> simp only [lH,cf] at h
    rw [ic h]
  | .ms _ _ _ _,b,h=>by
    cases b <;> simp only [lH,cf,aL,beq_iff_eq] at h
    obtain⟨⟨⟨rfl,rfl⟩,rfl⟩,rfl⟩:=h; rfl
  | .ptr _ _,b,h=>by
    cases b <;> simp only [lH,cf,aL,beq_iff_eq] at h
    obtain⟨rfl,rfl⟩:=h; rfl
  | .iy _ _ _ _,b,h=>by
    cases b <;> simp only [lH,cf,aL,beq_iff_eq] at h
    obtain⟨⟨⟨rfl,rfl⟩,rfl⟩,rfl⟩:=h; rfl
  | .mp _,b,h=>by
    cases b <;> simp only [lH,cf,beq_iff_eq] at h
    rw [h]
  | .ke _,b,h=>by
    cases b <;> simp only [lH,cf,beq_iff_eq] at h
    rw [h]
  | .cX f a c,b,h=>by
    cases b with
    | cX g a' c' =>
      cases f <;> cases g <;> simp only [lH,cf,aL,beq_iff_eq] at h
      obtain⟨⟨rfl,h1⟩,h2⟩:=h
      rw [ic h1,ic h2]
    | _=>cases f <;> simp [lH] at h
theorem ic:∀ {a b:List V},kj a b=true→a=b
  | [],b,h=>by cases b <;> simp [kj] at h <;> rfl
  | c :: r,b,h=>by
    cases b with
    | nil=>simp [kj] at h
    | cons d s =>
      simp only [kj,aL] at h
      rw [vi h.1,ic h.2]
end
def sI:List (Value×Nat×V)→List (Value×Nat×V)→Bool
  | [],[]=>true
  | a :: r,b :: s=>KY a.1 b.1&&a.2.1==b.2.1&&lH a.2.2 b.2.2&&sI r s
  | _,_=>false
theorem Aj:∀ {a b:List (Value×Nat×V)},sI a b=true→a=b
  | [],[],_=>rfl
  | (k,n,v) :: r,(k',n',v') :: s,h=>by
    simp only [sI,aL,beq_iff_eq] at h
    obtain⟨⟨⟨h1,h2⟩,h3⟩,h4⟩:=h
    rw [Gh h1,h2,vi h3,Aj h4]
  | [],_ :: _,h=>by simp [sI] at h
  | _ :: _,[],h=>by simp [sI] at h
def O1:bm→bm→Bool
  | .hole,.hole=>true
  | .dead,.dead=>true
  | .oa,.oa=>true
  | .box a,.box b=>kj a b
  | .rows v e a,.rows v' e' b=>v==v'&&e==e'&&kj a b
  | .uR v e a,.uR v' e' b=>v==v'&&e==e'&&kj a b
  | .map a c,.map b d=>c==d&&sI a b
  | .jO a b c d,.jO a' b' c' d'=>a==a'&&b==b'&&c==c'&&d==d'
  | _,_=>false
theorem O2 {a b:bm} (h:O1 a b=true):a=b:=by
  unfold O1 at h;split at h;·rfl
  ·rfl
  ·rfl
  ·rw [ic h]
  ·simp only [aL,beq_iff_eq] at h; obtain⟨⟨rfl,rfl⟩,h⟩:=h; rw [ic h]
  ·simp only [aL,beq_iff_eq] at h; obtain⟨⟨rfl,rfl⟩,h⟩:=h; rw [ic h]
  ·simp only [aL,beq_iff_eq] at h; obtain⟨rfl,h⟩:=h; rw [Aj h]
  ·simp only [aL,beq_iff_eq] at h; obtain⟨⟨⟨rfl,rfl⟩,rfl⟩,rfl⟩:=h; rfl
  ·cases h
def rP:List bm→List bm→Bool
  | [],[]=>true
  | a :: r,b :: s=>O1 a b&&rP r s
  | _,_=>false
theorem sJ:∀ {a b:List bm},rP a b=true→a=b
  | [],[],_=>rfl
  | x :: r,y :: s,h=>by simp only [rP,aL] at h; rw [O2 h.1,sJ h.2]
  | [],_ :: _,h=>by simp [rP] at h
  | _ :: _,[],h=>by simp [rP] at h
def dedup:List (V×List bm)→List (V×List bm)
  | []=>[]
  | p :: r=>if (dedup r).any (fun q=>lH p.1 q.1&&rP p.2 q.2)=true then dedup r else p :: dedup r
theorem sK:∀ {l:List (V×List bm)} {p:V×List bm},p∈l→p∈dedup l
  | q :: r,p,h=>by
    simp only [dedup]
    split
    · rename_i dZ
      rcases cb.1 h with rfl | h
      · obtain⟨q',h1,h2⟩:=agH.1 dZ
        simp only [aL] at h2
        have:p=q':=apJ (vi h2.1) (sJ h2.2)
        rw [this]; exact h1
      · exact sK h
    · rcases cb.1 h with rfl | h
      · exact b9 ..
      · exact bP _ (sK h)
def S8 (P:Program) (tt:Table) (code:pS):lG:=fun f vs mem =>
  match P.funcs[f]? with
  | some fn=>match fn.body with
    | some body=>(pT (fWs vs fun vs=>OZ mem fun mem=>TY true none [] (cH fn vs mem) fun s=>code false body s) fun o=>if y5 o.1=true then (match kQ tt fn.results o.2 with
      | some r=>fV r fun r=>match acj mem.length r o.2.mem with | some p=>OZ p.2 fun m=>some [(p.1,m)] | none=>none
      | none=>none) else none).map dedup
    | none=>none
  | none=>none
def yd (P:Program) (tt:Table) (code:pS):pV:=fun f vs =>
  match P.funcs[f]? with
  | some fn=>match fn.body with
    | some body=>match pT (fWs vs fun vs=>TY true none [] (cH fn vs []) fun s=>code false body s) fun o=>if y5 o.1=true then (match nU tt fn.results o.2 with | some r=>fV r fun r=>some [r] | none=>none) else none with
      | some (r :: rs)=>if rs.all (lH r)=true then some r else none
      | _=>none
    | none=>none
  | none=>none
def I3:List (V×List bm)→Option (Nat×Nat×List V)
  | [(.ms 0 v 0 l,[.rows v' e rs])]=>if v'=v∧l=rs.length then some (v,e,rs) else none
  | [(.ms 0 v 0 0,[.rows v' e []]),(.sc (.slice none 0 0),[])]=>if v'=v then some (v,e,[]) else none
  | [(.sc (.slice none 0 0),[]),(.ms 0 v 0 0,[.rows v' e []])]=>if v'=v then some (v,e,[]) else none
  | _=>none
theorem I4 {outs:List (V×List bm)} {v e:Nat} {rs:List V} (h:I3 outs=some (v,e,rs)):∀ r m,(r,m)∈outs→(r = .ms 0 v 0 rs.length∧m=[.rows v e rs])∨(r = .sc (.slice none 0 0)∧m=[]∧rs=[]):=by
  unfold I3 at h;split at h;·split at h;(·rename_i hc; cases h; obtain⟨rfl,rfl⟩:=hc;intro r m hm; simp at hm; exact .inl hm);·cases h
  ·split at h;(·rename_i hc; cases h; subst hc;intro r m hm; simp at hm;(rcases hm with ⟨rfl,rfl⟩ | ⟨rfl,rfl⟩);(·exact .inl ⟨rfl,rfl⟩);·exact .inr ⟨rfl,rfl,rfl⟩);·cases h
  ·split at h;(·rename_i hc; cases h; subst hc;intro r m hm; simp at hm;(rcases hm with ⟨rfl,rfl⟩ | ⟨rfl,rfl⟩);(·exact .inr ⟨rfl,rfl,rfl⟩);·exact .inl ⟨rfl,rfl⟩);·cases h
  ·cases h
theorem eB.live {P:Program} {f:FuncId} {vs:List V} {R:V→List bm→Prop} {v e:Nat} {rs:List V} (h:eB P f vs [] R) (hR:∀ r m,R r m→(r = .ms 0 v 0 rs.length∧m=[.rows v e rs])∨(r = .sc (.slice none 0 0)∧m=[]∧rs=[])):x5 P f vs e rs:=by
  refine⟨v,h.1,fun E w xs hs hx=>(h.2 E w xs hs hx).mono ?_⟩;rintro en w' ⟨E',x,r,m,rfl,hr,iz,pC,ni⟩;rcases hR r m hr with ⟨rfl,rfl⟩ | ⟨rfl,rfl,rfl⟩
  ·exact⟨E',x,rfl,iz,pC,ni⟩
  ·obtain rfl:=gN ni;exact⟨E',_,rfl,iz,by simpa using pC.vg v e,.jl _ _ _ _⟩
def O3 (P:Program) (tt:Table) (code:pS):yb:=fun f vs =>
  match S8 P tt code f vs [] with
  | some outs=>match I3 outs with | some (_,e,rs)=>some (e,rs) | none=>none
  | none=>none
def O4 (lo:Nat) (b:Bool) (m:List bm):Option (List (Bool×List bm)) :=
  let n:=Yn 8 lo m
  if lo≤n∧(m.take n).all (aJ n)=true then OZ (m.take n) fun m=>some [(b,m)] else none
theorem I5 {lo:Nat} {b:Bool} {m:List bm} {x:List (Bool×List bm)} (h:O4 lo b m=some x):∃ n,lo≤n∧(m.take n).all (aJ n)=true∧(b,m.take n)∈x:=by
  unfold O4 at h;dsimp only at h;split at h;·rename_i hc; rw [qt] at h; cases h; exact⟨_,hc.1,hc.2,by simp⟩
  ·cases h
def T3 (code:pS):Mp:=fun k vs mem =>
  match mem[k]? with
  | some (.loop .ready none fr params assign body) =>
    if vs.length=params.size then
      pT (fWs vs fun vs=>TY true none [] { fr:=oX params.toList vs fr,mem:=mem } fun s=>code true assign s) fun o=>match o.1,o.2.mem[k]? with
        | .normal,some (.loop .ready none Wc p1 TI TJ) =>
          pT (TY true none [] { o.2 with mem:=o.2.mem.set k (.loop .busy none Wc p1 TI TJ) } fun s=>code true body s) fun u=>match rI u.1,u.2.mem[k]? with
            | some jump,some (.loop _ _ TK p2 OC OD) =>
              O4 mem.length jump.isNone (u.2.mem.set k (.loop (if jump.isNone then .ready else .done) jump TK p2 OC OD))
            | _,_=>none
        | _,_=>none
    else none
  | _=>none
def T4:LoopState→Bool
  | .busy=>false
  | _=>true

def xb {α:Type} (f:α→Option (List (Exit×St))):List α→Option (List (Exit×St))
  | []=>none
  | a :: r=>match f a with | some x=>some x | none=>xb f r
theorem ye {α:Type} {f:α→Option (List (Exit×St))}:∀ {l:List α} {x:List (Exit×St)},xb f l=some x→∃ a∈l,f a=some x
  | [],x,h=>by cases h
  | a :: r,x,h=>by
    simp only [xb] at h
    split at h
    · rename_i hx; cases h; exact⟨a,b9 ..,hx⟩
    · obtain⟨b,h1,h2⟩:=ye h; exact⟨b,bP _ h1,h2⟩
def Yo (mM:FuncId→List V→Option V) (pure:pV):pV:=fun f vs=>match mM f vs with | some r=>some r | none=>pure f vs
theorem T5 {P:Program} {mM:FuncId→List V→Option V} {pure:pV} (h:pU P mM) (hp:ug P pure):ug P (Yo mM pure):=fun f vs r hr=>by
  unfold Yo at hr;split at hr;·rename_i r' h1; cases hr; exact h _ _ _ h1
  ·exact hp _ _ _ hr
theorem bz.Ak {P:Program} {f:FuncId} {vs:List V} {mem m m2:List bm} {v v':V} (h:bz P f vs mem v m)
    (step:∀ (E:Env) (w:World) (x:Value),dr E w { tmps := #[],defers:=[] } { fr:=[],mem:=m }→dh E v x→∃ E2,dr E2 w { tmps := #[],defers:=[] } { fr:=[],mem:=m2 }∧iC E w E2 w∧dh E2 v' x)
    (hv:aA mem.length v'=true) (hm:(m2.take mem.length).all (aJ mem.length)=true):bz P f vs mem v' (m2.take mem.length):=by
  refine⟨h.1,fun E w xs hs hx=>(h.2 E w xs hs hx).mono ?_⟩;rintro e w' ⟨E',x,rfl,iz,pC,ni⟩;obtain⟨E2,s2,Yp,OV⟩:=step E' w' x pC ni;have he:=iz.trans Yp;have hc:=s2.cut (n:=mem.length) rfl hm;refine⟨E2.cut mem.length,x,rfl,⟨⟨he.le.F,fun k v t hk=>?_⟩,fun k v g e c hk=>?_,he.F,he.os,he.tape,he.output,he.size,he.heap⟩,hc,jH OV hv⟩;·(have:k<mem.length:=by (rcases bL k mem.length with ca | ig);(·exact ca);·rw [hs.top k ig v] at hk; cases hk);exact (if_pos this).trans (he.le.cI _ _ _ hk)
  ·(have:E2.cI k v=some (g,e,c):=by by_cases lZ:k<mem.length;(·exact ((if_pos lZ).symm.trans hk:E2.cI k v=_));·have h2:(E2.cut mem.length).cI k v=none:=if_neg lZ;rw [h2] at hk; cases hk);exact he.cI _ _ _ _ _ this
theorem bz.Yq {P:Program} {f:FuncId} {vs:List V} {mem m:List bm} {v v':V} (h:bz P f vs mem v m) (hp:gP m v=some v') (hv:aA mem.length v'=true) (hm:((ck m (fb v)).take mem.length).all (aJ mem.length)=true) :
    bz P f vs mem v' ((ck m (fb v)).take mem.length):=h.Ak (fun E w x hs ni=>by
  obtain⟨E2,s2,Yp,r2⟩:=hs.freeze (vs:=[v]) (vs':=[v']) (by simp [gx,hp])
  have hr:[v].flatMap fb=fb v:=by simp
  rw [hr] at s2
  obtain⟨y,ys,hy,OV,-⟩:=(r2 [x] (.cons ni (.nil _))).of_cons
  cases hy
  exact⟨E2,s2,Yp,OV⟩) hv hm
def Yr (n:Nat) (v:V) (m:List bm):Option (V×List bm) :=
  if m.length=n then some (v,m) else match v with
    | .ptr k 0=>match m[k]? with
      | some (.box cs)=>if n≤k∧cs.all iH=true∧((m.set k .dead).take n).all (aJ n)=true then some (.fa cs,(m.set k .dead).take n) else none
      | _=>none
    | _=>match gP m v with
      | some v'=>if aA n v'=true∧((ck m (fb v)).take n).all (aJ n)=true then some (v',(ck m (fb v)).take n) else none
      | none=>none
theorem T6 {P:Program} {f:FuncId} {vs:List V} {mem m0 m:List bm} {v0 v:V} (h:bz P f vs mem v0 m0) (Ig:Yr mem.length v0 m0=some (v,m)):bz P f vs mem v m:=by
  unfold Yr at Ig;split at Ig;·cases Ig; exact h
  ·split at Ig;(·rename_i k;split at Ig;(·rename_i cs hk;split at Ig;(·rename_i Cs;cases Ig;refine h.Ak (fun E w x hs ni=>?_) (by simp [aA]) Cs.2.2;exact hs.Yi ni hk Cs.2.1);·cases Ig);·cases Ig);·split at Ig;(·rename_i w hw;split at Ig;(·rename_i Cs;cases Ig;exact h.Yq hw Cs.1 Cs.2);·cases Ig);·cases Ig
def Ys (call:lG):Ge:=fun f vs k mem =>
  match mem[k]? with
  | some B0=>match call f vs mem with
    | some [(v0,m0)]=>match Yr mem.length v0 m0 with
      | some (v,m)=>match m[k]? with
        | some B=>if B0.dV=0∧B.dV=0∧rP m (mem.set k B)=true then some (v,B) else none
        | none=>none
      | none=>none
    | _=>none
  | none=>none
theorem T7 {P:Program} {call:lG} (hc:ki P call):KX P (Ys call):=by
  intro f vs k mem v B h;unfold Ys at h;split at h;·rename_i B0 h0;split at h;(·rename_i v0 m0 hf;split at h;(·rename_i v' m Ig;split at h;(·rename_i B' hB;split at h;(·rename_i ru;cases h;obtain⟨h1,h2,h3⟩:=ru;have e:=sJ h3;have h4:=hc f vs mem _ hf;have h5:bz P f vs mem v0 m0:=⟨h4.1,fun E w xs hs hx=>(h4.2 E w xs hs hx).mono fun e w' ⟨E',x,r',m',p1,p2,p4⟩=>by simp only [eJ,eA] at p2;obtain⟨rfl,rfl⟩:=p2;exact⟨E',x,p1,p4⟩⟩;refine⟨B0,h0,h1,h2,?_⟩;rw [← e];exact T6 h5 Ig);·cases h);·cases h);·cases h);·cases h
  ·cases h
def O5 (ops:List Oper) (st:St) (x:Operand):Option Nat :=
  match (match x with
    | .tmp t=>(match ops.find? (fun o:Oper=>o.dst==some t) with
      | some o=>(match o.op with | .fieldAddr _ y _=>some (st.eval y) | .move y=>some (st.eval y) | _=>none)
      | none=>none)
    | _=>none) with
  | some (.ptr k _)=>some k
  | _=>match st.eval x with
    | .ptr k _=>some k
    | _=>none
def Gi (ops:List Oper) (st:St):List Oper→List Pl→List (Nat×Nat)
  | o :: r,p :: ps=>if p.cls = .e∧900≤p.key then (match o.op with | .store _ x _=>(match O5 ops st x with | some k=>(p.key,k) :: Gi ops st r ps | none=>Gi ops st r ps) | _=>Gi ops st r ps) else Gi ops st r ps
  | _,_=>[]
def T8 (mem:List bm) (w:Nat):Nat:=match mem[w]? with
  | some (.box cs)=>match (cs[8]?:Option V) with
    | some (.cX _ _ _)=>w
    | _=>match (cs[6]?:Option V) with
      | some (.cX _ _ [.ptr okk _,.ptr tk _])=>match (mem[tk]?:Option bm) with
        | some (.box [.cX _ _ [.ptr ik _]])=>match (mem[ik]?:Option bm) with
          | some (.box [.mp m])=>m
          | _=>okk
        | _=>okk
      | _=>w
  | _=>w
def D8 (ops:List Oper) (st:St):List Oper→List (Nat×Nat)
  | o :: r=>match o.op with
    | .call { callee:=.value _,args:=xs,.. }=>match xs.toList with
      | x :: _=>match O5 ops st x with
        | some w=>[(99,T8 st.mem w)]
        | none=>D8 ops st r
      | []=>D8 ops st r
    | _=>D8 ops st r
  | []=>[]
def ack (l:List (Nat×Nat)) (a:Nat):Nat:=match l.find? (fun p:Nat×Nat=>p.1==a) with
  | some p=>p.2
  | none=>a
def O6 (ops:Array Oper) (st:St) (pl:List Pl):List Pl:=match D8 ops.toList st ops.toList++Gi ops.toList st ops.toList pl with
  | []=>pl
  | l=>pl.map fun p => { p with key:=if p.cls = .e then ack l p.key else p.key,abs:=p.abs.map (ack l) }
def fnM (rf call:lG):lG:=fun f vs mem=>match rf f vs mem with
  | some r=>some r
  | none=>call f vs mem
theorem I6 {P:Program} {rf call:lG} (ho:ki P rf) (hc:ki P call):ki P (fnM rf call):=fun f vs mem outs h=>by
  unfold fnM at h;split at h;·rename_i hr; cases h; exact ho _ _ _ _ hr
  ·exact hc _ _ _ _ h
def noM:lG:=fun _ _ _=>none
theorem Yt {P:Program}:ki P noM:=fun _ _ _ _ h=>by cases h
def T9 (P:Program) (tt:Table) (nat:pR) (mM:FuncId→List V→Option V) (rf:lG) (code:pS) (ops:Array Oper) (st:St) (p:List Pl×Nat):Option (List (Exit×St)) :=
  if rO ops (O6 ops st p.1)=true then (match Gg P tt nat (Yo mM (yd P tt code)) (O3 P tt code) (Ys (fnM rf (S8 P tt code))) ops st.mem.length ops.toList (O6 ops st p.1) { st with mem:=st.mem++List.replicate p.2 .hole } with
    | some s=>some [(.normal,s)]
    | none=>none) else none
def pg (P:Program) (tt:Table) (pl:F7) (nat:pR) (mM:FuncId→List V→Option V) (rf:lG) (code:pS):pS:=fun ρ c st =>
  match c with
  | .skip=>some [(.normal,st)]
  | .ret=>some [(.ret,st)]
  | .exit id=>some [(.exit id,st)]
  | .seq a b=>pT (code ρ a st) fun o=>match o.1 with
    | .normal=>code ρ b o.2
    | e=>some [(e,o.2)]
  | .cond x a b=>match st.eval x with
    | .sc (.bool t)=>code ρ (if t=true then a else b) st
    | _=>none
  | .block id c=>pT (code ρ c st) fun o=>match o.1 with
    | .exit j=>if j=id then some [(.normal,o.2)] else some [(.exit j,o.2)]
    | e=>some [(e,o.2)]
  | .loop c=>pT (code ρ c st) fun o=>match o.1 with
    | .normal=>code ρ (.loop c) o.2
    | e=>some [(e,o.2)]
  | .region _ ops false=>match Ms P tt nat mM (fnM rf (S8 P tt code)) (T3 code) ops ops.toList st with
    | some l=>some (l.map fun s=>(.normal,s))
    | none=>match Gc st with
      | some st'=>pT (Ms P tt nat mM (fnM rf (S8 P tt code)) (T3 code) ops ops.toList st') fun s=>some [(.normal,s)]
      | none=>none
  | .region id ops true=>match xb (T9 P tt nat mM rf code ops st) (pl id ops) with
    | some x=>some x
    | none=>match Gc st with
      | some st'=>xb (T9 P tt nat mM rf code ops st') (pl id ops)
      | none=>none
  | .rangeFunc f params assign body=>if ρ=true then none else
    match dn (st.eval f) [.ke st.mem.length] with
    | some (g,vs)=>pT (S8 P tt code g vs (st.mem++[.loop .ready none st.fr params assign body])) fun o=>match o.2[st.mem.length]? with
      | some (.loop s nS _ _ _ _)=>if T4 s=true then (match nS with
        | none=>TY true none [] { st with mem:=o.2.set st.mem.length .dead } fun s=>some [(.normal,s)]
        | some c=>TY true none [] { st with mem:=o.2.set st.mem.length .dead } fun s=>code false c s) else none
      | _=>none
    | none=>none
  | _=>none

def ev (P:Program) (tt:Table) (pl:F7) (nat:pR) (mM:FuncId→List V→Option V) (rf:lG) (n:Nat):pS:=Nat.rec (fun _ _ _=>none) (fun _ r=>pg P tt pl nat mM rf r) n

def Al (P:Program) (code:pS):Prop:=∀ b c st outs,code b c st=some outs→∀ (ρ:Option Nat) (n0:Nat) (Q:Exit→St→Prop),(b=true∨ρ=none)→(∀ o∈outs,Q o.1 o.2)→eg P ρ n0 c st Q

section
variable {P:Program} {tt:Table} {pl:F7} {nat:pR} {mM:FuncId→List V→Option V} {rf:lG} (ht:TT P tt) (hm:P.follows .mixedOrders=true)
  (gI:∀ (f:FuncId) (fn:Func) (body:Code),P.funcs[f]?=some fn→fn.body=some body→∀ (xs:Array Value) (w:World),(callFunc f xs).run P w = .ok (.enter f xs) w)
include ht gI
theorem xd {code:pS} (Wm:Al P code):ki P (S8 P tt code):=by
  intro f vs mem outs h;unfold S8 at h;split at h;·rename_i fn hf;split at h;(·rename_i body hb;rw [bA] at h;obtain⟨alD,h,OK⟩:=h;obtain⟨l,h1,h2⟩:=iR h;rw [D2,qt,uf] at h1;refine OB ht hf hb (gI f fn body hf hb) (Wm _ _ _ _ h1 none _ _ (.inr rfl) fun o ho=>?_);obtain⟨b,h3,h4⟩:=h2 o ho;split at h3;(·rename_i he;split at h3;(·rename_i r hr;rw [Ga] at h3;split at h3;(·rename_i p hp;rw [qt] at h3;cases h3;unfold acj at hp;dsimp only at hp;split at hp;(·rename_i ru;cases hp;refine⟨?_,r,_,ru.1,hr,ru.2.1,ru.2.2,by rw [← OK]; exact sK (h4 _ (by simp))⟩;cases ho1:o.1 <;> simp [y5,ho1] at he <;> simp);·cases hp);·cases h3);·cases h3);·cases h3);·cases h
  ·cases h
theorem Gj {code:pS} (Wm:Al P code):ug P (yd P tt code):=by
  intro f vs r h;unfold yd at h;split at h;·rename_i fn hf;split at h;(·rename_i body hb;split at h;(·rename_i r1 rs Oh;split at h;(·rename_i ef;cases h;obtain⟨l,h1,h2⟩:=iR Oh;rw [D2,uf] at h1;refine jA ht hf hb (gI f fn body hf hb) (Wm _ _ _ _ h1 none _ _ (.inr rfl) fun o ho=>?_);obtain⟨b,h3,h4⟩:=h2 o ho;split at h3;(·rename_i he;split at h3;(·rename_i r2 hr;rw [Ga] at h3;cases h3;(have Iz:r2=r:=by (rcases cb.1 (h4 r2 (by simp)) with h | h);(·exact h);·exact (vi (a7.1 ef _ h)).symm);subst Iz;refine⟨?_,hr⟩;cases ho1:o.1 <;> simp [y5,ho1] at he <;> simp);·cases h3);·cases h3);·cases h);·cases h);·cases h
  ·cases h
theorem O7 {code:pS} (Wm:Al P code):D3 P (O3 P tt code):=by
  intro f vs e rs h;unfold O3 at h;split at h;·rename_i outs ho;split at h;(·rename_i v e' nj hl;cases h;exact (xd ht gI Wm f vs [] outs ho).live fun r m hr=>I4 hl r m hr);·cases h
  ·cases h
omit ht gI in
theorem KZ {code:pS} (Wm:Al P code):OY P (T3 code):=by
  intro k vs mem outs h;unfold T3 at h;split at h;·rename_i fr params assign body hk;split at h;(·rename_i hlen;obtain⟨l1,h1,h2⟩:=iR h;rw [D2,uf] at h1;refine u3 hk hlen fun l=>Wm _ _ _ _ h1 (some l) _ _ (.inl rfl) fun o ho=>?_;obtain⟨b,h3,h4⟩:=h2 o ho;split at h3;(·rename_i Wc p1 TI TJ he je;refine⟨he,Wc,p1,TI,TJ,je,?_⟩;obtain⟨l2,h5,h6⟩:=iR h3;rw [uf] at h5;refine Wm _ _ _ _ h5 (some l) _ _ (.inl rfl) fun u hu=>?_;obtain⟨b2,h7,h8⟩:=h6 u hu;split at h7;(·rename_i jump s2 pe2 TK p2 OC OD hj l0;obtain⟨n,hn,SU,o7⟩:=I5 h7;exact⟨n,jump,s2,pe2,TK,p2,OC,OD,hn,hj,l0,SU,h4 _ (h8 _ o7)⟩);·cases h7);·cases h3);·cases h
  ·cases h

include hm in
theorem Wn (yI:pU P mM) (Mv:ki P rf) (cO:mL P nat):∀ (n:Nat),Al P (ev P tt pl nat mM rf n)∧∀ b c st outs,ev P tt pl nat mM rf n b (.loop c) st=some outs→∀ (ρ:Option Nat) (n0:Nat) (Q:Exit→St→Prop),(b=true∨ρ=none)→(∀ o∈outs,Q o.1 o.2)→lY P ρ n0 c n st Q:=by
  intro n
  induction n with
  | zero=>exact⟨fun b c st outs h=>by simp [ev] at h,fun b c st outs h=>by simp [ev] at h⟩
  | succ n ih =>
    obtain⟨K0,ihl⟩:=ih
    have lF:∀ b c st,ev P tt pl nat mM rf (n+1) b c st=pg P tt pl nat mM rf (ev P tt pl nat mM rf n) b c st:=fun _ _ _=>rfl
    have loop:∀ b c st outs,ev P tt pl nat mM rf (n+1) b (.loop c) st=some outs→∀ (ρ:Option Nat) (n0:Nat) (Q:Exit→St→Prop),(b=true∨ρ=none)→(∀ o∈outs,Q o.1 o.2)→lY P ρ n0 c (n+1) st Q:=by
      intro b c st outs h ρ n0 Q hb hQ
      rw [lF] at h
      simp only [pg] at h
      obtain⟨l,h1,h2⟩:=iR h
      refine K0 _ _ _ _ h1 ρ n0 _ hb fun o ho=>?_
      obtain⟨e,s⟩:=o
      obtain⟨b',h3,h4⟩:=h2 _ ho
      cases e with
      | normal=>exact ihl _ _ _ _ h3 ρ n0 Q hb fun o' VZ=>hQ _ (h4 _ VZ)
      | _=>cases h3; exact hQ (_,_) (h4 _ (by simp))
    refine⟨fun b c st outs h ρ n0 Q hb hQ=>?_,loop⟩
    cases c with
    | skip=>rw [lF] at h; cases h; exact cn (hQ (_,_) (by simp))
    | ret=>rw [lF] at h; cases h; exact bW (hQ (_,_) (by simp))
    | exit id=>rw [lF] at h; cases h; exact eC (hQ (_,_) (by simp))
    | seq x y =>
      rw [lF] at h
      simp only [pg] at h
      obtain⟨l,h1,h2⟩:=iR h
      refine bC (K0 _ _ _ _ h1 ρ n0 _ hb fun o ho=>?_)
      obtain⟨e,s⟩:=o
      obtain⟨b',h3,h4⟩:=h2 _ ho
      cases e with
      | normal=>exact K0 _ _ _ _ h3 ρ n0 Q hb fun o' VZ=>hQ _ (h4 _ VZ)
      | _=>cases h3; exact hQ (_,_) (h4 _ (by simp))
    | cond x y z =>
      rw [lF] at h
      simp only [pg] at h
      split at h
      · rename_i t hx
        exact aV hx (K0 _ _ _ _ h ρ n0 Q hb hQ)
      · cases h
    | block id c =>
      rw [lF] at h
      simp only [pg] at h
      obtain⟨l,h1,h2⟩:=iR h
      refine bX (K0 _ _ _ _ h1 ρ n0 _ hb fun o ho=>?_)
      obtain⟨e,s⟩:=o
      obtain⟨b',h3,h4⟩:=h2 _ ho
      cases e with
      | exit j =>
        dsimp only at h3
        simp only [kg]
        split at h3
        · rename_i hj; cases h3; rw [if_pos hj]; exact hQ (_,_) (h4 _ (by simp))
        · rename_i hj; cases h3; rw [if_neg hj]; exact hQ (_,_) (h4 _ (by simp))
      | _=>cases h3; exact hQ (_,_) (h4 _ (by simp))
    | loop c=>exact rG (n+1) (loop _ _ _ _ h ρ n0 Q hb hQ)
    | region id ops d =>
      rw [lF] at h
      cases d with
      | false =>
        simp only [pg] at h
        split at h
        · rename_i l h1
          cases h
          exact mH ht (qv yI cO (I6 Mv (xd ht gI K0)) (KZ K0) h1 fun s hs=>hQ (_,_) (dv.2 ⟨s,hs,rfl⟩))
        · split at h
          · rename_i st' Ot
            obtain⟨l,h1,h2⟩:=iR h
            refine Ah Ot (mH ht (qv yI cO (I6 Mv (xd ht gI K0)) (KZ K0) h1 fun s hs=>?_))
            obtain⟨b',h3,h4⟩:=h2 _ hs
            cases h3
            exact hQ (_,_) (h4 _ (by simp))
          · cases h
      | true =>
        simp only [pg] at h
        have one:∀ (st:St) (outs:List (Exit×St)),(∀ o∈outs,Q o.1 o.2)→xb (T9 P tt nat mM rf (ev P tt pl nat mM rf n) ops st) (pl id ops)=some outs→eg P ρ n0 (.region id ops true) st Q:=fun st outs hQ h=>by
          obtain⟨p,-,hp⟩:=ye h
          unfold T9 at hp
          split at hp
          · rename_i fU
            split at hp
            · rename_i s hs
              cases hp
              exact pQ ht hm (O6 ops st p.1) p.2 fU (yc cO (T5 yI (Gj ht gI K0)) (O7 ht gI K0) (T7 (I6 Mv (xd ht gI K0))) hs (hQ (_,_) (by simp)))
            · cases hp
          · cases hp
        split at h
        · rename_i x hx; cases h; exact one st _ hQ hx
        · split at h
          · rename_i st' Ot
            exact Ah Ot (one st' _ hQ h)
          · cases h
    | rangeFunc f params assign body =>
      rw [lF] at h
      simp only [pg] at h
      split at h
      · cases h
      · rename_i hbf
        have hρ : ρ = none := by rcases hb with h | h
                                 · exact absurd h hbf
                                 · exact h
        subst hρ
        split at h
        · rename_i g vs hg
          obtain⟨l,h1,h2⟩:=iR h
          refine rK hg (xd ht gI K0 _ _ _ _ h1) fun r yG hr=>?_
          obtain⟨b',h3,h4⟩:=h2 _ hr
          dsimp only at h3
          split at h3
          · rename_i s nS fr' S5 S6 S7 hm2
            split at h3
            · rename_i wM
              refine⟨s,nS,fr',S5,S6,S7,hm2,(fun e=>by subst e; cases wM),?_⟩
              split at h3
              · rw [uf] at h3; cases h3; exact hQ (_,_) (h4 _ (by simp))
              · rename_i c
                rw [uf] at h3
                exact K0 _ _ _ _ h3 none n0 Q (.inr rfl) fun o' VZ=>hQ _ (h4 _ VZ)
            · cases h3
          · cases h3
        · cases h
    | _=>rw [lF] at h; simp [pg] at h

include hm in
theorem Wo (yI:pU P mM) (Mv:ki P rf) (cO:mL P nat) (n:Nat) {f:FuncId} {vs:List V} {r:V} (h:yd P tt (ev P tt pl nat mM rf n) f vs=some r):bR P f vs r:=Gj ht gI (Wn ht hm gI yI Mv cO n).1 f vs r h
include hm in
theorem Yu (yI:pU P mM) (Mv:ki P rf) (cO:mL P nat) (n:Nat) {f:FuncId} {vs:List V} {mem:List bm} {outs:List (V×List bm)} (h:S8 P tt (ev P tt pl nat mM rf n) f vs mem=some outs):eB P f vs mem fun r m=>(r,m)∈outs:=xd ht gI (Wn ht hm gI yI Mv cO n).1 f vs mem outs h
end
def ah0 (P:Program):Bool:=P.funcs.all fun fn=>fn.name != "runtime.NumGoroutine"
theorem O8 {P:Program} (h:ah0 P=true) (f:FuncId) (fn:Func) (body:Code) (hf:P.funcs[f]?=some fn) (hb:fn.body=some body) (xs:Array Value) (w:World):(callFunc f xs).run P w = .ok (.enter f xs) w:=by
  have ca:f<P.funcs.size:=(dN.1 hf).1;have hn:=(Array.all_eq_true.1 h) f ca;have hfe:P.funcs[f]=fn:=(dN.1 hf).2;rw [hfe] at hn;have ep:(fn.name == "runtime.NumGoroutine")=false:=by simpa using hn
  simp only [callFunc,program,Sem.run_bind];show (match P.funcs[f]? with | none=>_ | some fn=>_:Sem Next).run P w=_;rw [hf];dsimp only;rw [ep,hb];rfl
def Yv (l:List (Nat×Nat×Nat×List Pl)):F7:=fun id ops =>
  (l.filter fun e=>e.1==id&&e.2.1==ops.size).map fun e=>(e.2.2.2,e.2.2.1)
def I7:List V→Option V
  | [.sc (.string a),.sc (.string b)]=>if 2≤b.size∧LZ b.size=true∧a.size<4294967281 then
      (match (List.range (a.size+1-b.size)).find? fun i=>a.extract i (i+b.size)==b with
        | some i=>some (.sc (.int .i64 i))
        | none=>some (.sc (.int .i64 (-1)))) else none
  | _=>none
theorem Mw {P:Program} {f:FuncId} {fn:Func} {g:Nat} (hf:P.funcs[f]?=some fn) (hn:(fn.name == "runtime.NumGoroutine")=false) (hb:fn.body=none) (O9:Extern.findNext fn=none) (Fm:Extern.find fn=some Extern.BytealgIndex.index)
    (hg:∀ w,(globalAddr "internal/bytealg.MaxLen").run P w = .ok ⟨g,0,none⟩ w) (hG:bg.g=some g) {vs:List V} {r:V} (h:I7 vs=some r):rC P f vs r:=fun E w xs hF hx=>by
  unfold I7 at h
  split at h
  · rename_i a b
    split at h
    · rename_i hc
      obtain⟨h2,hm,ha⟩:=hc
      rw [Dw] at hm
      have hm:(b.size:Int)≤bg.n:=by simpa using hm
      obtain⟨x,r1,hy,It,hx⟩:=hx.of_cons
      obtain⟨y,r2,hz,Iz,hx⟩:=hx.of_cons
      have:=hx.of_nil
      subst this; subst hz
      obtain rfl:=gN It
      obtain rfl:=gN Iz
      obtain rfl:xs = #[.string a,.string b]:=by rw [← di (xs:=xs),hy]
      have uY:w.cell? ⟨g,0,none⟩=some (.int .i64 bg.n):=hF _ _ (E.gl.n g hG)
      have ah1:Extern.BytealgIndex.maxLen.run P w = .ok bg.n w:=by
        simp [Extern.BytealgIndex.maxLen,hg,load,Sem.run,uY,asInt,asIntOf]
      have gO:(Extern.BytealgIndex.index #[.string a,.string b]).run P w = .ok (match (List.range (a.size+1-b.size)).find? fun i=>a.extract i (i+b.size)==b with | some i=>goInt i | none=>goInt (-1)) w:=by
        show (do
          let a ← Extern.Bytes.bytesOf (.string a)
          let b ← Extern.Bytes.bytesOf (.string b)
          if b.size<2||(b.size:Int)>(← Extern.BytealgIndex.maxLen) then
            unsupported (.noEntry "extern/internal/bytealg.Index.length")
          if a.size≥2 ^ 32-15 then
            unsupported (.noEntry "extern/internal/bytealg.Index: a haystack of 2^32 - 15 bytes or more")
          match (List.range (a.size+1-b.size)).find? fun i=>a.extract i (i+b.size)==b with
          | some i=>pure (goInt i)
          | none=>pure (goInt (-1)):Sem Value).run P w=_
        have e1:(decide (b.size<2))=false:=by simp; omega
        have e2:decide ((b.size:Int)>bg.n)=false:=by simp; omega
        have e3:¬ a.size≥2 ^ 32-15:=by omega
        simp only [Extern.Bytes.bytesOf,Sem.run_bind,Sem.run_pure,Result.andThen_ok,ah1,e1,e2,bJ,cf,if_false,e3]
        split <;> rfl
      refine⟨(match (List.range (a.size+1-b.size)).find? fun i=>a.extract i (i+b.size)==b with | some i=>goInt i | none=>goInt (-1)),?_,?_⟩
      · simp only [callFunc,program,Sem.run_bind]
        show (match P.funcs[f]? with | none=>_ | some fn=>_:Sem Next).run P w=_
        rw [hf]
        dsimp only
        rw [hn,hb]
        simp only [cf,if_false,aaT,if_true,O9,Fm,Sem.run_bind,mark,Sem.run,Result.andThen_ok]
        rw [gO]; rfl
      · split at h
        · cases h; exact .sc _ _
        · cases h; exact .sc _ _
    · cases h
  · cases h
end Go.Eng
end
