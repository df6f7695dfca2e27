import Derived.Test.YtfbbfmcggbapoaaGreatDoorE3
open Array renaming getElem?_eq_some_iff→dw,toArray_toList→cr
open Bool renaming and_eq_true→aJ,false_eq_true→bu,or_self→cE
open List renaming all_eq_true→aN,any_eq_true→tP,ext_getElem?→dC,getD_eq_getElem?_getD→ey,getElem?_cons_succ→cO,getElem?_cons_zero→aF,getElem?_eq_getElem→au,getElem?_eq_none→cH,getElem?_map→aq,getElem?_set→bR,mem_append_left→dD,mem_append_right→eP,mem_cons→b8,mem_cons_of_mem→bj,mem_cons_self→cV,mem_map→cQ,mem_singleton→eX,not_mem_nil→ef
open Nat renaming lt_or_ge→bS,zero_add→dL
open Option renaming isNone_none→ac6,map_eq_some_iff→aY
open Option.some renaming injEq→aB
open Prod renaming ext→atQ
open Prod.mk renaming injEq→dn
set_option linter.all false
section
namespace Go.Eng
variable [ba]
abbrev Gi:=Nat→Array Oper→List (List Pl×Nat)
abbrev lA:=FuncId→List V→List bf→Option (List (V×List bf))
abbrev qo:=FuncId→List V→Option V
def mM (P:Program) (nat:qo):Prop:=∀ f vs r,nat f vs=some r→rL P f vs r
abbrev MU:=Nat→List V→List bf→Option (List (Bool×List bf))
abbrev pE:=Bool→Code→St→Option (List (Exit×St))
def pF {α β:Type} (x:Option (List α)) (f:α→Option (List β)):Option (List β) :=
  match x with
  | none=>none
  | some l=>l.foldr (fun a acc=>match f a,acc with|some b,some c=>some (b++c)|_,_=>none) (some [])
theorem CW {α β:Type} {f:α→Option (List β)}:∀ {l:List α} {out:List β},pF (some l) f=some out→∀ a∈l,∃ b,f a=some b∧∀ x∈b,x∈out
  | [],_,_,a,ha=>by simp at ha
  | c :: r,out,h,a,ha=>by
    simp only [pF,List.foldr_cons] at h
    split at h
    · rename_i b t hb hc
      cases h
      rcases b8.1 ha with rfl|ha
      · exact⟨b,hb,fun x hx=>dD _ hx⟩
      · obtain⟨b',h1,h2⟩:=CW (l:=r) (out:=t) hc a ha
        exact⟨b',h1,fun x hx=>eP _ (h2 x hx)⟩
    · cases h
theorem hD {α β:Type} {x:Option (List α)} {f:α→Option (List β)} {out:List β} (h:pF x f=some out):∃ l,x=some l∧∀ a∈l,∃ b,f a=some b∧∀ y∈b,y∈out:=by cases x with|none=>cases h|some l=>exact⟨l,rfl,CW h⟩
def P0 (st:St) (it:V) (str:Bool):Option (List (V×List bf)) :=
  match it with
  | .ptr b 0=>match st.mem[b]? with
    | some (.jg m since seen last)=>match st.mem[m]? with
      | some (.map dx clock)=>if str=false∧DW dx seen last=false then
          some ((if (z6 dx seen since).isEmpty then [(z7,st.mem)] else []) ++
            (z6 dx seen since++Ps dx seen since).map fun e=>(Pt e,st.mem.set b (.jg m since (seen++[e.2.1]) clock)))
        else none
      | _=>none
    | some (.mX s pos)=>if str=true then (if pos<s.size then some [(WN s pos,st.mem.set b (.mX s (pos+(Utf8.decode s pos).2)))] else some [(z7,st.mem)]) else none
    | some .nC=>if str=false then some [(z7,st.mem)] else none
    | _=>none
  | _=>none
theorem fp {α:Type} {Q:α→Prop} {a:α} (h:∀ p∈[a],Q p):Q a:=h a (eX.2 rfl)
theorem Gj {st:St} {dst:Option Tmp} {it:V} {str:Bool} {outs:List (V×List bf)} {Q:St→Prop} (h:P0 st it str=some outs) (hQ:∀ p∈outs,Q (St.put { st with mem:=p.2 } dst p.1)):vi st dst it str Q:=by
  unfold P0 at h;unfold vi;split at h;·split at h;(·rename_i h1;simp only [h1];split at h;(·rename_i h2;simp only [h2];split at h;(·rename_i h3;cases h;refine⟨h3.1,h3.2,fun he=>?_,fun e he=>?_⟩;(·have:=hQ (z7,st.mem) (by rw [he];exact dD _ (eX.2 rfl));exact this);·have:=hQ _ (eP _ (cQ.2 ⟨e,he,rfl⟩));exact this);·cases h);·cases h);(·rename_i h1;simp only [h1];split at h;(·rename_i h3;refine⟨h3,?_⟩;split at h;(·rename_i h4;cases h;rw [if_pos h4];exact (by have h9:=fp hQ;exact h9));·rename_i h4;cases h;rw [if_neg h4];exact (by have h9:=fp hQ;exact h9));·cases h);(·rename_i h1;simp only [h1];split at h;(·rename_i h3;cases h;exact⟨h3,(by have h9:=fp hQ;exact h9)⟩);·cases h);·cases h
  ·cases h
def aev (mH:FuncId→List V→Option V) (g:FuncId) (vs:List V) (st:St):Option (V×List bf) :=
  match ij st.mem vs with
  | some vs'=>match mH g vs' with
    | some r=>some (r,gQ st.mem (vs.flatMap gq) r)
    | none=>none
  | none=>none
def qR (P:Program) (mH:FuncId→List V→Option V):Prop:=∀ f vs r,mH f vs=some r→bJ P f vs r
def P1 (P:Program) (tt:Table) (nat:qo) (mH:FuncId→List V→Option V) (call:lA) (jK:MU) (key:Nat) (o:Oper) (st:St):Option (List (V×List bf)) :=
  match o.op with
  | .alloc T=>match tt T with
    | some i=>some [((.ptr key 0),da st.mem key (.box (i.zero.map V.sc)))]
    | none=>none
  | .box _ x=>match lr (st.eval x) with
    | some cs=>some [((.ptr key 0),da st.mem key (.box cs))]
    | none=>none
  | .build T parts=>match mL P tt T parts.toList st.eval with
    | some v=>some [(v,st.mem)]
    | none=>none
  | .buildSlice T len parts=>match w6 tt T len parts.toList st.eval with
    | some (size,rs)=>some [((.ms key 0 0 len),da st.mem key (.rows 0 size rs))]
    | none=>match Us tt T len parts.toList st with
      | some (size,rs)=>some [((.ms key 0 0 len),da (gu st.mem (DZ st.eval parts.toList)) key (.rows 0 size rs))]
      | none=>none
  | .store T p x=>match mJ tt st.mem T (st.eval p) (st.eval x) with
    | some bI=>some [((.sc undef),bI)]
    | none=>match D0 tt st.mem T (st.eval p) (st.eval x) with
      | some bI=>some [((.sc undef),bI)]
      | none=>none
  | .call { callee:=.builtin .append,args:=xs,argTypes:=ts }=>match xs.toList.map st.eval with
    | [s,x]=>match eM tt st.mem ts.toList s x with
      | some (size,rH,rows)=>some [((ew st.mem key size rows rH).2,(ew st.mem key size rows rH).1)]
      | none=>none
    | _=>none
  | .call { callee:=.value f,args:=xs,.. }=>match st.eval f with
    | .jK k=>match jK k (xs.toList.map st.eval) st.mem with
      | some outs=>some (outs.map fun p=>((.sc (.bool p.1)),p.2))
      | none=>none
    | fv=>match c6 fv (xs.toList.map st.eval) with
      | some (g,vs)=>match aev mH g vs st with
        | some (r,bI)=>some [(r,bI)]
        | none=>match call g vs st.mem with
          | some outs=>some (outs.map fun p=>(p.1,p.2))
          | none=>match nat g vs with
            | some r=>some [(r,st.mem)]
            | none=>none
      | none=>none
  | .makeSlice T l c=>match x7 tt T (st.eval l) (st.eval c) with
    | some (size,rs,_)=>some [((.ms key 0 0 rs.length),da st.mem key (.rows 0 size rs))]
    | none=>none
  | .makeMap _ none=>some [((.mp key),da st.mem key (.map [] 0))]
  | .mapUpdate T m k x=>match dB P st.mem T (st.eval m) (st.eval k) (st.eval x) with
    | some bI=>some [((.sc undef),bI)]
    | none=>none
  | .insert T m k x=>match dB P st.mem T (st.eval m) (st.eval k) (st.eval x) with
    | some bI=>some [((.sc undef),bI)]
    | none=>none
  | .mapEntry T m k=>match w7 P st.mem T (st.eval m) (st.eval k) with
    | some (bI,v)=>some [(v,bI)]
    | none=>none
  | .entryStore _ m s x=>match w8 st.mem (st.eval m) (st.eval s) (st.eval x) with
    | some bI=>some [((.sc undef),bI)]
    | none=>none
  | .call { callee:=.builtin .delete,args:=xs,argTypes:=ts }=>match tb P st.mem ts (xs.toList.map st.eval) with
    | some bI=>some [((.sc (.tuple #[])),bI)]
    | none=>none
  | .range T x=>match pn P st.mem T (st.eval x) with
    | some B=>some [((.ptr key 0),da st.mem key B)]
    | none=>none
  | .next it str=>P0 st (st.eval it) str
  | .binOp op T x y _=>match oO tt op T (st.eval x) (st.eval y) with
    | some n=>if n=0 then some [((.sc (.bool (qh op false))),st.mem),((.sc (.bool (qh op true))),st.mem)] else some [((.sc (.bool (qh op false))),st.mem)]
    | none=>match iq P tt st o with
      | some v=>some [(v,st.mem)]
      | none=>none
  | _=>match iq P tt st o with
    | some v=>some [(v,st.mem)]
    | none=>none
def kg (P:Program) (call:lA):Prop:=∀ f vs mem outs,call f vs mem=some outs→jh P f vs mem fun r m=>(r,m)∈outs
def P2 (P:Program) (jK:MU):Prop:=∀ k vs mem outs,jK k vs mem=some outs→ME P k vs mem fun b m=>(b,m)∈outs
theorem Gk {P:Program} {tt:Table} {nat:qo} {mH:FuncId→List V→Option V} {call:lA} {jK:MU} (Eb:qR P mH) (ub:mM P nat) (hc:kg P call) (hy:P2 P jK) {key:Nat} {o:Oper} {st:St} {outs:List (V×List bf)} {Q:St→Prop} (h:P1 P tt nat mH call jK key o st=some outs) (hQ:∀ p∈outs,Q (St.put { st with mem:=p.2 } o.dst p.1)) :
    cY P tt key o st Q:=by
  unfold P1 at h;unfold cY;split at h;·rename_i heq;rw [heq];dsimp only;split at h;(·rename_i h1;cases h;rw [h1];exact (by have h9:=fp hQ;exact h9));·cases h
  ·rename_i heq;rw [heq];dsimp only;split at h;(·rename_i h1;cases h;rw [h1];exact (by have h9:=fp hQ;exact h9));·cases h
  ·rename_i heq;rw [heq];dsimp only;split at h;(·rename_i h1;cases h;rw [h1];exact (by have h9:=fp hQ;exact h9));·cases h
  ·rename_i heq;rw [heq];dsimp only;split at h;(·rename_i h1;cases h;rw [h1];exact (by have h9:=fp hQ;exact h9));·rename_i h0;rw [h0];dsimp only;split at h;(·rename_i h1;cases h;rw [h1];exact (by have h9:=fp hQ;exact h9));·cases h
  ·rename_i heq;rw [heq];dsimp only;split at h;(·rename_i h1;cases h;rw [h1];exact (by have h9:=fp hQ;exact h9));·rename_i h0;rw [h0];dsimp only;split at h;(·rename_i h1;cases h;rw [h1];exact (by have h9:=fp hQ;exact h9));·cases h
  ·rename_i heq;rw [heq];dsimp only;split at h;(·rename_i h0;rw [h0];dsimp only;split at h;(·rename_i h1;cases h;rw [h1];exact (by have h9:=fp hQ;exact h9));·cases h);·cases h
  ·rename_i heq;rw [heq];dsimp only;split at h;(·rename_i k hk;rw [hk];dsimp only;split at h;(·rename_i os ho;cases h;exact .inr ⟨_,hy _ _ _ _ ho,fun b m hm=>(by have:=hQ _ (cQ.2 ⟨_,hm,rfl⟩);exact this)⟩);·cases h);·rename_i fv hfv;split at h;(·rename_i g vs hg;split at h;(·rename_i r bI MV;cases h;unfold aev at MV;split at MV;(·rename_i vs' MF;split at MV;(·rename_i r1 Cb;cases MV;split;(·rename_i k hk;exact absurd hk (hfv k));·rw [hg];exact .inl ⟨vs',_,MF,Eb _ _ _ Cb,(by have h9:=fp hQ;exact h9)⟩);·cases MV);·cases MV);·split at h;(·rename_i os ho;cases h;split;(·rename_i k hk;exact absurd hk (hfv k));·rw [hg];exact .inr (.inr (.inl ⟨_,hc _ _ _ _ ho,fun b m hm=>(by have:=hQ _ (cQ.2 ⟨_,hm,rfl⟩);exact this)⟩)));·split at h;(·rename_i r hr;cases h;split;(·rename_i k hk;exact absurd hk (hfv k));·rw [hg];exact .inr (.inr (.inr ⟨r,ub _ _ _ hr,(by have h9:=fp hQ;exact h9)⟩)));·cases h);·cases h
  ·rename_i heq;rw [heq];dsimp only;split at h;(·rename_i h1;cases h;rw [h1];exact (by have h9:=fp hQ;exact h9));·cases h
  ·rename_i heq;rw [heq];dsimp only;cases h;exact (by have h9:=fp hQ;exact h9)
  ·rename_i heq;rw [heq];dsimp only;split at h;(·rename_i h1;cases h;rw [h1];exact (by have h9:=fp hQ;exact h9));·cases h
  ·rename_i heq;rw [heq];dsimp only;split at h;(·rename_i h1;cases h;rw [h1];exact (by have h9:=fp hQ;exact h9));·cases h
  ·rename_i heq;rw [heq];dsimp only;split at h;(·rename_i h1;cases h;rw [h1];exact (by have h9:=fp hQ;exact h9));·cases h
  ·rename_i heq;rw [heq];dsimp only;split at h;(·rename_i h1;cases h;rw [h1];exact (by have h9:=fp hQ;exact h9));·cases h
  ·rename_i heq;rw [heq];dsimp only;split at h;(·rename_i h1;cases h;rw [h1];exact (by have h9:=fp hQ;exact h9));·cases h
  ·rename_i heq;rw [heq];dsimp only;split at h;(·rename_i h1;cases h;rw [h1];exact (by have h9:=fp hQ;exact h9));·cases h
  ·rename_i heq;rw [heq];dsimp only;exact Gj h hQ
  ·rename_i heq;rw [heq];dsimp only;split at h;(·rename_i n hn;rw [hn];dsimp only;intro b hb;split at h;(·cases h;cases b;(·have:=hQ _ (cV ..);exact this);·have:=hQ _ (bj _ (eX.2 rfl));exact this);·rename_i h0;cases h;rw [hb h0];exact (by have h9:=fp hQ;exact h9));·rename_i hn;rw [hn];dsimp only;split at h;(·rename_i h1;cases h;rw [h1];exact (by have h9:=fp hQ;exact h9));·cases h
  ·split at h;(·rename_i h1;cases h;split <;> first|(rw [h1];exact (by have h9:=fp hQ;exact h9))|(exfalso;solve_by_elim));·cases h
def P4 {α β:Type}:List α→(List α→β)→β
  | [],k=>k []
  | c :: r,k=>P4 r fun r'=>k (c :: r')
theorem qp {α β:Type}:∀ (l:List α) (k:List α→β),P4 l k=k l
  | [],_=>rfl
  | c :: r,k=>by rw [P4,qp r]
def lB {β:Type} (n:Nat) (k:Nat→β):β:=Nat.casesOn n (k 0) fun m=>k (Nat.succ m)
theorem iS {β:Type} (n:Nat) (k:Nat→β):lB n k=k n:=by cases n <;> rfl
def Zk {β:Type} (n:Int) (k:Int→β):β:=match n with|.ofNat m=>lB m fun m'=>k (.ofNat m')|.negSucc m=>lB m fun m'=>k (.negSucc m')
theorem UL {β:Type} (n:Int) (k:Int→β):Zk n k=k n:=by cases n <;> simp only [Zk,iS]
def IY {β:Type} (s:ByteArray) (k:ByteArray→β):β:=P4 s.data.toList fun l=>k ⟨⟨l⟩⟩
theorem MW {β:Type} (s:ByteArray) (k:ByteArray→β):IY s k=k s:=by rw [IY,qp]
def UM {β:Type} (v:Value) (k:Value→β):β :=
  match v with
  | .bool true=>k (.bool true)
  | .bool false=>k (.bool false)
  | .int t n=>Zk n fun n'=>k (.int t n')
  | .string s=>IY s fun s'=>k (.string s')
  | v=>k v
theorem K0 {β:Type} (v:Value) (k:Value→β):UM v k=k v:=by
  unfold UM;split;·rfl
  ·rfl
  ·rw [UL]
  ·rw [MW]
  ·rfl
def fW {β:Type} (v:V) (k:V→β):β :=
  match v with
  | .undef=>k .undef
  | .sc v=>k (.sc v)
  | .agg cs=>k (.agg cs)
  | .slice r=>k (.slice r)
  | .ms a b c d=>k (.ms a b c d)
  | .ptr a b=>k (.ptr a b)
  | .gJ a b c d=>k (.gJ a b c d)
  | .eY cs=>k (.eY cs)
  | .ia f a b=>k (.ia f a b)
  | .dR l=>k (.dR l)
  | .jK a=>k (.jK a)
  | .mp a=>k (.mp a)
  | .gn=>k .gn
  | .full r=>k (.full r)
theorem W5 {β:Type} (v:V) (k:V→β):fW v k=k v:=by cases v <;> rfl
def fWs {β:Type}:List V→(List V→β)→β
  | [],k=>k []
  | c :: r,k=>fW c fun c'=>fWs r fun r'=>k (c' :: r')
theorem Ec {β:Type}:∀ (l:List V) (k:List V→β),fWs l k=k l
  | [],_=>rfl
  | c :: r,k=>by rw [fWs,W5,Ec r]
mutual
def fV {β:Type}:V→(V→β)→β
  | .undef,k=>k .undef
  | .gn,k=>k .gn
  | .sc v,k=>UM v fun v'=>k (.sc v')
  | .agg cs,k=>K3 cs fun tW=>k (.agg tW)
  | .dR cs,k=>K3 cs fun tW=>k (.dR tW)
  | .slice cs,k=>K3 cs fun tW=>k (.slice tW)
  | .full cs,k=>K3 cs fun tW=>k (.full tW)
  | .eY cs,k=>K3 cs fun tW=>k (.eY tW)
  | .ia f a b,k=>K3 a fun a'=>K3 b fun b'=>k (.ia f a' b')
  | .ms a b c d,k=>lB a fun a'=>lB b fun b'=>lB c fun c'=>lB d fun d'=>k (.ms a' b' c' d')
  | .ptr a b,k=>lB a fun a'=>lB b fun b'=>k (.ptr a' b')
  | .gJ a b c d,k=>lB a fun a'=>lB b fun b'=>lB c fun c'=>lB d fun d'=>k (.gJ a' b' c' d')
  | .jK a,k=>lB a fun a'=>k (.jK a')
  | .mp a,k=>lB a fun a'=>k (.mp a')
def K3 {β:Type}:List V→(List V→β)→β
  | [],k=>k []
  | c :: r,k=>fV c fun c'=>K3 r fun r'=>k (c' :: r')
end
mutual
theorem Gm {β:Type}:∀ (v:V) (k:V→β),fV v k=k v
  | .undef,_=>by rw [fV]
  | .gn,_=>by rw [fV]
  | .sc v,k=>by rw [fV,K0]
  | .agg cs,k=>by rw [fV,qq cs]
  | .dR cs,k=>by rw [fV,qq cs]
  | .slice cs,k=>by rw [fV,qq cs]
  | .full cs,k=>by rw [fV,qq cs]
  | .eY cs,k=>by rw [fV,qq cs]
  | .ia f a b,k=>by rw [fV,qq a,qq b]
  | .ms a b c d,k=>by rw [fV,iS,iS,iS,iS]
  | .ptr a b,k=>by rw [fV,iS,iS]
  | .gJ a b c d,k=>by rw [fV,iS,iS,iS,iS]
  | .jK a,k=>by rw [fV,iS]
  | .mp a,k=>by rw [fV,iS]
theorem qq {β:Type}:∀ (l:List V) (k:List V→β),K3 l k=k l
  | [],_=>by rw [K3]
  | c :: r,k=>by rw [K3,Gm c,qq r]
end
def UN {β:Type}:List (Value×Nat×V)→(List (Value×Nat×V)→β)→β
  | [],k=>k []
  | (a,n,v) :: r,k=>UM a fun a'=>lB n fun n'=>fV v fun v'=>UN r fun r'=>k ((a',n',v') :: r')
theorem K4 {β:Type}:∀ (l:List (Value×Nat×V)) (k:List (Value×Nat×V)→β),UN l k=k l
  | [],_=>rfl
  | (a,n,v) :: r,k=>by rw [UN,K0,iS,Gm,K4 r]
def fB {β:Type} (B:bf) (k:bf→β):β :=
  match B with
  | .hole=>k .hole
  | .dead=>k .dead
  | .nC=>k .nC
  | .box cs=>K3 cs fun tW=>k (.box tW)
  | .rows v e rs=>lB v fun v'=>lB e fun e'=>K3 rs fun mv=>k (.rows v' e' mv)
  | .rv v e rs=>lB v fun v'=>lB e fun e'=>K3 rs fun mv=>k (.rv v' e' mv)
  | .loop s p fr ps a b=>k (.loop s p fr ps a b)
  | .map dx c=>UN dx fun kvs'=>lB c fun c'=>k (.map kvs' c')
  | .jg a b c d=>lB a fun a'=>lB b fun b'=>P4 c fun c'=>lB d fun d'=>k (.jg a' b' c' d')
  | .mX s p=>lB p fun p'=>k (.mX s p')
  | .nk T a b c=>lB a fun a'=>lB b fun b'=>lB c fun c'=>k (.nk T a' b' c')
  | .n7 T a O=>lB a fun a'=>k (.n7 T a' O)
theorem aew {β:Type} (B:bf) (k:bf→β):fB B k=k B:=by cases B <;> simp only [fB,qq,iS,K4,qp]
def IZ {β:Type}:List Nat→List bf→(List bf→β)→β
  | [],m,k=>P4 m k
  | i :: r,m,k=>match m[i]? with
    | some B=>fB B fun B'=>IZ r (m.set i B') k
    | none=>IZ r m k
theorem vJ {β:Type}:∀ (ks:List Nat) (m:List bf) (k:List bf→β),IZ ks m k=k m
  | [],m,k=>qp m k
  | i :: r,m,k=>by
    simp only [IZ]
    split
    · rename_i B hB
      rw [aew,vJ r]
      congr 1
      apply dC
      intro j
      rw [bR]
      split
      · rename_i Ig;subst Ig
        split
        · exact hB.symm
        · rename_i bQ;rw [cH (by omega)]
      · rfl
    · exact vJ r m k
def CX (o:Oper):Bool :=
  match o.op with
  | .move _|.assign _|.pick ..|.load ..|.extract ..|.nilCheck _|.field .. => true
  | _=>false
def fD {β:Type} (b:Bool) (v:V) (k:V→β):β:=match b with|true=>fW v k|false=>fV v k
theorem W6 {β:Type} (b:Bool) (v:V) (k:V→β):fD b v k=k v:=by cases b <;> simp only [fD,W5,Gm]
def UO {β:Type} (b:Bool) (d:Option Tmp) (ks:List Nat) (s:St) (k:St→β):β :=
  match d with
  | some d=>fD b (s.fr.getD d .undef) fun v=>P4 (if d<s.fr.length then s.fr.set d v else s.fr) fun fr=>IZ ks s.mem fun mem=>k { fr:=fr,mem:=mem }
  | none=>P4 s.fr fun fr=>IZ ks s.mem fun mem=>k { fr:=fr,mem:=mem }
theorem uE {β:Type} (b:Bool) (d:Option Tmp) (ks:List Nat) (s:St) (k:St→β):UO b d ks s k=k s:=by
  unfold UO;split;·rename_i d;rw [W6,qp,vJ];congr 1;split;(·rename_i hd;obtain⟨fr,mem⟩:=s;dsimp only at hd ⊢;congr 1;apply dC;intro j;rw [bR];split;(·rename_i Ig;subst Ig;rw [ey,au hd];rfl);·rfl);·rfl
  ·rw [qp,vJ]
def UP {β:Type}:List V→Nat→V→(List V→β)→β
  | [],_,_,k=>k []
  | _ :: r,0,v,k=>k (v :: r)
  | c :: r,d+1,v,k=>UP r d v fun r'=>k (c :: r')
theorem K5 {β:Type}:∀ (l:List V) (d:Nat) (v:V) (k:List V→β),UP l d v k=k (l.set d v)
  | [],_,_,_=>rfl
  | _ :: _,0,_,_=>rfl
  | c :: r,d+1,v,k=>by rw [UP,K5 r];rfl
def K6 {β:Type} (ks:List Nat) (m:List bf) (k:List bf→β):β:=match ks with|[]=>k m|_ :: _=>IZ ks m k
theorem Gn {β:Type} (ks:List Nat) (m:List bf) (k:List bf→β):K6 ks m k=k m:=by
  unfold K6;split;·rfl
  ·rw [vJ]
def Zl {β:Type} (b:Bool) (d:Option Tmp) (ks:List Nat) (st:St) (v:V) (m:List bf) (k:St→β):β :=
  match d with
  | some d=>fD b v fun v=>UP st.fr d v fun fr=>K6 ks m fun mem=>k { fr:=fr,mem:=mem }
  | none=>K6 ks m fun mem=>k { fr:=st.fr,mem:=mem }
theorem UQ {β:Type} (b:Bool) (d:Option Tmp) (ks:List Nat) (st:St) (v:V) (m:List bf) (k:St→β):Zl b d ks st v m k=k (St.put { st with mem:=m } d v):=by
  unfold Zl;split;·rw [W6,K5,Gn];rfl
  ·rw [Gn];rfl
def P5:V→List Nat
  | .ptr b _=>[b]
  | .gJ b _ _ _=>[b]
  | .ms b _ _ _=>[b]
  | .mp b=>[b]
  | _=>[]
def K7 (key:Nat) (o:Oper) (st:St):List Nat :=
  match o.op with
  | .alloc _|.box ..|.buildSlice ..|.makeMap ..|.makeSlice ..|.range .. => [key]
  | .store _ p _=>P5 (st.eval p)
  | .call { callee:=.builtin .append,args:=xs,.. }=>match xs.toList with|s :: _=>key :: P5 (st.eval s)|_=>[]
  | .call { callee:=.builtin .delete,args:=xs,.. }=>match xs.toList with|s :: _=>P5 (st.eval s)|_=>[]
  | .mapUpdate _ m _ _|.insert _ m _ _|.mapEntry _ m _|.entryStore _ m _ _=>P5 (st.eval m)
  | .call { callee:=.value _,.. }=>[0]
  | .next it _=>P5 (st.eval it)
  | _=>[]
def MX (P:Program) (tt:Table) (nat:qo) (mH:FuncId→List V→Option V) (call:lA) (jK:MU) (all:Array Oper):List Oper→St→Option (List St)
  | [],st=>some [st]
  | o :: r,st=>match fC all st.fr o with
    | some true=>pF (P1 P tt nat mH call jK st.mem.length o st) fun p=>Zl (CX o) o.dst (K7 st.mem.length o st) st p.1 p.2 fun s'=>MX P tt nat mH call jK all r s'
    | some false=>MX P tt nat mH call jK all r (st.put o.dst (.sc undef))
    | none=>none
theorem qs {P:Program} {tt:Table} {nat:qo} {mH:FuncId→List V→Option V} (Eb:qR P mH) {call:lA} {jK:MU} (ub:mM P nat) (hc:kg P call) (hy:P2 P jK) {all:Array Oper} {Q:St→Prop}:∀ {l:List Oper} {st:St} {outs:List St},MX P tt nat mH call jK all l st=some outs→(∀ s∈outs,Q s)→eV P tt all l st Q
  | [],st,outs,h,hQ=>by cases h;exact hQ _ (by simp)
  | o :: r,st,outs,h,hQ=>by
    simp only [MX] at h
    simp only [eV]
    split at h
    · rename_i hw
      rw [hw]
      obtain⟨l,h1,h2⟩:=hD h
      refine Gk Eb ub hc hy h1 fun s hs=>?_
      obtain⟨b,h3,h4⟩:=h2 s hs
      rw [UQ] at h3
      exact qs Eb ub hc hy h3 fun s' pY=>hQ _ (h4 _ pY)
    · rename_i hw
      rw [hw]
      exact qs Eb ub hc hy h hQ
    · cases h
def gw:Nat→List bf→List (Nat×Nat)
  | _,[]=>[]
  | i,.rows v _ _ :: r=>(i,v) :: gw (i+1) r
  | i,.rv v _ _ :: r=>(i,v) :: gw (i+1) r
  | i,_ :: r=>gw (i+1) r
theorem qt:∀ {m:List bf} {n k v e:Nat} {rs:List V},(m[k]?=some (.rows v e rs)∨m[k]?=some (.rv v e rs))→(n+k,v)∈gw n m
  | [],n,k,v,e,rs,h=>by simp at h
  | B :: r,n,0,v,e,rs,h=>by
    simp only [aF,aB] at h
    rcases h with rfl|rfl <;> simp [gw]
  | B :: r,n,k+1,v,e,rs,h=>by
    simp only [cO] at h
    have:=qt (n:=n+1) h
    rw [show n+1+k=n+(k+1) from by omega] at this
    cases B <;> simp only [gw] <;> first|exact this|exact bj _ this
def ml (mem:List bf) (v:V):V:=match eN mem v with|some v'=>v'|none=>v
def Zm (mem:List bf):V→V
  | .agg cs=>.agg (cs.map (ml mem))
  | .dR vs=>.dR (vs.map fun v=>match v with|.agg cs=>.agg (cs.map (ml mem))|v=>ml mem v)
  | v=>ml mem v
def Ay (mem:List bf):bf→bf
  | .box cs=>.box (cs.map (ml mem))
  | B=>B
def Gp (st:St):Option St :=
  let keys:=gw 0 st.mem
  match ij st.mem (keys.map fun (k:Nat×Nat)=>V.ms k.1 k.2 0 0) with
  | some _=>some { fr:=st.fr.map (Zm st.mem),mem:=(gu st.mem keys).map (Ay st.mem) }
  | none=>none
theorem K8:∀ (keys:List (Nat×Nat)),(keys.map fun (k:Nat×Nat)=>V.ms k.1 k.2 0 0).flatMap gq=keys
  | []=>rfl
  | k :: r=>by simp [gq,j5,K8 r]
theorem MY {mem:List bf} {B:bf} (h:∀ cs,B ≠ .box cs):Ay mem B=B:=by cases B <;> first|rfl|exact absurd rfl (h _)
theorem I0 (mem:List bf) (B:bf):(Ay mem B).dI=B.dI:=by cases B <;> rfl
theorem Gq {E:Env} {w:World} {a:Act} {st st':St} (hs:c5 E w a st) (h:Gp st=some st'):∃ E',c5 E' w a st'∧gK E w E' w:=by
  unfold Gp at h;dsimp only at h;split at h;·rename_i vs' hp;cases h;obtain⟨ks,K9⟩:∃ ks,ks=((gw 0 st.mem).map (fun (k:Nat×Nat)=>V.ms k.1 k.2 0 0)).flatMap gq:=⟨_,rfl⟩;(have aex:gK E w (E.pX w ks) w∧c5 (E.pX w ks) w a { st with mem:=gu st.mem ks }:=by subst K9;obtain⟨hg,h1,h2⟩:=Ad hs hp (F':=(E.pX w (((gw 0 st.mem).map (fun (k:Nat×Nat)=>V.ms k.1 k.2 0 0)).flatMap gq)).F) (fun _ _ h=>h) (fun ad y h=>Env.KO hs.F h) (fun _ _ h=>.inl h) (Go.RowKit.Below.refl _ w);exact⟨h1,h2⟩);rw [K8] at K9;subst K9;obtain⟨fK,nV⟩:=aex;(have pj:∀ {v:V} {x:Value},cT E v x→cT (E.pX w (gw 0 st.mem)) (ml st.mem v) x:=fun {v x} hr=>by unfold ml;split;(·rename_i v' hv;refine (oN hs hr hv fun k hk=>?_).mono (Env.sY _);cases v <;> simp only [j5,eX,ef] at hk;subst hk;simp only [eN] at hv;split at hv;(·rename_i hm;split at hv;(·rename_i hc;have:=qt (n:=0) (.inl hm);rw [dL,hc.1] at this;exact this);·cases hv);(·rename_i hm;split at hv;(·rename_i hc;have:=qt (n:=0) (.inr hm);rw [dL,hc.1] at this;exact this);·cases hv);·cases hv);·exact hr.mono (Env.w9 E w _));(have Uq:∀ {cs:List V} {xs:List Value},cU E cs xs→cU (E.pX w (gw 0 st.mem)) (cs.map (ml st.mem)) xs:=fun {cs xs} hr=>by refine⟨by simpa using hr.1,fun i c x hc hx=>?_⟩;simp only [aq,aY] at hc;obtain⟨c0,Fl,rfl⟩:=hc;exact pj (hr.2 i c0 x Fl hx));(have h1:∀ {v:V} {x:Value},cT E v x→cT (E.pX w (gw 0 st.mem)) (match v with|.agg cs=>.agg (cs.map (ml st.mem))|v=>ml st.mem v) x:=fun {v x} hr=>by split;(·rename_i cs;cases hr with|agg _ cs xs hl hh =>have:=Uq (cs:=cs) (xs:=xs.toList) ⟨by simpa using hl,fun i c x hc hx=>hh i c x hc (by simpa using hx)⟩;exact .agg _ _ _ (by simpa using this.1) fun i c x hc hx=>this.2 i c x hc (by simpa using hx));·exact pj hr);(have hV:∀ {v:V} {x:Value},cT E v x→cT (E.pX w (gw 0 st.mem)) (Zm st.mem v) x:=fun {v x} hr=>by unfold Zm;split;(·exact h1 (v:=.agg _) hr);(·rename_i vs;cases hr with|dR _ vs xs hl hh =>refine .dR _ _ _ (by simpa using hl) fun i c x hc hx=>?_;simp only [aq,aY] at hc;obtain⟨c0,Fl,rfl⟩:=hc;exact h1 (hh i c0 x Fl hx));·exact pj hr);refine⟨_,⟨nV.F,nV.lt,fun k B hk=>?_,fun k hk=>nV.top k (by simpa using hk),fun k B hk v hv=>?_,nV.apart,⟨by simpa using hs.fr.1,fun i v x hv hx=>?_⟩⟩,fK⟩;(·simp only [aq,aY] at hk;obtain⟨B0,KP,rfl⟩:=hk;have h0:=nV.mem k B0 KP;by_cases aey:∃ cs,B0 = .box cs;(·obtain⟨cs,rfl⟩:=aey;(have hold:st.mem[k]?=some (.box cs):=by rw [ux] at KP;cases ON:st.mem[k]? with|none=>rw [ON] at KP;simp [qP] at KP|some B1 =>rw [ON] at KP;cases B1 <;> simp only [qP] at KP <;> first|exact KP|(split at KP <;> cases KP));obtain⟨g,T,xs,q1,q2,q3,q4⟩:=h0;obtain⟨g',T',vj,r1,r2,r3,r4⟩:=hs.mem k _ hold;(have:g=g':=by have:=fK.le.cn _ _ _ r1;have e:(E.pX w (gw 0 st.mem)).cn k 0=some (g,0,0):=q1;have e2:(E.pX w (gw 0 st.mem)).cn k 0=some (g',0,0):=this;rw [e] at e2;cases e2;rfl);subst this;rw [r2] at q2;cases q2;exact⟨g,T,xs,q1,r2,Uq r3,q4⟩);·rw [MY fun cs e=>aey ⟨cs,e⟩];exact h0);(·simp only [aq,aY] at hk;obtain⟨B0,KP,rfl⟩:=hk;rw [I0] at hv;exact nV.dI k B0 KP v hv);·simp only [aq,aY] at hv;obtain⟨v0,Iv,rfl⟩:=hv;exact hV (hs.fr.2 i v0 x Iv hx)
  ·cases h
theorem Az {P:Program} {ρ:Option Nat} {n0:Nat} {c:Code} {st st':St} {Q:Exit→St→Prop} (hf:Gp st=some st') (h:dS P ρ n0 c st' Q):dS P ρ n0 c st Q:=fun E0 w0 h0 E w a he hs oP=>by obtain⟨E',h1,h2⟩:=Gq hs hf;exact h E0 w0 h0 E' w a (he.trans h2) h1 (oP.PF h2)
abbrev pG:=FuncId→List V→Option V
abbrev ym:=FuncId→List V→Option (Nat×List V)
def Ed (P:Program) (live:ym):Prop:=∀ f vs e rs,live f vs=some (e,rs)→Ak P f vs e rs
def I1 (live:ym) (o:Oper) (key:Nat) (st:St):Option St :=
  match o.op with
  | .call { callee:=.value f,args:=xs,.. }=>match c6 (st.eval f) (xs.toList.map st.eval) with
    | some (g,vs)=>match ij [] vs with
      | some vs'=>match live g vs' with
        | some (e,rs)=>some (Al st key o.dst e rs)
        | none=>none
      | none=>none
    | none=>none
  | _=>none
theorem Ee {P:Program} {live:ym} (hl:Ed P live) {o:Oper} {key:Nat} {st s:St} {Q:St→Prop} (h:I1 live o key st=some s) (hQ:Q s):uC P o key st Q:=by
  unfold I1 at h;unfold uC;split at h;·rename_i heq;rw [heq];dsimp only;split at h;(·rename_i g vs hg;rw [hg];dsimp only;split at h;(·rename_i vs' hv;split at h;(·rename_i e rs hr;cases h;exact⟨vs',e,rs,hv,hl _ _ _ _ hr,hQ⟩);·cases h);·cases h);·cases h
  ·cases h
def uF (P:Program) (pure:pG):Prop:=∀ f vs r,pure f vs=some r→bJ P f vs r
def UR (P:Program) (tt:Table) (nat:qo) (pure:pG) (o:Oper) (Ck st:St):Option St :=
  match o.op with
  | .call { callee:=.value f,args:=xs,.. }=>match c6 (Ck.eval f) (xs.toList.map Ck.eval) with
    | some (g,vs)=>match ij [] vs with
      | some vs'=>match pure g vs' with
        | some r=>some (st.put o.dst r)
        | none=>match nat g vs' with
          | some r=>some (st.put o.dst r)
          | none=>none
      | none=>none
    | none=>none
  | _=>match yO P tt o Ck with
    | some v=>some (st.put o.dst v)
    | none=>none
theorem AA {P:Program} {tt:Table} {nat:qo} (ub:mM P nat) {pure:pG} (hp:uF P pure) {o:Oper} {Ck st s:St} {Q:St→Prop} (h:UR P tt nat pure o Ck st=some s) (hQ:Q s):oS P tt o Ck st Q:=by
  unfold UR at h;unfold oS;split at h;·rename_i heq;rw [heq];dsimp only;split at h;(·rename_i g vs hg;rw [hg];dsimp only;split at h;(·rename_i vs' hv;split at h;(·rename_i r hr;cases h;exact⟨vs',r,hv,.inl (hp _ _ _ hr),hQ⟩);·split at h;(·rename_i r hr;cases h;exact⟨vs',r,hv,.inr (ub _ _ _ hr),hQ⟩);·cases h);·cases h);·cases h
  ·split at h;(·rename_i h1;cases h;split;(·exfalso;solve_by_elim);·rw [h1];exact hQ);·cases h
def I2 (pure:pG) (o:Oper) (st:St):Option St :=
  match o.op with
  | .call { callee:=.value f,args:=xs,.. }=>match c6 (st.eval f) (xs.toList.map st.eval) with
    | some (g,vs)=>match ij st.mem vs with
      | some vs'=>match pure g vs' with
        | some r=>some (St.put { st with mem:=gQ st.mem (vs.flatMap gq) r } o.dst r)
        | none=>none
      | none=>none
    | none=>none
  | _=>none
theorem Ef {P:Program} {pure:pG} (hp:uF P pure) {o:Oper} {st s:St} {Q:St→Prop} (h:I2 pure o st=some s) (hQ:Q s):oo P o st Q:=by
  unfold I2 at h;unfold oo;split at h;·rename_i f xs ts jv;split at h;(·rename_i g vs hg;split at h;(·rename_i vs' hv;split at h;(·rename_i r hr;cases h;rw [jv];dsimp only;rw [hg];exact .inl ⟨vs',r,hv,hp _ _ _ hr,hQ⟩);·cases h);·cases h);·cases h
  ·cases h
abbrev Gr:=FuncId→List V→Nat→List bf→Option (V×bf)
def La (P:Program) (Gs:Gr):Prop:=∀ f vs k mem v B,Gs f vs k mem=some (v,B)→∃ B0,mem[k]?=some B0∧B0.dI=0∧B.dI=0∧bo P f vs mem v (mem.set k B)
def I3 (Gs:Gr) (o:Oper) (k:Nat) (st:St):Option St :=
  match o.op with
  | .call { callee:=.value f,args:=xs,.. }=>match c6 (st.eval f) (xs.toList.map st.eval) with
    | some (g,vs)=>match Gs g vs k st.mem with
      | some (v,B)=>some (St.put { st with mem:=st.mem.set k B } o.dst v)
      | none=>none
    | none=>none
  | _=>none
theorem Eg {P:Program} {tt:Table} {Gs:Gr} (he:La P Gs) {o:Oper} {k:Nat} {st s:St} {Q:St→Prop} (h:I3 Gs o k st=some s) (hQ:Q s):vt false P tt o k st Q:=by
  unfold I3 at h;unfold vt;split at h;·rename_i f xs ts jv;split at h;(·rename_i g vs hg;split at h;(·rename_i v B hb;cases h;obtain⟨B0,h1,h2,h3,h4⟩:=he _ _ _ _ _ _ hb;rw [jv];dsimp only;rw [hg];exact⟨v,B0,B,h2,h3,h1,⟨h4,fun h=>by cases h⟩,hQ⟩);·cases h);·cases h
  ·cases h
def I4 (P:Program) (tt:Table) (nat:qo) (pure:pG) (live:ym) (Gs:Gr) (all:Array Oper) (base:Nat) (o:Oper) (p:Pl) (st:St):Option St :=
  match fC all st.fr o with
  | some true=>match p.cls with
    | .n=>UR P tt nat pure o { st with mem:=[] } st
    | .r=>UR P tt nat pure o { st with mem:=eg (p.mask.map (base + ·)++p.abs) st.mem } st
    | .a=>if isHole st.mem (base+p.key)=true then (match gv tt o (base+p.key) st with
      | some (B,v)=>some (St.put { st with mem:=st.mem.set (base+p.key) B } o.dst v)
      | none=>I1 live o (base+p.key) st) else none
    | .w=>if isHole st.mem (base+p.key)=true then (match nY P tt (base+p.key) o st with
      | some (m,v)=>some (St.put { st with mem:=m } o.dst v)
      | none=>none) else none
    | .s=>match rb tt (base+p.key) o st with
      | some m=>some (St.put { st with mem:=m } o.dst (.sc undef))
      | none=>none
    | .b=>match nJ tt o { st with mem:=eg (p.mask.map (base + ·)) st.mem } with
      | some v=>some (st.put o.dst v)
      | none=>none
    | .z=>I2 pure o st
    | .e=>if p.mask.isEmpty=true then (match rb tt p.key o st with
      | some m=>some (St.put { st with mem:=m } o.dst (.sc undef))
      | none=>I3 Gs o p.key st) else none
  | some false=>some (st.put o.dst (.sc undef))
  | none=>none
theorem Eh {P:Program} {tt:Table} {nat:qo} (ub:mM P nat) {pure:pG} {live:ym} {Gs:Gr} (hp:uF P pure) (hl:Ed P live) (hE:La P Gs) {all:Array Oper} {base:Nat} {o:Oper} {p:Pl} {st s:St} {Q:St→Prop} (h:I4 P tt nat pure live Gs all base o p st=some s) (hQ:Q s):fq P tt all base o p st Q:=by
  unfold I4 at h;unfold fq;split at h;·rename_i hw;rw [hw];dsimp only;split at h;(·rename_i mf;rw [mf];exact AA ub hp h hQ);(·rename_i mf;rw [mf];exact AA ub hp h hQ);(·rename_i mf;rw [mf];dsimp only;split at h;(·rename_i hh;refine⟨hh,?_⟩;split at h;(·rename_i h1;cases h;rw [h1];exact hQ);·rename_i h1;rw [h1];exact Ee hl h hQ);·cases h);(·rename_i mf;rw [mf];dsimp only;split at h;(·rename_i hh;refine⟨hh,?_⟩;split at h;(·rename_i h1;cases h;rw [h1];exact hQ);·cases h);·cases h);(·rename_i mf;rw [mf];dsimp only;split at h;(·rename_i h1;cases h;rw [h1];exact hQ);·cases h);(·rename_i mf;rw [mf];dsimp only;split at h;(·rename_i h1;cases h;rw [h1];exact hQ);·cases h);(·rename_i mf;rw [mf];exact Ef hp h hQ);·rename_i mf;rw [mf];dsimp only;split at h;(·rename_i hme;rw [hme];split at h;(·rename_i m h1;cases h;unfold vt;split;(·rename_i f xs ts jv;unfold rb at h1;rw [jv] at h1;cases h1);·rw [h1];exact hQ);·exact Eg hE h hQ);·cases h
  ·rename_i hw;rw [hw];cases h;exact hQ
  ·cases h
def Gt (P:Program) (tt:Table) (nat:qo) (pure:pG) (live:ym) (Gs:Gr) (all:Array Oper) (base:Nat):List Oper→List Pl→St→Option St
  | [],_,st=>some st
  | o :: r,p :: ps,st=>match I4 P tt nat pure live Gs all base o p st with
    | some s=>UO (CX o) o.dst (K7 (base+p.key) o st) s fun s'=>Gt P tt nat pure live Gs all base r ps s'
    | none=>none
  | _ :: _,[],_=>none
theorem yn {P:Program} {tt:Table} {nat:qo} (ub:mM P nat) {pure:pG} {live:ym} {Gs:Gr} (hp:uF P pure) (hl:Ed P live) (hE:La P Gs) {all:Array Oper} {base:Nat} {Q:St→Prop}:∀ {l:List Oper} {ps:List Pl} {st s:St},Gt P tt nat pure live Gs all base l ps st=some s→Q s→runM P tt all base l ps st Q
  | [],_,st,s,h,hQ=>by cases h;exact hQ
  | o :: r,p :: ps,st,s,h,hQ=>by
    simp only [Gt] at h
    simp only [runM]
    split at h
    · rename_i s1 h1
      rw [uE] at h
      exact Eh ub hp hl hE h1 (yn ub hp hl hE h hQ)
    · cases h
  | _ :: _,[],_,_,h,_=>by simp [Gt] at h
mutual
def Zn:V→Nat
  | .ms b _ _ _|.ptr b _|.jK b|.mp b|.gJ b _ _ _=>b+1
  | .agg cs|.dR cs=>MZ cs
  | .ia _ a b=>max (MZ a) (MZ b)
  | _=>0
def MZ:List V→Nat
  | []=>0
  | c :: r=>max (Zn c) (MZ r)
end
def aku:bf→Nat
  | .box cs=>MZ cs
  | .loop _ _ fr _ _ _=>MZ fr
  | .map dx _=>dx.foldr (fun k n=>max (Zn k.2.2) n) 0
  | .jg m _ _ _=>m+1
  | _=>0
def aez (l:List bf):Nat:=l.foldr (fun B n=>max (aku B) n) 0
def Zo:Nat→Nat→List bf→Nat
  | 0,n,_=>n
  | k+1,n,mem=>let m:=max n (aez (mem.take n));if m=n then n else Zo k m mem
def aeA (lo:Nat) (r:V) (mem:List bf):Option (V×List bf) :=
  let n:=Zo 8 (max lo (Zn r)) mem
  if lo≤n∧aI n r=true∧(mem.take n).all (aL n)=true then some (r,mem.take n) else none
def zi:Exit→Bool
  | .ret=>true
  | .normal=>true
  | _=>false
def Lc:Value→Value→Bool
  | .agg a,.agg b=>oi a.toList b.toList
  | .tuple a,.tuple b=>oi a.toList b.toList
  | .func (.func f) a b,.func (.func g) c d=>f==g&&a.isEmpty&&b.isEmpty&&c.isEmpty&&d.isEmpty
  | a,b=>D3 a b
theorem Gu {a b:Value} (h:Lc a b=true):a=b:=by
  unfold Lc at h;split at h;·rename_i x y;rw [← cr (xs:=x),qk h,cr]
  ·rename_i x y;rw [← cr (xs:=x),qk h,cr]
  ·simp only [aJ,beq_iff_eq,Array.isEmpty_iff] at h;obtain⟨⟨⟨⟨rfl,rfl⟩,rfl⟩,rfl⟩,rfl⟩:=h;rfl
  ·exact CM h
mutual
def kO:V→V→Bool
  | .undef,.undef=>true
  | .gn,.gn=>true
  | .sc a,.sc b=>Lc a b
  | .agg a,.agg b=>jO a b
  | .dR a,.dR b=>jO a b
  | .slice a,.slice b=>jO a b
  | .full a,.full b=>jO a b
  | .eY a,.eY b=>jO a b
  | .ms a b c d,.ms a' b' c' d'=>a==a'&&b==b'&&c==c'&&d==d'
  | .ptr a b,.ptr a' b'=>a==a'&&b==b'
  | .gJ a b c d,.gJ a' b' c' d'=>a==a'&&b==b'&&c==c'&&d==d'
  | .mp a,.mp b=>a==b
  | .jK a,.jK b=>a==b
  | .ia (.func f) a b,.ia (.func g) c d=>f==g&&jO a c&&jO b d
  | _,_=>false
def jO:List V→List V→Bool
  | [],[]=>true
  | a :: r,b :: s=>kO a b&&jO r s
  | _,_=>false
end
mutual
theorem vK:∀ {a b:V},kO a b=true→a=b
  | .undef,b,h=>by cases b <;> simp [kO] at h <;> rfl
  | .gn,b,h=>by cases b <;> simp [kO] at h <;> rfl
  | .sc a,b,h=>by
    cases b <;> simp only [kO,bu] at h
    rw [Gu h]
  | .agg a,b,h=>by
    cases b <;> simp only [kO,bu] at h
    rw [gg h]
  | .dR a,b,h=>by
    cases b <;> simp only [kO,bu] at h
    rw [gg h]
  | .slice a,b,h=>by
    cases b <;> simp only [kO,bu] at h
    rw [gg h]
  | .full a,b,h=>by
    cases b <;> simp only [kO,bu] at h
    rw [gg h]
  | .eY a,b,h=>by
    cases b <;> simp only [kO,bu] at h
    rw [gg h]
  | .ms _ _ _ _,b,h=>by
    cases b <;> simp only [kO,bu,aJ,beq_iff_eq] at h
    obtain⟨⟨⟨rfl,rfl⟩,rfl⟩,rfl⟩:=h;rfl
  | .ptr _ _,b,h=>by
    cases b <;> simp only [kO,bu,aJ,beq_iff_eq] at h
    obtain⟨rfl,rfl⟩:=h;rfl
  | .gJ _ _ _ _,b,h=>by
    cases b <;> simp only [kO,bu,aJ,beq_iff_eq] at h
    obtain⟨⟨⟨rfl,rfl⟩,rfl⟩,rfl⟩:=h;rfl
  | .mp _,b,h=>by
    cases b <;> simp only [kO,bu,beq_iff_eq] at h
    rw [h]
  | .jK _,b,h=>by
    cases b <;> simp only [kO,bu,beq_iff_eq] at h
    rw [h]
  | .ia f a c,b,h=>by
    cases b with
    | ia g a' c' =>
      cases f <;> cases g <;> simp only [kO,bu,aJ,beq_iff_eq] at h
      obtain⟨⟨rfl,h1⟩,h2⟩:=h
      rw [gg h1,gg h2]
    | _=>cases f <;> simp [kO] at h
theorem gg:∀ {a b:List V},jO a b=true→a=b
  | [],b,h=>by cases b <;> simp [jO] at h <;> rfl
  | c :: r,b,h=>by
    cases b with
    | nil=>simp [jO] at h
    | cons d s =>
      simp only [jO,aJ] at h
      rw [vK h.1,gg h.2]
end
def tf:List (Value×Nat×V)→List (Value×Nat×V)→Bool
  | [],[]=>true
  | a :: r,b :: s=>Lc a.1 b.1&&a.2.1==b.2.1&&kO a.2.2 b.2.2&&tf r s
  | _,_=>false
theorem AB:∀ {a b:List (Value×Nat×V)},tf a b=true→a=b
  | [],[],_=>rfl
  | (k,n,v) :: r,(k',n',v') :: s,h=>by
    simp only [tf,aJ,beq_iff_eq] at h
    obtain⟨⟨⟨h1,h2⟩,h3⟩,h4⟩:=h
    rw [Gu h1,h2,vK h3,AB h4]
  | [],_ :: _,h=>by simp [tf] at h
  | _ :: _,[],h=>by simp [tf] at h
def P6:bf→bf→Bool
  | .hole,.hole=>true
  | .dead,.dead=>true
  | .nC,.nC=>true
  | .box a,.box b=>jO a b
  | .rows v e a,.rows v' e' b=>v==v'&&e==e'&&jO a b
  | .rv v e a,.rv v' e' b=>v==v'&&e==e'&&jO a b
  | .map a c,.map b d=>c==d&&tf a b
  | .jg a b c d,.jg a' b' c' d'=>a==a'&&b==b'&&c==c'&&d==d'
  | _,_=>false
theorem P7 {a b:bf} (h:P6 a b=true):a=b:=by
  unfold P6 at h;split at h;·rfl
  ·rfl
  ·rfl
  ·rw [gg h]
  ·simp only [aJ,beq_iff_eq] at h;obtain⟨⟨rfl,rfl⟩,h⟩:=h;rw [gg h]
  ·simp only [aJ,beq_iff_eq] at h;obtain⟨⟨rfl,rfl⟩,h⟩:=h;rw [gg h]
  ·simp only [aJ,beq_iff_eq] at h;obtain⟨rfl,h⟩:=h;rw [AB h]
  ·simp only [aJ,beq_iff_eq] at h;obtain⟨⟨⟨rfl,rfl⟩,rfl⟩,rfl⟩:=h;rfl
  ·cases h
def r7:List bf→List bf→Bool
  | [],[]=>true
  | a :: r,b :: s=>P6 a b&&r7 r s
  | _,_=>false
theorem tg:∀ {a b:List bf},r7 a b=true→a=b
  | [],[],_=>rfl
  | x :: r,y :: s,h=>by simp only [r7,aJ] at h;rw [P7 h.1,tg h.2]
  | [],_ :: _,h=>by simp [r7] at h
  | _ :: _,[],h=>by simp [r7] at h
def dedup:List (V×List bf)→List (V×List bf)
  | []=>[]
  | p :: r=>if (dedup r).any (fun q=>kO p.1 q.1&&r7 p.2 q.2)=true then dedup r else p :: dedup r
theorem xj:∀ {l:List (V×List bf)} {p:V×List bf},p∈l→p∈dedup l
  | q :: r,p,h=>by
    simp only [dedup]
    split
    · rename_i IA
      rcases b8.1 h with rfl|h
      · obtain⟨q',h1,h2⟩:=tP.1 IA
        simp only [aJ] at h2
        have:p=q':=atQ (vK h2.1) (tg h2.2)
        rw [this];exact h1
      · exact xj h
    · rcases b8.1 h with rfl|h
      · exact cV ..
      · exact bj _ (xj h)
def US (P:Program) (tt:Table) (code:pE):lA:=fun f vs mem =>
  match P.funcs[f]? with
  | some fn=>match fn.body with
    | some body=>(pF (fWs vs fun vs=>P4 mem fun mem=>UO true none [] (cK fn vs mem) fun s=>code false body s) fun o=>if zi o.1=true then (match oQ tt fn.results o.2 with
      | some r=>fV r fun r=>match aeA mem.length r o.2.mem with|some p=>P4 p.2 fun m=>some [(p.1,m)]|none=>none
      | none=>none) else none).map dedup
    | none=>none
  | none=>none
def CY (P:Program) (tt:Table) (code:pE):pG:=fun f vs =>
  match P.funcs[f]? with
  | some fn=>match fn.body with
    | some body=>match pF (fWs vs fun vs=>UO true none [] (cK fn vs []) fun s=>code false body s) fun o=>if zi o.1=true then (match qZ tt fn.results o.2 with|some r=>fV r fun r=>some [r]|none=>none) else none with
      | some (r :: rs)=>if rs.all (kO r)=true then some r else none
      | _=>none
    | none=>none
  | none=>none
def I5:List (V×List bf)→Option (Nat×Nat×List V)
  | [(.ms 0 v 0 l,[.rows v' e rs])]=>if v'=v∧l=rs.length then some (v,e,rs) else none
  | [(.ms 0 v 0 0,[.rows v' e []]),(.sc (.slice none 0 0),[])]=>if v'=v then some (v,e,[]) else none
  | [(.sc (.slice none 0 0),[]),(.ms 0 v 0 0,[.rows v' e []])]=>if v'=v then some (v,e,[]) else none
  | _=>none
theorem I6 {outs:List (V×List bf)} {v e:Nat} {rs:List V} (h:I5 outs=some (v,e,rs)):∀ r m,(r,m)∈outs→(r = .ms 0 v 0 rs.length∧m=[.rows v e rs])∨(r = .sc (.slice none 0 0)∧m=[]∧rs=[]):=by
  unfold I5 at h;split at h;·split at h;(·rename_i hc;cases h;obtain⟨rfl,rfl⟩:=hc;intro r m hm;simp at hm;exact .inl hm);·cases h
  ·split at h;(·rename_i hc;cases h;subst hc;intro r m hm;simp at hm;(rcases hm with ⟨rfl,rfl⟩|⟨rfl,rfl⟩);(·exact .inl ⟨rfl,rfl⟩);·exact .inr ⟨rfl,rfl,rfl⟩);·cases h
  ·split at h;(·rename_i hc;cases h;subst hc;intro r m hm;simp at hm;(rcases hm with ⟨rfl,rfl⟩|⟨rfl,rfl⟩);(·exact .inr ⟨rfl,rfl,rfl⟩);·exact .inl ⟨rfl,rfl⟩);·cases h
  ·cases h
theorem jh.live {P:Program} {f:FuncId} {vs:List V} {R:V→List bf→Prop} {v e:Nat} {rs:List V} (h:jh P f vs [] R) (hR:∀ r m,R r m→(r = .ms 0 v 0 rs.length∧m=[.rows v e rs])∨(r = .sc (.slice none 0 0)∧m=[]∧rs=[])):Ak P f vs e rs:=by
  refine⟨v,h.1,fun E w xs hs hx=>(h.2 E w xs hs hx).mono ?_⟩;rintro en w' ⟨E',x,r,m,rfl,hr,fK,pY,j4⟩;rcases hR r m hr with ⟨rfl,rfl⟩|⟨rfl,rfl,rfl⟩
  ·exact⟨E',x,rfl,fK,pY,j4⟩
  ·obtain rfl:=eT j4;exact⟨E',_,rfl,fK,by simpa using pY.Gf v e,.iv _ _ _ _⟩
def P8 (P:Program) (tt:Table) (code:pE):ym:=fun f vs =>
  match US P tt code f vs [] with
  | some outs=>match I5 outs with|some (_,e,rs)=>some (e,rs)|none=>none
  | none=>none
def P9 (lo:Nat) (b:Bool) (m:List bf):Option (List (Bool×List bf)) :=
  let n:=Zo 8 lo m
  if lo≤n∧(m.take n).all (aL n)=true then P4 (m.take n) fun m=>some [(b,m)] else none
theorem I7 {lo:Nat} {b:Bool} {m:List bf} {x:List (Bool×List bf)} (h:P9 lo b m=some x):∃ n,lo≤n∧(m.take n).all (aL n)=true∧(b,m.take n)∈x:=by
  unfold P9 at h;dsimp only at h;split at h;·rename_i hc;rw [qp] at h;cases h;exact⟨_,hc.1,hc.2,by simp⟩
  ·cases h
def UT (code:pE):MU:=fun k vs mem =>
  match mem[k]? with
  | some (.loop .ready none fr params assign body) =>
    if vs.length=params.size then
      pF (fWs vs fun vs=>UO true none [] { fr:=om params.toList vs fr,mem:=mem } fun s=>code true assign s) fun o=>match o.1,o.2.mem[k]? with
        | .normal,some (.loop .ready none WW p1 UC UD) =>
          pF (UO true none [] { o.2 with mem:=o.2.mem.set k (.loop .busy none WW p1 UC UD) } fun s=>code true body s) fun u=>match rR u.1,u.2.mem[k]? with
            | some jump,some (.loop _ _ UE p2 PI PJ) =>
              P9 mem.length jump.isNone (u.2.mem.set k (.loop (if jump.isNone then .ready else .done) jump UE p2 PI PJ))
            | _,_=>none
        | _,_=>none
    else none
  | _=>none
def UU:LoopState→Bool
  | .busy=>false
  | _=>true
def xk {α:Type} (f:α→Option (List (Exit×St))):List α→Option (List (Exit×St))
  | []=>none
  | a :: r=>match f a with|some x=>some x|none=>xk f r
theorem yp {α:Type} {f:α→Option (List (Exit×St))}:∀ {l:List α} {x:List (Exit×St)},xk f l=some x→∃ a∈l,f a=some x
  | [],x,h=>by cases h
  | a :: r,x,h=>by
    simp only [xk] at h
    split at h
    · rename_i hx;cases h;exact⟨a,cV ..,hx⟩
    · obtain⟨b,h1,h2⟩:=yp h;exact⟨b,bj _ h1,h2⟩
def Zp (mH:FuncId→List V→Option V) (pure:pG):pG:=fun f vs=>match mH f vs with|some r=>some r|none=>pure f vs
theorem UW {P:Program} {mH:FuncId→List V→Option V} {pure:pG} (h:qR P mH) (hp:uF P pure):uF P (Zp mH pure):=fun f vs r hr=>by
  unfold Zp at hr;split at hr;·rename_i r' h1;cases hr;exact h _ _ _ h1
  ·exact hp _ _ _ hr
theorem bo.CZ {P:Program} {f:FuncId} {vs:List V} {mem m m2:List bf} {v v':V} (h:bo P f vs mem v m)
    (step:∀ (E:Env) (w:World) (x:Value),c5 E w { tmps := #[],defers:=[] } { fr:=[],mem:=m }→cT E v x→∃ E2,c5 E2 w { tmps := #[],defers:=[] } { fr:=[],mem:=m2 }∧gK E w E2 w∧cT E2 v' x)
    (hv:aI mem.length v'=true) (hm:(m2.take mem.length).all (aL mem.length)=true):bo P f vs mem v' (m2.take mem.length):=by
  refine⟨h.1,fun E w xs hs hx=>(h.2 E w xs hs hx).mono ?_⟩;rintro e w' ⟨E',x,rfl,fK,pY,j4⟩;obtain⟨E2,s2,ev2,CV⟩:=step E' w' x pY j4;have he:=fK.trans ev2;have hc:=s2.cut (n:=mem.length) rfl hm;refine⟨E2.cut mem.length,x,rfl,⟨⟨he.le.F,fun k v t hk=>?_⟩,fun k v g e c hk=>?_,he.F,he.os,he.tape,he.output,he.size,he.heap⟩,hc,gZ CV hv⟩;·(have:k<mem.length:=by (rcases bS k mem.length with bQ|jL);(·exact bQ);·rw [hs.top k jL v] at hk;cases hk);exact (if_pos this).trans (he.le.cn _ _ _ hk)
  ·(have:E2.cn k v=some (g,e,c):=by by_cases gM:k<mem.length;(·exact ((if_pos gM).symm.trans hk:E2.cn k v=_));·have h2:(E2.cut mem.length).cn k v=none:=if_neg gM;rw [h2] at hk;cases hk);exact he.cn _ _ _ _ _ this
theorem bo.Zq {P:Program} {f:FuncId} {vs:List V} {mem m:List bf} {v v':V} (h:bo P f vs mem v m) (hp:l0 m v=some v') (hv:aI mem.length v'=true) (hm:((gu m (gq v)).take mem.length).all (aL mem.length)=true) :
    bo P f vs mem v' ((gu m (gq v)).take mem.length):=h.CZ (fun E w x hs j4=>by
  obtain⟨E2,s2,ev2,r2⟩:=hs.freeze (vs:=[v]) (vs':=[v']) (by simp [ij,hp])
  have hr:[v].flatMap gq=gq v:=by simp
  rw [hr] at s2
  obtain⟨y,ys,hy,CV,-⟩:=(r2 [x] (.cons j4 (.nil _))).of_cons
  cases hy
  exact⟨E2,s2,ev2,CV⟩) hv hm
def Zr (n:Nat) (v:V) (m:List bf):Option (V×List bf) :=
  if m.length=n then some (v,m) else match v with
    | .ptr k 0=>match m[k]? with
      | some (.box cs)=>if n≤k∧cs.all lu=true∧((m.set k .dead).take n).all (aL n)=true then some (.eY cs,(m.set k .dead).take n) else none
      | _=>none
    | _=>match l0 m v with
      | some v'=>if aI n v'=true∧((gu m (gq v)).take n).all (aL n)=true then some (v',(gu m (gq v)).take n) else none
      | none=>none
theorem UX {P:Program} {f:FuncId} {vs:List V} {mem m0 m:List bf} {v0 v:V} (h:bo P f vs mem v0 m0) (Ei:Zr mem.length v0 m0=some (v,m)):bo P f vs mem v m:=by
  unfold Zr at Ei;split at Ei;·cases Ei;exact h
  ·split at Ei;(·rename_i k;split at Ei;(·rename_i cs hk;split at Ei;(·rename_i u0;cases Ei;refine h.CZ (fun E w x hs j4=>?_) (by simp [aI]) u0.2.2;exact hs.Zj j4 hk u0.2.1);·cases Ei);·cases Ei);·split at Ei;(·rename_i w hw;split at Ei;(·rename_i u0;cases Ei;exact h.Zq hw u0.1 u0.2);·cases Ei);·cases Ei
def Zs (call:lA):Gr:=fun f vs k mem =>
  match mem[k]? with
  | some B0=>match call f vs mem with
    | some [(v0,m0)]=>match Zr mem.length v0 m0 with
      | some (v,m)=>match m[k]? with
        | some B=>if B0.dI=0∧B.dI=0∧r7 m (mem.set k B)=true then some (v,B) else none
        | none=>none
      | none=>none
    | _=>none
  | none=>none
theorem UY {P:Program} {call:lA} (hc:kg P call):La P (Zs call):=by
  intro f vs k mem v B h;unfold Zs at h;split at h;·rename_i B0 h0;split at h;(·rename_i v0 m0 hf;split at h;(·rename_i v' m Ei;split at h;(·rename_i B' hB;split at h;(·rename_i rE;cases h;obtain⟨h1,h2,h3⟩:=rE;have e:=tg h3;have h4:=hc f vs mem _ hf;have h5:bo P f vs mem v0 m0:=⟨h4.1,fun E w xs hs hx=>(h4.2 E w xs hs hx).mono fun e w' ⟨E',x,r',m',p1,p2,p4⟩=>by simp only [eX,dn] at p2;obtain⟨rfl,rfl⟩:=p2;exact⟨E',x,p1,p4⟩⟩;refine⟨B0,h0,h1,h2,?_⟩;rw [← e];exact UX h5 Ei);·cases h);·cases h);·cases h);·cases h
  ·cases h
def Qa (ops:List Oper) (st:St) (x:Operand):Option Nat :=
  match (match x with
    | .tmp t=>(match ops.find? (fun o:Oper=>o.dst==some t) with
      | some o=>(match o.op with|.fieldAddr _ y _=>some (st.eval y)|.move y=>some (st.eval y)|_=>none)
      | none=>none)
    | _=>none) with
  | some (.ptr k _)=>some k
  | _=>match st.eval x with
    | .ptr k _=>some k
    | _=>none
def Gv (ops:List Oper) (st:St):List Oper→List Pl→List (Nat×Nat)
  | o :: r,p :: ps=>if p.cls = .e∧900≤p.key then (match o.op with|.store _ x _=>(match Qa ops st x with|some k=>(p.key,k) :: Gv ops st r ps|none=>Gv ops st r ps)|_=>Gv ops st r ps) else Gv ops st r ps
  | _,_=>[]
def UZ (mem:List bf) (w:Nat):Nat:=match mem[w]? with
  | some (.box cs)=>match (cs[8]?:Option V) with
    | some (.ia _ _ _)=>w
    | _=>match (cs[6]?:Option V) with
      | some (.ia _ _ [.ptr okk _,.ptr tk _])=>match (mem[tk]?:Option bf) with
        | some (.box [.ia _ _ [.ptr ik _]])=>match (mem[ik]?:Option bf) with
          | some (.box [.mp m])=>m
          | _=>okk
        | _=>okk
      | _=>w
  | _=>w
def Ej (ops:List Oper) (st:St):List Oper→List (Nat×Nat)
  | o :: r=>match o.op with
    | .call { callee:=.value _,args:=xs,.. }=>match xs.toList with
      | x :: _=>match Qa ops st x with
        | some w=>[(99,UZ st.mem w)]
        | none=>Ej ops st r
      | []=>Ej ops st r
    | _=>Ej ops st r
  | []=>[]
def aeC (l:List (Nat×Nat)) (a:Nat):Nat:=match l.find? (fun p:Nat×Nat=>p.1==a) with
  | some p=>p.2
  | none=>a
def Qb (ops:Array Oper) (st:St) (pl:List Pl):List Pl:=match Ej ops.toList st ops.toList++Gv ops.toList st ops.toList pl with
  | []=>pl
  | l=>pl.map fun p => { p with key:=if p.cls = .e then aeC l p.key else p.key,abs:=p.abs.map (aeC l) }
def fnM (tE call:lA):lA:=fun f vs mem=>match tE f vs mem with
  | some r=>some r
  | none=>call f vs mem
theorem I8 {P:Program} {tE call:lA} (ho:kg P tE) (hc:kg P call):kg P (fnM tE call):=fun f vs mem outs h=>by
  unfold fnM at h;split at h;·rename_i hr;cases h;exact ho _ _ _ _ hr
  ·exact hc _ _ _ _ h
def noM:lA:=fun _ _ _=>none
theorem Zt {P:Program}:kg P noM:=fun _ _ _ _ h=>by cases h
def U0 (P:Program) (tt:Table) (nat:qo) (mH:FuncId→List V→Option V) (tE:lA) (code:pE) (ops:Array Oper) (st:St) (p:List Pl×Nat):Option (List (Exit×St)) :=
  if yi ops (Qb ops st p.1)=true then (match Gt P tt nat (Zp mH (CY P tt code)) (P8 P tt code) (Zs (fnM tE (US P tt code))) ops st.mem.length ops.toList (Qb ops st p.1) { st with mem:=st.mem++List.replicate p.2 .hole } with
    | some s=>some [(.normal,s)]
    | none=>none) else none
def oT (P:Program) (tt:Table) (pl:Gi) (nat:qo) (mH:FuncId→List V→Option V) (tE:lA) (code:pE):pE:=fun ρ c st =>
  match c with
  | .skip=>some [(.normal,st)]
  | .ret=>some [(.ret,st)]
  | .exit id=>some [(.exit id,st)]
  | .seq a b=>pF (code ρ a st) fun o=>match o.1 with
    | .normal=>code ρ b o.2
    | e=>some [(e,o.2)]
  | .cond x a b=>match st.eval x with
    | .sc (.bool t)=>code ρ (if t=true then a else b) st
    | _=>none
  | .block id c=>pF (code ρ c st) fun o=>match o.1 with
    | .exit j=>if j=id then some [(.normal,o.2)] else some [(.exit j,o.2)]
    | e=>some [(e,o.2)]
  | .loop c=>pF (code ρ c st) fun o=>match o.1 with
    | .normal=>code ρ (.loop c) o.2
    | e=>some [(e,o.2)]
  | .region _ ops false=>match MX P tt nat mH (fnM tE (US P tt code)) (UT code) ops ops.toList st with
    | some l=>some (l.map fun s=>(.normal,s))
    | none=>match Gp st with
      | some st'=>pF (MX P tt nat mH (fnM tE (US P tt code)) (UT code) ops ops.toList st') fun s=>some [(.normal,s)]
      | none=>none
  | .region id ops true=>match xk (U0 P tt nat mH tE code ops st) (pl id ops) with
    | some x=>some x
    | none=>match Gp st with
      | some st'=>xk (U0 P tt nat mH tE code ops st') (pl id ops)
      | none=>none
  | .rangeFunc f params assign body=>if ρ=true then none else
    match c6 (st.eval f) [.jK st.mem.length] with
    | some (g,vs)=>pF (US P tt code g vs (st.mem++[.loop .ready none st.fr params assign body])) fun o=>match o.2[st.mem.length]? with
      | some (.loop s nc _ _ _ _)=>if UU s=true then (match nc with
        | none=>UO true none [] { st with mem:=o.2.set st.mem.length .dead } fun s=>some [(.normal,s)]
        | some c=>UO true none [] { st with mem:=o.2.set st.mem.length .dead } fun s=>code false c s) else none
      | _=>none
    | none=>none
  | _=>none
def ev (P:Program) (tt:Table) (pl:Gi) (nat:qo) (mH:FuncId→List V→Option V) (tE:lA) (n:Nat):pE:=Nat.rec (fun _ _ _=>none) (fun _ r=>oT P tt pl nat mH tE r) n
def AE (P:Program) (code:pE):Prop:=∀ b c st outs,code b c st=some outs→∀ (ρ:Option Nat) (n0:Nat) (Q:Exit→St→Prop),(b=true∨ρ=none)→(∀ o∈outs,Q o.1 o.2)→dS P ρ n0 c st Q
section
variable {P:Program} {tt:Table} {pl:Gi} {nat:qo} {mH:FuncId→List V→Option V} {tE:lA} (ht:TT P tt) (hm:P.follows .mixedOrders=true)
  (fS:∀ (f:FuncId) (fn:Func) (body:Code),P.funcs[f]?=some fn→fn.body=some body→∀ (xs:Array Value) (w:World),(callFunc f xs).run P w = .ok (.enter f xs) w)
include ht fS
theorem xl {code:pE} (W7:AE P code):kg P (US P tt code):=by
  intro f vs mem outs h;unfold US at h;split at h;·rename_i fn hf;split at h;(·rename_i body hb;rw [aY] at h;obtain⟨an5,h,PO⟩:=h;obtain⟨l,h1,h2⟩:=hD h;rw [Ec,qp,uE] at h1;refine PH ht hf hb (fS f fn body hf hb) (W7 _ _ _ _ h1 none _ _ (.inr rfl) fun o ho=>?_);obtain⟨b,h3,h4⟩:=h2 o ho;split at h3;(·rename_i he;split at h3;(·rename_i r hr;rw [Gm] at h3;split at h3;(·rename_i p hp;rw [qp] at h3;cases h3;unfold aeA at hp;dsimp only at hp;split at hp;(·rename_i rE;cases hp;refine⟨?_,r,_,rE.1,hr,rE.2.1,rE.2.2,by rw [← PO];exact xj (h4 _ (by simp))⟩;cases ho1:o.1 <;> simp [zi,ho1] at he <;> simp);·cases hp);·cases h3);·cases h3);·cases h3);·cases h
  ·cases h
theorem Gw {code:pE} (W7:AE P code):uF P (CY P tt code):=by
  intro f vs r h;unfold CY at h;split at h;·rename_i fn hf;split at h;(·rename_i body hb;split at h;(·rename_i r1 rs wV;split at h;(·rename_i ff;cases h;obtain⟨l,h1,h2⟩:=hD wV;rw [Ec,uE] at h1;refine iN ht hf hb (fS f fn body hf hb) (W7 _ _ _ _ h1 none _ _ (.inr rfl) fun o ho=>?_);obtain⟨b,h3,h4⟩:=h2 o ho;split at h3;(·rename_i he;split at h3;(·rename_i r2 hr;rw [Gm] at h3;cases h3;(have FM:r2=r:=by (rcases b8.1 (h4 r2 (by simp)) with h|h);(·exact h);·exact (vK (aN.1 ff _ h)).symm);subst FM;refine⟨?_,hr⟩;cases ho1:o.1 <;> simp [zi,ho1] at he <;> simp);·cases h3);·cases h3);·cases h);·cases h);·cases h
  ·cases h
theorem Qc {code:pE} (W7:AE P code):Ed P (P8 P tt code):=by
  intro f vs e rs h;unfold P8 at h;split at h;·rename_i outs ho;split at h;(·rename_i v e' mv hl;cases h;exact (xl ht fS W7 f vs [] outs ho).live fun r m hr=>I6 hl r m hr);·cases h
  ·cases h
omit ht fS in
theorem Ld {code:pE} (W7:AE P code):P2 P (UT code):=by
  intro k vs mem outs h;unfold UT at h;split at h;·rename_i fr params assign body hk;split at h;(·rename_i hlen;obtain⟨l1,h1,h2⟩:=hD h;rw [Ec,uE] at h1;refine vp hk hlen fun l=>W7 _ _ _ _ h1 (some l) _ _ (.inl rfl) fun o ho=>?_;obtain⟨b,h3,h4⟩:=h2 o ho;split at h3;(·rename_i WW p1 UC UD he ib;refine⟨he,WW,p1,UC,UD,ib,?_⟩;obtain⟨l2,h5,h6⟩:=hD h3;rw [uE] at h5;refine W7 _ _ _ _ h5 (some l) _ _ (.inl rfl) fun u hu=>?_;obtain⟨b2,h7,h8⟩:=h6 u hu;split at h7;(·rename_i jump s2 pe2 UE p2 PI PJ hj jI;obtain⟨n,hn,TV,oI⟩:=I7 h7;exact⟨n,jump,s2,pe2,UE,p2,PI,PJ,hn,hj,jI,TV,h4 _ (h8 _ oI)⟩);·cases h7);·cases h3);·cases h
  ·cases h
include hm in
theorem W8 (Eb:qR P mH) (Qd:kg P tE) (ub:mM P nat):∀ (n:Nat),AE P (ev P tt pl nat mH tE n)∧∀ b c st outs,ev P tt pl nat mH tE n b (.loop c) st=some outs→∀ (ρ:Option Nat) (n0:Nat) (Q:Exit→St→Prop),(b=true∨ρ=none)→(∀ o∈outs,Q o.1 o.2)→lx P ρ n0 c n st Q:=by
  intro n
  induction n with
  | zero=>exact⟨fun b c st outs h=>by simp [ev] at h,fun b c st outs h=>by simp [ev] at h⟩
  | succ n ih =>
    obtain⟨Le,ihl⟩:=ih
    have kN:∀ b c st,ev P tt pl nat mH tE (n+1) b c st=oT P tt pl nat mH tE (ev P tt pl nat mH tE n) b c st:=fun _ _ _=>rfl
    have loop:∀ b c st outs,ev P tt pl nat mH tE (n+1) b (.loop c) st=some outs→∀ (ρ:Option Nat) (n0:Nat) (Q:Exit→St→Prop),(b=true∨ρ=none)→(∀ o∈outs,Q o.1 o.2)→lx P ρ n0 c (n+1) st Q:=by
      intro b c st outs h ρ n0 Q hb hQ
      rw [kN] at h
      simp only [oT] at h
      obtain⟨l,h1,h2⟩:=hD h
      refine Le _ _ _ _ h1 ρ n0 _ hb fun o ho=>?_
      obtain⟨e,s⟩:=o
      obtain⟨b',h3,h4⟩:=h2 _ ho
      cases e with
      | normal=>exact ihl _ _ _ _ h3 ρ n0 Q hb fun o' WI=>hQ _ (h4 _ WI)
      | _=>cases h3;exact hQ (_,_) (h4 _ (by simp))
    refine⟨fun b c st outs h ρ n0 Q hb hQ=>?_,loop⟩
    cases c with
    | skip=>rw [kN] at h;cases h;exact bZ (hQ (_,_) (by simp))
    | ret=>rw [kN] at h;cases h;exact bE (hQ (_,_) (by simp))
    | exit id=>rw [kN] at h;cases h;exact dK (hQ (_,_) (by simp))
    | seq x y =>
      rw [kN] at h
      simp only [oT] at h
      obtain⟨l,h1,h2⟩:=hD h
      refine bc (Le _ _ _ _ h1 ρ n0 _ hb fun o ho=>?_)
      obtain⟨e,s⟩:=o
      obtain⟨b',h3,h4⟩:=h2 _ ho
      cases e with
      | normal=>exact Le _ _ _ _ h3 ρ n0 Q hb fun o' WI=>hQ _ (h4 _ WI)
      | _=>cases h3;exact hQ (_,_) (h4 _ (by simp))
    | cond x y z =>
      rw [kN] at h
      simp only [oT] at h
      split at h
      · rename_i t hx
        exact aO hx (Le _ _ _ _ h ρ n0 Q hb hQ)
      · cases h
    | block id c =>
      rw [kN] at h
      simp only [oT] at h
      obtain⟨l,h1,h2⟩:=hD h
      refine bC (Le _ _ _ _ h1 ρ n0 _ hb fun o ho=>?_)
      obtain⟨e,s⟩:=o
      obtain⟨b',h3,h4⟩:=h2 _ ho
      cases e with
      | exit j =>
        dsimp only at h3
        simp only [jN]
        split at h3
        · rename_i hj;cases h3;rw [if_pos hj];exact hQ (_,_) (h4 _ (by simp))
        · rename_i hj;cases h3;rw [if_neg hj];exact hQ (_,_) (h4 _ (by simp))
      | _=>cases h3;exact hQ (_,_) (h4 _ (by simp))
    | loop c=>exact rP (n+1) (loop _ _ _ _ h ρ n0 Q hb hQ)
    | region id ops d =>
      rw [kN] at h
      cases d with
      | false =>
        simp only [oT] at h
        split at h
        · rename_i l h1
          cases h
          exact l7 ht (qs Eb ub (I8 Qd (xl ht fS Le)) (Ld Le) h1 fun s hs=>hQ (_,_) (cQ.2 ⟨s,hs,rfl⟩))
        · split at h
          · rename_i st' Pw
            obtain⟨l,h1,h2⟩:=hD h
            refine Az Pw (l7 ht (qs Eb ub (I8 Qd (xl ht fS Le)) (Ld Le) h1 fun s hs=>?_))
            obtain⟨b',h3,h4⟩:=h2 _ hs
            cases h3
            exact hQ (_,_) (h4 _ (by simp))
          · cases h
      | true =>
        simp only [oT] at h
        have one:∀ (st:St) (outs:List (Exit×St)),(∀ o∈outs,Q o.1 o.2)→xk (U0 P tt nat mH tE (ev P tt pl nat mH tE n) ops st) (pl id ops)=some outs→dS P ρ n0 (.region id ops true) st Q:=fun st outs hQ h=>by
          obtain⟨p,-,hp⟩:=yp h
          unfold U0 at hp
          split at hp
          · rename_i jH
            split at hp
            · rename_i s hs
              cases hp
              exact pD ht hm (Qb ops st p.1) p.2 jH (yn ub (UW Eb (Gw ht fS Le)) (Qc ht fS Le) (UY (I8 Qd (xl ht fS Le))) hs (hQ (_,_) (by simp)))
            · cases hp
          · cases hp
        split at h
        · rename_i x hx;cases h;exact one st _ hQ hx
        · split at h
          · rename_i st' Pw
            exact Az Pw (one st' _ hQ h)
          · cases h
    | rangeFunc f params assign body =>
      rw [kN] at h
      simp only [oT] at h
      split at h
      · cases h
      · rename_i hbf
        have hρ : ρ = none := by rcases hb with h|h
                                 · exact absurd h hbf
                                 · exact h
        subst hρ
        split at h
        · rename_i g vs hg
          obtain⟨l,h1,h2⟩:=hD h
          refine rT hg (xl ht fS Le _ _ _ _ h1) fun r yN hr=>?_
          obtain⟨b',h3,h4⟩:=h2 _ hr
          dsimp only at h3
          split at h3
          · rename_i s nc fr' TZ T0 T1 Zd
            split at h3
            · rename_i rl
              refine⟨s,nc,fr',TZ,T0,T1,Zd,(fun e=>by subst e;cases rl),?_⟩
              split at h3
              · rw [uE] at h3;cases h3;exact hQ (_,_) (h4 _ (by simp))
              · rename_i c
                rw [uE] at h3
                exact Le _ _ _ _ h3 none n0 Q (.inr rfl) fun o' WI=>hQ _ (h4 _ WI)
            · cases h3
          · cases h3
        · cases h
    | _=>rw [kN] at h;simp [oT] at h
include hm in
theorem W9 (Eb:qR P mH) (Qd:kg P tE) (ub:mM P nat) (n:Nat) {f:FuncId} {vs:List V} {r:V} (h:CY P tt (ev P tt pl nat mH tE n) f vs=some r):bJ P f vs r:=Gw ht fS (W8 ht hm fS Eb Qd ub n).1 f vs r h
include hm in
theorem Zu (Eb:qR P mH) (Qd:kg P tE) (ub:mM P nat) (n:Nat) {f:FuncId} {vs:List V} {mem:List bf} {outs:List (V×List bf)} (h:US P tt (ev P tt pl nat mH tE n) f vs mem=some outs):jh P f vs mem fun r m=>(r,m)∈outs:=xl ht fS (W8 ht hm fS Eb Qd ub n).1 f vs mem outs h
end
def akv (P:Program):Bool:=P.funcs.all fun fn=>fn.name != "runtime.NumGoroutine"
theorem Qe {P:Program} (h:akv P=true) (f:FuncId) (fn:Func) (body:Code) (hf:P.funcs[f]?=some fn) (hb:fn.body=some body) (xs:Array Value) (w:World):(callFunc f xs).run P w = .ok (.enter f xs) w:=by
  have bQ:f<P.funcs.size:=(dw.1 hf).1;have hn:=(Array.all_eq_true.1 h) f bQ;have hfe:P.funcs[f]=fn:=(dw.1 hf).2;rw [hfe] at hn;have dy:(fn.name == "runtime.NumGoroutine")=false:=by simpa using hn
  simp only [callFunc,program,Sem.run_bind];show (match P.funcs[f]? with|none=>_|some fn=>_:Sem Next).run P w=_;rw [hf];dsimp only;rw [dy,hb];rfl
def Zv (l:List (Nat×Nat×Nat×List Pl)):Gi:=fun id ops =>
  (l.filter fun e=>e.1==id&&e.2.1==ops.size).map fun e=>(e.2.2.2,e.2.2.1)
def I9:List V→Option V
  | [.sc (.string a),.sc (.string b)]=>if 2≤b.size∧Mw b.size=true∧a.size<4294967281 then
      (match (List.range (a.size+1-b.size)).find? fun i=>a.extract i (i+b.size)==b with
        | some i=>some (.sc (.int .i64 i))
        | none=>some (.sc (.int .i64 (-1)))) else none
  | _=>none
theorem M0 {P:Program} {f:FuncId} {fn:Func} {g:Nat} (hf:P.funcs[f]?=some fn) (hn:(fn.name == "runtime.NumGoroutine")=false) (hb:fn.body=none) (Qf:Extern.findNext fn=none) (Fx:Extern.find fn=some Extern.BytealgIndex.index)
    (hg:∀ w,(globalAddr "internal/bytealg.MaxLen").run P w = .ok ⟨g,0,none⟩ w) (hG:ba.g=some g) {vs:List V} {r:V} (h:I9 vs=some r):rL P f vs r:=fun E w xs hF hx=>by
  unfold I9 at h
  split at h
  · rename_i a b
    split at h
    · rename_i hc
      obtain⟨h2,hm,ha⟩:=hc
      rw [DE] at hm
      have hm:(b.size:Int)≤ba.n:=by simpa using hm
      obtain⟨x,r1,hy,Cb,hx⟩:=hx.of_cons
      obtain⟨y,r2,hz,FM,hx⟩:=hx.of_cons
      have:=hx.of_nil
      subst this;subst hz
      obtain rfl:=eT Cb
      obtain rfl:=eT FM
      obtain rfl:xs = #[.string a,.string b]:=by rw [← cr (xs:=xs),hy]
      have pj:w.cell? ⟨g,0,none⟩=some (.int .i64 ba.n):=hF _ _ (E.gl.n g hG)
      have akw:Extern.BytealgIndex.maxLen.run P w = .ok ba.n w:=by
        simp [Extern.BytealgIndex.maxLen,hg,load,Sem.run,pj,asInt,asIntOf]
      have eQ:(Extern.BytealgIndex.index #[.string a,.string b]).run P w = .ok (match (List.range (a.size+1-b.size)).find? fun i=>a.extract i (i+b.size)==b with|some i=>goInt i|none=>goInt (-1)) w:=by
        show (do
          let a ← Extern.Bytes.bytesOf (.string a)
          let b ← Extern.Bytes.bytesOf (.string b)
          if b.size<2||(b.size:Int)>(← Extern.BytealgIndex.maxLen) then
            unsupported (.noEntry "extern/internal/bytealg.Index.length")
          if a.size≥2 ^ 32-15 then
            unsupported (.noEntry "extern/internal/bytealg.Index: a haystack of 2^32 - 15 bytes or more")
          match (List.range (a.size+1-b.size)).find? fun i=>a.extract i (i+b.size)==b with
          | some i=>pure (goInt i)
          | none=>pure (goInt (-1)):Sem Value).run P w=_
        have e1:(decide (b.size<2))=false:=by simp;omega
        have e2:decide ((b.size:Int)>ba.n)=false:=by simp;omega
        have e3:¬ a.size≥2 ^ 32-15:=by omega
        simp only [Extern.Bytes.bytesOf,Sem.run_bind,Sem.run_pure,Result.andThen_ok,akw,e1,e2,cE,bu,if_false,e3]
        split <;> rfl
      refine⟨(match (List.range (a.size+1-b.size)).find? fun i=>a.extract i (i+b.size)==b with|some i=>goInt i|none=>goInt (-1)),?_,?_⟩
      · simp only [callFunc,program,Sem.run_bind]
        show (match P.funcs[f]? with|none=>_|some fn=>_:Sem Next).run P w=_
        rw [hf]
        dsimp only
        rw [hn,hb]
        simp only [bu,if_false,ac6,if_true,Qf,Fx,Sem.run_bind,mark,Sem.run,Result.andThen_ok]
        rw [eQ];rfl
      · split at h
        · cases h;exact .sc _ _
        · cases h;exact .sc _ _
    · cases h
  · cases h
end Go.Eng
end
