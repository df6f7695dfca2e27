import Derived.Test.YtnboooapeopjoaaGreatDoorE3
open Array renaming getElem?_eq_some_iff→dH,toArray_toList→cX
open Bool renaming and_eq_true→aD,false_eq_true→bJ,or_self→aY
open List renaming all_eq_true→aX,any_eq_true→Gu,ext_getElem?→dq,getD_eq_getElem?_getD→eU,getElem?_cons_succ→ia,getElem?_cons_zero→ee,getElem?_eq_getElem→af,getElem?_eq_none→dN,getElem?_map→ae,getElem?_set→bK,mem_append_left→fH,mem_append_right→gD,mem_cons→dj,mem_cons_of_mem→bE,mem_cons_self→bZ,mem_map→dr,mem_singleton→dX,not_mem_nil→o3
open Nat renaming lt_or_ge→br,zero_add→aZ
open Option renaming isNone_none→ads,map_eq_some_iff→bH
open Option.some renaming injEq→aB
open Prod renaming ext→asY
open Prod.mk renaming injEq→dE
set_option linter.all false
section
namespace Go.Eng
variable [bk]
abbrev HA:=Nat→Array Oper→List (List Pl×Nat)
abbrev lT:=FuncId→List V→List bm→Option (List (V×List bm))
abbrev qt:=FuncId→List V→Option V
def mV (P:Program) (nat:qt):Prop:=∀ f vs r,nat f vs=some r→sx P f vs r
abbrev N1:=Nat→List V→List bm→Option (List (Bool×List bm))
abbrev qu:=Bool→Code→St→Option (List (Exit×St))
def qv {α β:Type} (x:Option (List α)) (f:α→Option (List β)):Option (List β) :=
  match x with
  | none=>none
  | some l=>l.foldr (fun a acc=>match f a,acc with|some b,some c=>some (b++c)|_,_=>none) (some [])
theorem DH {α β:Type} {f:α→Option (List β)}:∀ {l:List α} {out:List β},qv (some l) f=some out→∀ a∈l,∃ b,f a=some b∧∀ x∈b,x∈out
  | [],_,_,a,ha=>by simp at ha
  | c :: r,out,h,a,ha=>by
    simp only [qv,List.foldr_cons] at h
    split at h
    · rename_i b t hb hc
      cases h
      rcases dj.1 ha with rfl|ha
      · exact⟨b,hb,fun x hx=>fH _ hx⟩
      · obtain⟨b',h1,h2⟩:=DH (l:=r) (out:=t) hc a ha
        exact⟨b',h1,fun x hx=>gD _ (h2 x hx)⟩
    · cases h
theorem iS {α β:Type} {x:Option (List α)} {f:α→Option (List β)} {out:List β} (h:qv x f=some out):∃ l,x=some l∧∀ a∈l,∃ b,f a=some b∧∀ y∈b,y∈out:=by cases x with|none=>cases h|some l=>exact⟨l,rfl,DH h⟩
def QA (st:St) (it:V) (str:Bool):Option (List (V×List bm)) :=
  match it with
  | .ptr b 0=>match st.mem[b]? with
    | some (.jR m since seen last)=>match st.mem[m]? with
      | some (.map dK clock)=>if str=false∧EX dK seen last=false then
          some ((if (AJ dK seen since).isEmpty then [(AK,st.mem)] else []) ++
            (AJ dK seen since++P4 dK seen since).map fun e=>(P5 e,st.mem.set b (.jR m since (seen++[e.2.1]) clock)))
        else none
      | _=>none
    | some (.nY s pos)=>if str=true then (if pos<s.size then some [(X7 s pos,st.mem.set b (.nY s (pos+(Utf8.decode s pos).2)))] else some [(AK,st.mem)]) else none
    | some .oz=>if str=false then some [(AK,st.mem)] else none
    | _=>none
  | _=>none
theorem gV {α:Type} {Q:α→Prop} {a:α} (h:∀ p∈[a],Q p):Q a:=h a (dX.2 rfl)
theorem HB {st:St} {dst:Option Tmp} {it:V} {str:Bool} {outs:List (V×List bm)} {Q:St→Prop} (h:QA st it str=some outs) (hQ:∀ p∈outs,Q (St.put { st with mem:=p.2 } dst p.1)):vS st dst it str Q:=by
  unfold QA at h;unfold vS;split at h;·split at h;(·rename_i h1;simp only [h1];split at h;(·rename_i h2;simp only [h2];split at h;(·rename_i h3;cases h;refine⟨h3.1,h3.2,fun he=>?_,fun e he=>?_⟩;(·have:=hQ (AK,st.mem) (by rw [he];exact fH _ (dX.2 rfl));exact this);·have:=hQ _ (gD _ (dr.2 ⟨e,he,rfl⟩));exact this);·cases h);·cases h);(·rename_i h1;simp only [h1];split at h;(·rename_i h3;refine⟨h3,?_⟩;split at h;(·rename_i h4;cases h;rw [if_pos h4];exact (by have h9:=gV hQ;exact h9));·rename_i h4;cases h;rw [if_neg h4];exact (by have h9:=gV hQ;exact h9));·cases h);(·rename_i h1;simp only [h1];split at h;(·rename_i h3;cases h;exact⟨h3,(by have h9:=gV hQ;exact h9)⟩);·cases h);·cases h
  ·cases h
def aeP (mW:FuncId→List V→Option V) (g:FuncId) (vs:List V) (st:St):Option (V×List bm) :=
  match fw st.mem vs with
  | some vs'=>match mW g vs' with
    | some r=>some (r,gv st.mem (vs.flatMap fg) r)
    | none=>none
  | none=>none
def qw (P:Program) (mW:FuncId→List V→Option V):Prop:=∀ f vs r,mW f vs=some r→cx P f vs r
def QB (P:Program) (tt:Table) (nat:qt) (mW:FuncId→List V→Option V) (call:lT) (km:N1) (key:Nat) (o:Oper) (st:St):Option (List (V×List bm)) :=
  match o.op with
  | .alloc T=>match tt T with
    | some i=>some [((.ptr key 0),dn st.mem key (.box (i.zero.map V.sc)))]
    | none=>none
  | .box _ x=>match mc (st.eval x) with
    | some cs=>some [((.ptr key 0),dn st.mem key (.box cs))]
    | none=>none
  | .build T parts=>match nP P tt T parts.toList st.eval with
    | some v=>some [(v,st.mem)]
    | none=>none
  | .buildSlice T len parts=>match xG tt T len parts.toList st.eval with
    | some (size,rs)=>some [((.ms key 0 0 len),dn st.mem key (.rows 0 size rs))]
    | none=>match Vv tt T len parts.toList st with
      | some (size,rs)=>some [((.ms key 0 0 len),dn (eP st.mem (E4 st.eval parts.toList)) key (.rows 0 size rs))]
      | none=>none
  | .store T p x=>match nO tt st.mem T (st.eval p) (st.eval x) with
    | some bV=>some [((.sc undef),bV)]
    | none=>match E5 tt st.mem T (st.eval p) (st.eval x) with
      | some bV=>some [((.sc undef),bV)]
      | none=>none
  | .call { callee:=.builtin .append,args:=xs,argTypes:=ts }=>match xs.toList.map st.eval with
    | [s,x]=>match gE tt st.mem ts.toList s x with
      | some (size,sr,rows)=>some [((fu st.mem key size rows sr).2,(fu st.mem key size rows sr).1)]
      | none=>none
    | _=>none
  | .call { callee:=.value f,args:=xs,.. }=>match st.eval f with
    | .km k=>match km k (xs.toList.map st.eval) st.mem with
      | some outs=>some (outs.map fun p=>((.sc (.bool p.1)),p.2))
      | none=>none
    | fv=>match da fv (xs.toList.map st.eval) with
      | some (g,vs)=>match aeP mW g vs st with
        | some (r,bV)=>some [(r,bV)]
        | none=>match call g vs st.mem with
          | some outs=>some (outs.map fun p=>(p.1,p.2))
          | none=>match nat g vs with
            | some r=>some [(r,st.mem)]
            | none=>none
      | none=>none
  | .makeSlice T l c=>match yJ tt T (st.eval l) (st.eval c) with
    | some (size,rs,_)=>some [((.ms key 0 0 rs.length),dn st.mem key (.rows 0 size rs))]
    | none=>none
  | .makeMap _ none=>some [((.mp key),dn st.mem key (.map [] 0))]
  | .mapUpdate T m k x=>match dP P st.mem T (st.eval m) (st.eval k) (st.eval x) with
    | some bV=>some [((.sc undef),bV)]
    | none=>none
  | .insert T m k x=>match dP P st.mem T (st.eval m) (st.eval k) (st.eval x) with
    | some bV=>some [((.sc undef),bV)]
    | none=>none
  | .mapEntry T m k=>match xI P st.mem T (st.eval m) (st.eval k) with
    | some (bV,v)=>some [(v,bV)]
    | none=>none
  | .entryStore _ m s x=>match xJ st.mem (st.eval m) (st.eval s) (st.eval x) with
    | some bV=>some [((.sc undef),bV)]
    | none=>none
  | .call { callee:=.builtin .delete,args:=xs,argTypes:=ts }=>match tH P st.mem ts (xs.toList.map st.eval) with
    | some bV=>some [((.sc (.tuple #[])),bV)]
    | none=>none
  | .range T x=>match qk P st.mem T (st.eval x) with
    | some B=>some [((.ptr key 0),dn st.mem key B)]
    | none=>none
  | .next it str=>QA st (st.eval it) str
  | .binOp op T x y _=>match pT tt op T (st.eval x) (st.eval y) with
    | some n=>if n=0 then some [((.sc (.bool (qY op false))),st.mem),((.sc (.bool (qY op true))),st.mem)] else some [((.sc (.bool (qY op false))),st.mem)]
    | none=>match mC P tt st o with
      | some v=>some [(v,st.mem)]
      | none=>none
  | _=>match mC P tt st o with
    | some v=>some [(v,st.mem)]
    | none=>none
def kp (P:Program) (call:lT):Prop:=∀ f vs mem outs,call f vs mem=some outs→eo P f vs mem fun r m=>(r,m)∈outs
def QC (P:Program) (km:N1):Prop:=∀ k vs mem outs,km k vs mem=some outs→NO P k vs mem fun b m=>(b,m)∈outs
theorem HC {P:Program} {tt:Table} {nat:qt} {mW:FuncId→List V→Option V} {call:lT} {km:N1} (zO:qw P mW) (tK:mV P nat) (hc:kp P call) (hy:QC P km) {key:Nat} {o:Oper} {st:St} {outs:List (V×List bm)} {Q:St→Prop} (h:QB P tt nat mW call km key o st=some outs) (hQ:∀ p∈outs,Q (St.put { st with mem:=p.2 } o.dst p.1)) :
    cR P tt key o st Q:=by
  unfold QB at h;unfold cR;split at h;·rename_i heq;rw [heq];dsimp only;split at h;(·rename_i h1;cases h;rw [h1];exact (by have h9:=gV hQ;exact h9));·cases h
  ·rename_i heq;rw [heq];dsimp only;split at h;(·rename_i h1;cases h;rw [h1];exact (by have h9:=gV hQ;exact h9));·cases h
  ·rename_i heq;rw [heq];dsimp only;split at h;(·rename_i h1;cases h;rw [h1];exact (by have h9:=gV hQ;exact h9));·cases h
  ·rename_i heq;rw [heq];dsimp only;split at h;(·rename_i h1;cases h;rw [h1];exact (by have h9:=gV hQ;exact h9));·rename_i h0;rw [h0];dsimp only;split at h;(·rename_i h1;cases h;rw [h1];exact (by have h9:=gV hQ;exact h9));·cases h
  ·rename_i heq;rw [heq];dsimp only;split at h;(·rename_i h1;cases h;rw [h1];exact (by have h9:=gV hQ;exact h9));·rename_i h0;rw [h0];dsimp only;split at h;(·rename_i h1;cases h;rw [h1];exact (by have h9:=gV hQ;exact h9));·cases h
  ·rename_i heq;rw [heq];dsimp only;split at h;(·rename_i h0;rw [h0];dsimp only;split at h;(·rename_i h1;cases h;rw [h1];exact (by have h9:=gV hQ;exact h9));·cases h);·cases h
  ·rename_i heq;rw [heq];dsimp only;split at h;(·rename_i k hk;rw [hk];dsimp only;split at h;(·rename_i os ho;cases h;exact .inr ⟨_,hy _ _ _ _ ho,fun b m hm=>(by have:=hQ _ (dr.2 ⟨_,hm,rfl⟩);exact this)⟩);·cases h);·rename_i fv hfv;split at h;(·rename_i g vs hg;split at h;(·rename_i r bV N2;cases h;unfold aeP at N2;split at N2;(·rename_i vs' hvs;split at N2;(·rename_i r1 EH;cases N2;split;(·rename_i k hk;exact absurd hk (hfv k));·rw [hg];exact .inl ⟨vs',_,hvs,zO _ _ _ EH,(by have h9:=gV hQ;exact h9)⟩);·cases N2);·cases N2);·split at h;(·rename_i os ho;cases h;split;(·rename_i k hk;exact absurd hk (hfv k));·rw [hg];exact .inr (.inr (.inl ⟨_,hc _ _ _ _ ho,fun b m hm=>(by have:=hQ _ (dr.2 ⟨_,hm,rfl⟩);exact this)⟩)));·split at h;(·rename_i r hr;cases h;split;(·rename_i k hk;exact absurd hk (hfv k));·rw [hg];exact .inr (.inr (.inr ⟨r,tK _ _ _ hr,(by have h9:=gV hQ;exact h9)⟩)));·cases h);·cases h
  ·rename_i heq;rw [heq];dsimp only;split at h;(·rename_i h1;cases h;rw [h1];exact (by have h9:=gV hQ;exact h9));·cases h
  ·rename_i heq;rw [heq];dsimp only;cases h;exact (by have h9:=gV hQ;exact h9)
  ·rename_i heq;rw [heq];dsimp only;split at h;(·rename_i h1;cases h;rw [h1];exact (by have h9:=gV hQ;exact h9));·cases h
  ·rename_i heq;rw [heq];dsimp only;split at h;(·rename_i h1;cases h;rw [h1];exact (by have h9:=gV hQ;exact h9));·cases h
  ·rename_i heq;rw [heq];dsimp only;split at h;(·rename_i h1;cases h;rw [h1];exact (by have h9:=gV hQ;exact h9));·cases h
  ·rename_i heq;rw [heq];dsimp only;split at h;(·rename_i h1;cases h;rw [h1];exact (by have h9:=gV hQ;exact h9));·cases h
  ·rename_i heq;rw [heq];dsimp only;split at h;(·rename_i h1;cases h;rw [h1];exact (by have h9:=gV hQ;exact h9));·cases h
  ·rename_i heq;rw [heq];dsimp only;split at h;(·rename_i h1;cases h;rw [h1];exact (by have h9:=gV hQ;exact h9));·cases h
  ·rename_i heq;rw [heq];dsimp only;exact HB h hQ
  ·rename_i heq;rw [heq];dsimp only;split at h;(·rename_i n hn;rw [hn];dsimp only;intro b hb;split at h;(·cases h;cases b;(·have:=hQ _ (bZ ..);exact this);·have:=hQ _ (bE _ (dX.2 rfl));exact this);·rename_i h0;cases h;rw [hb h0];exact (by have h9:=gV hQ;exact h9));·rename_i hn;rw [hn];dsimp only;split at h;(·rename_i h1;cases h;rw [h1];exact (by have h9:=gV hQ;exact h9));·cases h
  ·split at h;(·rename_i h1;cases h;split <;> first|(rw [h1];exact (by have h9:=gV hQ;exact h9))|(exfalso;solve_by_elim));·cases h
def QD {α β:Type}:List α→(List α→β)→β
  | [],k=>k []
  | c :: r,k=>QD r fun r'=>k (c :: r')
theorem rk {α β:Type}:∀ (l:List α) (k:List α→β),QD l k=k l
  | [],_=>rfl
  | c :: r,k=>by rw [QD,rk r]
def nQ {β:Type} (n:Nat) (k:Nat→β):β:=Nat.casesOn n (k 0) fun m=>k (Nat.succ m)
theorem jK {β:Type} (n:Nat) (k:Nat→β):nQ n k=k n:=by cases n <;> rfl
def aaH {β:Type} (n:Int) (k:Int→β):β:=match n with|.ofNat m=>nQ m fun m'=>k (.ofNat m')|.negSucc m=>nQ m fun m'=>k (.negSucc m')
theorem VW {β:Type} (n:Int) (k:Int→β):aaH n k=k n:=by cases n <;> simp only [aaH,jK]
def Kt {β:Type} (s:ByteArray) (k:ByteArray→β):β:=QD s.data.toList fun l=>k ⟨⟨l⟩⟩
theorem N3 {β:Type} (s:ByteArray) (k:ByteArray→β):Kt s k=k s:=by rw [Kt,rk]
def VX {β:Type} (v:Value) (k:Value→β):β :=
  match v with
  | .bool true=>k (.bool true)
  | .bool false=>k (.bool false)
  | .int t n=>aaH n fun n'=>k (.int t n')
  | .string s=>Kt s fun s'=>k (.string s')
  | v=>k v
theorem Mt {β:Type} (v:Value) (k:Value→β):VX v k=k v:=by
  unfold VX;split;·rfl
  ·rfl
  ·rw [VW]
  ·rw [N3]
  ·rfl
def fW {β:Type} (v:V) (k:V→β):β :=
  match v with
  | .undef=>k .undef
  | .sc v=>k (.sc v)
  | .agg cs=>k (.agg cs)
  | .slice r=>k (.slice r)
  | .ms a b c d=>k (.ms a b c d)
  | .ptr a b=>k (.ptr a b)
  | .iw a b c d=>k (.iw a b c d)
  | .eW cs=>k (.eW cs)
  | .dU f a b=>k (.dU f a b)
  | .ec l=>k (.ec l)
  | .km a=>k (.km a)
  | .mp a=>k (.mp a)
  | .gn=>k .gn
  | .full r=>k (.full r)
theorem Yh {β:Type} (v:V) (k:V→β):fW v k=k v:=by cases v <;> rfl
def fWs {β:Type}:List V→(List V→β)→β
  | [],k=>k []
  | c :: r,k=>fW c fun c'=>fWs r fun r'=>k (c' :: r')
theorem Fi {β:Type}:∀ (l:List V) (k:List V→β),fWs l k=k l
  | [],_=>rfl
  | c :: r,k=>by rw [fWs,Yh,Fi r]
mutual
def fV {β:Type}:V→(V→β)→β
  | .undef,k=>k .undef
  | .gn,k=>k .gn
  | .sc v,k=>VX v fun v'=>k (.sc v')
  | .agg cs,k=>Mu cs fun uB=>k (.agg uB)
  | .ec cs,k=>Mu cs fun uB=>k (.ec uB)
  | .slice cs,k=>Mu cs fun uB=>k (.slice uB)
  | .full cs,k=>Mu cs fun uB=>k (.full uB)
  | .eW cs,k=>Mu cs fun uB=>k (.eW uB)
  | .dU f a b,k=>Mu a fun a'=>Mu b fun b'=>k (.dU f a' b')
  | .ms a b c d,k=>nQ a fun a'=>nQ b fun b'=>nQ c fun c'=>nQ d fun d'=>k (.ms a' b' c' d')
  | .ptr a b,k=>nQ a fun a'=>nQ b fun b'=>k (.ptr a' b')
  | .iw a b c d,k=>nQ a fun a'=>nQ b fun b'=>nQ c fun c'=>nQ d fun d'=>k (.iw a' b' c' d')
  | .km a,k=>nQ a fun a'=>k (.km a')
  | .mp a,k=>nQ a fun a'=>k (.mp a')
def Mu {β:Type}:List V→(List V→β)→β
  | [],k=>k []
  | c :: r,k=>fV c fun c'=>Mu r fun r'=>k (c' :: r')
end
mutual
theorem HD {β:Type}:∀ (v:V) (k:V→β),fV v k=k v
  | .undef,_=>by rw [fV]
  | .gn,_=>by rw [fV]
  | .sc v,k=>by rw [fV,Mt]
  | .agg cs,k=>by rw [fV,rl cs]
  | .ec cs,k=>by rw [fV,rl cs]
  | .slice cs,k=>by rw [fV,rl cs]
  | .full cs,k=>by rw [fV,rl cs]
  | .eW cs,k=>by rw [fV,rl cs]
  | .dU f a b,k=>by rw [fV,rl a,rl b]
  | .ms a b c d,k=>by rw [fV,jK,jK,jK,jK]
  | .ptr a b,k=>by rw [fV,jK,jK]
  | .iw a b c d,k=>by rw [fV,jK,jK,jK,jK]
  | .km a,k=>by rw [fV,jK]
  | .mp a,k=>by rw [fV,jK]
theorem rl {β:Type}:∀ (l:List V) (k:List V→β),Mu l k=k l
  | [],_=>by rw [Mu]
  | c :: r,k=>by rw [Mu,HD c,rl r]
end
def VY {β:Type}:List (Value×Nat×V)→(List (Value×Nat×V)→β)→β
  | [],k=>k []
  | (a,n,v) :: r,k=>VX a fun a'=>nQ n fun n'=>fV v fun v'=>VY r fun r'=>k ((a',n',v') :: r')
theorem Mv {β:Type}:∀ (l:List (Value×Nat×V)) (k:List (Value×Nat×V)→β),VY l k=k l
  | [],_=>rfl
  | (a,n,v) :: r,k=>by rw [VY,Mt,jK,HD,Mv r]
def fB {β:Type} (B:bm) (k:bm→β):β :=
  match B with
  | .hole=>k .hole
  | .dead=>k .dead
  | .oz=>k .oz
  | .box cs=>Mu cs fun uB=>k (.box uB)
  | .rows v e rs=>nQ v fun v'=>nQ e fun e'=>Mu rs fun nC=>k (.rows v' e' nC)
  | .vB v e rs=>nQ v fun v'=>nQ e fun e'=>Mu rs fun nC=>k (.vB v' e' nC)
  | .loop s p fr ps a b=>k (.loop s p fr ps a b)
  | .map dK c=>VY dK fun kvs'=>nQ c fun c'=>k (.map kvs' c')
  | .jR a b c d=>nQ a fun a'=>nQ b fun b'=>QD c fun c'=>nQ d fun d'=>k (.jR a' b' c' d')
  | .nY s p=>nQ p fun p'=>k (.nY s p')
theorem aeQ {β:Type} (B:bm) (k:bm→β):fB B k=k B:=by cases B <;> simp only [fB,rl,jK,Mv,rk]
def Ku {β:Type}:List Nat→List bm→(List bm→β)→β
  | [],m,k=>QD m k
  | i :: r,m,k=>match m[i]? with
    | some B=>fB B fun B'=>Ku r (m.set i B') k
    | none=>Ku r m k
theorem wi {β:Type}:∀ (ks:List Nat) (m:List bm) (k:List bm→β),Ku ks m k=k m
  | [],m,k=>rk m k
  | i :: r,m,k=>by
    simp only [Ku]
    split
    · rename_i B hB
      rw [aeQ,wi r]
      congr 1
      apply dq
      intro j
      rw [bK]
      split
      · rename_i JM;subst JM
        split
        · exact hB.symm
        · rename_i bR;rw [dN (by omega)]
      · rfl
    · exact wi r m k
def DI (o:Oper):Bool :=
  match o.op with
  | .move _|.assign _|.pick ..|.load ..|.extract ..|.nilCheck _|.field .. => true
  | _=>false
def fD {β:Type} (b:Bool) (v:V) (k:V→β):β:=match b with|true=>fW v k|false=>fV v k
theorem Yi {β:Type} (b:Bool) (v:V) (k:V→β):fD b v k=k v:=by cases b <;> simp only [fD,Yh,HD]
def VZ {β:Type} (b:Bool) (d:Option Tmp) (ks:List Nat) (s:St) (k:St→β):β :=
  match d with
  | some d=>fD b (s.fr.getD d .undef) fun v=>QD (if d<s.fr.length then s.fr.set d v else s.fr) fun fr=>Ku ks s.mem fun mem=>k { fr:=fr,mem:=mem }
  | none=>QD s.fr fun fr=>Ku ks s.mem fun mem=>k { fr:=fr,mem:=mem }
theorem uZ {β:Type} (b:Bool) (d:Option Tmp) (ks:List Nat) (s:St) (k:St→β):VZ b d ks s k=k s:=by
  unfold VZ;split;·rename_i d;rw [Yi,rk,wi];congr 1;split;(·rename_i hd;obtain⟨fr,mem⟩:=s;dsimp only at hd ⊢;congr 1;apply dq;intro j;rw [bK];split;(·rename_i JM;subst JM;rw [eU,af hd];rfl);·rfl);·rfl
  ·rw [rk,wi]
def V0 {β:Type}:List V→Nat→V→(List V→β)→β
  | [],_,_,k=>k []
  | _ :: r,0,v,k=>k (v :: r)
  | c :: r,d+1,v,k=>V0 r d v fun r'=>k (c :: r')
theorem Mw {β:Type}:∀ (l:List V) (d:Nat) (v:V) (k:List V→β),V0 l d v k=k (l.set d v)
  | [],_,_,_=>rfl
  | _ :: _,0,_,_=>rfl
  | c :: r,d+1,v,k=>by rw [V0,Mw r];rfl
def Mx {β:Type} (ks:List Nat) (m:List bm) (k:List bm→β):β:=match ks with|[]=>k m|_ :: _=>Ku ks m k
theorem HE {β:Type} (ks:List Nat) (m:List bm) (k:List bm→β):Mx ks m k=k m:=by
  unfold Mx;split;·rfl
  ·rw [wi]
def aaI {β:Type} (b:Bool) (d:Option Tmp) (ks:List Nat) (st:St) (v:V) (m:List bm) (k:St→β):β :=
  match d with
  | some d=>fD b v fun v=>V0 st.fr d v fun fr=>Mx ks m fun mem=>k { fr:=fr,mem:=mem }
  | none=>Mx ks m fun mem=>k { fr:=st.fr,mem:=mem }
theorem V1 {β:Type} (b:Bool) (d:Option Tmp) (ks:List Nat) (st:St) (v:V) (m:List bm) (k:St→β):aaI b d ks st v m k=k (St.put { st with mem:=m } d v):=by
  unfold aaI;split;·rw [Yi,Mw,HE];rfl
  ·rw [HE];rfl
def QE:V→List Nat
  | .ptr b _=>[b]
  | .iw b _ _ _=>[b]
  | .ms b _ _ _=>[b]
  | .mp b=>[b]
  | _=>[]
def My (key:Nat) (o:Oper) (st:St):List Nat :=
  match o.op with
  | .alloc _|.box ..|.buildSlice ..|.makeMap ..|.makeSlice ..|.range .. => [key]
  | .store _ p _=>QE (st.eval p)
  | .call { callee:=.builtin .append,args:=xs,.. }=>match xs.toList with|s :: _=>key :: QE (st.eval s)|_=>[]
  | .call { callee:=.builtin .delete,args:=xs,.. }=>match xs.toList with|s :: _=>QE (st.eval s)|_=>[]
  | .mapUpdate _ m _ _|.insert _ m _ _|.mapEntry _ m _|.entryStore _ m _ _=>QE (st.eval m)
  | .call { callee:=.value _,.. }=>[0]
  | .next it _=>QE (st.eval it)
  | _=>[]
def N4 (P:Program) (tt:Table) (nat:qt) (mW:FuncId→List V→Option V) (call:lT) (km:N1) (all:Array Oper):List Oper→St→Option (List St)
  | [],st=>some [st]
  | o :: r,st=>match gi all st.fr o with
    | some true=>qv (QB P tt nat mW call km st.mem.length o st) fun p=>aaI (DI o) o.dst (My st.mem.length o st) st p.1 p.2 fun s'=>N4 P tt nat mW call km all r s'
    | some false=>N4 P tt nat mW call km all r (st.put o.dst (.sc undef))
    | none=>none
theorem rn {P:Program} {tt:Table} {nat:qt} {mW:FuncId→List V→Option V} (zO:qw P mW) {call:lT} {km:N1} (tK:mV P nat) (hc:kp P call) (hy:QC P km) {all:Array Oper} {Q:St→Prop}:∀ {l:List Oper} {st:St} {outs:List St},N4 P tt nat mW call km all l st=some outs→(∀ s∈outs,Q s)→fe P tt all l st Q
  | [],st,outs,h,hQ=>by cases h;exact hQ _ (by simp)
  | o :: r,st,outs,h,hQ=>by
    simp only [N4] at h
    simp only [fe]
    split at h
    · rename_i hw
      rw [hw]
      obtain⟨l,h1,h2⟩:=iS h
      refine HC zO tK hc hy h1 fun s hs=>?_
      obtain⟨b,h3,h4⟩:=h2 s hs
      rw [V1] at h3
      exact rn zO tK hc hy h3 fun s' qc=>hQ _ (h4 _ qc)
    · rename_i hw
      rw [hw]
      exact rn zO tK hc hy h hQ
    · cases h
def ic:Nat→List bm→List (Nat×Nat)
  | _,[]=>[]
  | i,.rows v _ _ :: r=>(i,v) :: ic (i+1) r
  | i,.vB v _ _ :: r=>(i,v) :: ic (i+1) r
  | i,_ :: r=>ic (i+1) r
theorem rq:∀ {m:List bm} {n k v e:Nat} {rs:List V},(m[k]?=some (.rows v e rs)∨m[k]?=some (.vB v e rs))→(n+k,v)∈ic n m
  | [],n,k,v,e,rs,h=>by simp at h
  | B :: r,n,0,v,e,rs,h=>by
    simp only [ee,aB] at h
    rcases h with rfl|rfl <;> simp [ic]
  | B :: r,n,k+1,v,e,rs,h=>by
    simp only [ia] at h
    have:=rq (n:=n+1) h
    rw [show n+1+k=n+(k+1) from by omega] at this
    cases B <;> simp only [ic] <;> first|exact this|exact bE _ this
def kN (mem:List bm) (v:V):V:=match dk mem v with|some v'=>v'|none=>v
def aaJ (mem:List bm):V→V
  | .agg cs=>.agg (cs.map (kN mem))
  | .ec vs=>.ec (vs.map fun v=>match v with|.agg cs=>.agg (cs.map (kN mem))|v=>kN mem v)
  | v=>kN mem v
def xS (mem:List bm):bm→bm
  | .box cs=>.box (cs.map (kN mem))
  | B=>B
def HF (st:St):Option St :=
  let keys:=ic 0 st.mem
  match fw st.mem (keys.map fun (k:Nat×Nat)=>V.ms k.1 k.2 0 0) with
  | some _=>some { fr:=st.fr.map (aaJ st.mem),mem:=(eP st.mem keys).map (xS st.mem) }
  | none=>none
theorem Mz:∀ (keys:List (Nat×Nat)),(keys.map fun (k:Nat×Nat)=>V.ms k.1 k.2 0 0).flatMap fg=keys
  | []=>rfl
  | k :: r=>by simp [fg,lB,Mz r]
theorem N5 {mem:List bm} {B:bm} (h:∀ cs,B ≠ .box cs):xS mem B=B:=by cases B <;> first|rfl|exact absurd rfl (h _)
theorem Kv (mem:List bm) (B:bm):(xS mem B).dF=B.dF:=by cases B <;> rfl
theorem HG {E:Env} {w:World} {a:Act} {st st':St} (hs:cY E w a st) (h:HF st=some st'):∃ E',cY E' w a st'∧il E w E' w:=by
  unfold HF at h;dsimp only at h;split at h;·rename_i vs' hp;cases h;obtain⟨ks,V2⟩:∃ ks,ks=((ic 0 st.mem).map (fun (k:Nat×Nat)=>V.ms k.1 k.2 0 0)).flatMap fg:=⟨_,rfl⟩;(have aeR:il E w (E.qL w ks) w∧cY (E.qL w ks) w a { st with mem:=eP st.mem ks }:=by subst V2;obtain⟨hg,h1,h2⟩:=AQ hs hp (F':=(E.qL w (((ic 0 st.mem).map (fun (k:Nat×Nat)=>V.ms k.1 k.2 0 0)).flatMap fg)).F) (fun _ _ h=>h) (fun ad y h=>Env.Mk hs.F h) (fun _ _ h=>.inl h) (Go.RowKit.Below.refl _ w);exact⟨h1,h2⟩);rw [Mz] at V2;subst V2;obtain⟨iz,uP⟩:=aeR;(have vP:∀ {v:V} {x:Value},cV E v x→cV (E.qL w (ic 0 st.mem)) (kN st.mem v) x:=fun {v x} hr=>by unfold kN;split;(·rename_i v' hv;refine (pS hs hr hv fun k hk=>?_).mono (Env.tB _);cases v <;> simp only [lB,dX,o3] at hk;subst hk;simp only [dk] at hv;split at hv;(·rename_i hm;split at hv;(·rename_i hc;have:=rq (n:=0) (.inl hm);rw [aZ,hc.1] at this;exact this);·cases hv);(·rename_i hm;split at hv;(·rename_i hc;have:=rq (n:=0) (.inr hm);rw [aZ,hc.1] at this;exact this);·cases hv);·cases hv);·exact hr.mono (Env.xK E w _));(have Vs:∀ {cs:List V} {xs:List Value},cJ E cs xs→cJ (E.qL w (ic 0 st.mem)) (cs.map (kN st.mem)) xs:=fun {cs xs} hr=>by refine⟨by simpa using hr.1,fun i c x hc hx=>?_⟩;simp only [ae,bH] at hc;obtain⟨c0,HH,rfl⟩:=hc;exact vP (hr.2 i c0 x HH hx));(have h1:∀ {v:V} {x:Value},cV E v x→cV (E.qL w (ic 0 st.mem)) (match v with|.agg cs=>.agg (cs.map (kN st.mem))|v=>kN st.mem v) x:=fun {v x} hr=>by split;(·rename_i cs;cases hr with|agg _ cs xs hl hh =>have:=Vs (cs:=cs) (xs:=xs.toList) ⟨by simpa using hl,fun i c x hc hx=>hh i c x hc (by simpa using hx)⟩;exact .agg _ _ _ (by simpa using this.1) fun i c x hc hx=>this.2 i c x hc (by simpa using hx));·exact vP hr);(have hV:∀ {v:V} {x:Value},cV E v x→cV (E.qL w (ic 0 st.mem)) (aaJ st.mem v) x:=fun {v x} hr=>by unfold aaJ;split;(·exact h1 (v:=.agg _) hr);(·rename_i vs;cases hr with|ec _ vs xs hl hh =>refine .ec _ _ _ (by simpa using hl) fun i c x hc hx=>?_;simp only [ae,bH] at hc;obtain⟨c0,HH,rfl⟩:=hc;exact h1 (hh i c0 x HH hx));·exact vP hr);refine⟨_,⟨uP.F,uP.lt,fun k B hk=>?_,fun k hk=>uP.top k (by simpa using hk),fun k B hk v hv=>?_,uP.apart,⟨by simpa using hs.fr.1,fun i v x hv hx=>?_⟩⟩,iz⟩;(·simp only [ae,bH] at hk;obtain⟨B0,Ml,rfl⟩:=hk;have h0:=uP.mem k B0 Ml;by_cases aeS:∃ cs,B0 = .box cs;(·obtain⟨cs,rfl⟩:=aeS;(have hold:st.mem[k]?=some (.box cs):=by rw [qW] at Ml;cases U4:st.mem[k]? with|none=>rw [U4] at Ml;simp [pw] at Ml|some B1 =>rw [U4] at Ml;cases B1 <;> simp only [pw] at Ml <;> first|exact Ml|(split at Ml <;> cases Ml));obtain⟨g,T,xs,q1,q2,q3,q4⟩:=h0;obtain⟨g',T',uT,r1,r2,r3,r4⟩:=hs.mem k _ hold;(have:g=g':=by have:=iz.le.cw _ _ _ r1;have e:(E.qL w (ic 0 st.mem)).cw k 0=some (g,0,0):=q1;have e2:(E.qL w (ic 0 st.mem)).cw k 0=some (g',0,0):=this;rw [e] at e2;cases e2;rfl);subst this;rw [r2] at q2;cases q2;exact⟨g,T,xs,q1,r2,Vs r3,q4⟩);·rw [N5 fun cs e=>aeS ⟨cs,e⟩];exact h0);(·simp only [ae,bH] at hk;obtain⟨B0,Ml,rfl⟩:=hk;rw [Kv] at hv;exact uP.dF k B0 Ml v hv);·simp only [ae,bH] at hv;obtain⟨v0,J6,rfl⟩:=hv;exact hV (hs.fr.2 i v0 x J6 hx)
  ·cases h
theorem Ba {P:Program} {ρ:Option Nat} {n0:Nat} {c:Code} {st st':St} {Q:Exit→St→Prop} (hf:HF st=some st') (h:eg P ρ n0 c st' Q):eg P ρ n0 c st Q:=fun E0 w0 h0 E w a he hs Gz=>by obtain⟨E',h1,h2⟩:=HG hs hf;exact h E0 w0 h0 E' w a (he.trans h2) h1 (Gz.NP h2)
abbrev qx:=FuncId→List V→Option V
abbrev yY:=FuncId→List V→Option (Nat×List V)
def Fj (P:Program) (live:yY):Prop:=∀ f vs e rs,live f vs=some (e,rs)→yS P f vs e rs
def Kw (live:yY) (o:Oper) (key:Nat) (st:St):Option St :=
  match o.op with
  | .call { callee:=.value f,args:=xs,.. }=>match da (st.eval f) (xs.toList.map st.eval) with
    | some (g,vs)=>match fw [] vs with
      | some vs'=>match live g vs' with
        | some (e,rs)=>some (xO st key o.dst e rs)
        | none=>none
      | none=>none
    | none=>none
  | _=>none
theorem Fk {P:Program} {live:yY} (hl:Fj P live) {o:Oper} {key:Nat} {st s:St} {Q:St→Prop} (h:Kw live o key st=some s) (hQ:Q s):uX P o key st Q:=by
  unfold Kw at h;unfold uX;split at h;·rename_i heq;rw [heq];dsimp only;split at h;(·rename_i g vs hg;rw [hg];dsimp only;split at h;(·rename_i vs' hv;split at h;(·rename_i e rs hr;cases h;exact⟨vs',e,rs,hv,hl _ _ _ _ hr,hQ⟩);·cases h);·cases h);·cases h
  ·cases h
def u0 (P:Program) (pure:qx):Prop:=∀ f vs r,pure f vs=some r→cx P f vs r
def V3 (P:Program) (tt:Table) (nat:qt) (pure:qx) (o:Oper) (C1 st:St):Option St :=
  match o.op with
  | .call { callee:=.value f,args:=xs,.. }=>match da (C1.eval f) (xs.toList.map C1.eval) with
    | some (g,vs)=>match fw [] vs with
      | some vs'=>match pure g vs' with
        | some r=>some (st.put o.dst r)
        | none=>match nat g vs' with
          | some r=>some (st.put o.dst r)
          | none=>none
      | none=>none
    | none=>none
  | _=>match zN P tt o C1 with
    | some v=>some (st.put o.dst v)
    | none=>none
theorem Bb {P:Program} {tt:Table} {nat:qt} (tK:mV P nat) {pure:qx} (hp:u0 P pure) {o:Oper} {C1 st s:St} {Q:St→Prop} (h:V3 P tt nat pure o C1 st=some s) (hQ:Q s):oa P tt o C1 st Q:=by
  unfold V3 at h;unfold oa;split at h;·rename_i heq;rw [heq];dsimp only;split at h;(·rename_i g vs hg;rw [hg];dsimp only;split at h;(·rename_i vs' hv;split at h;(·rename_i r hr;cases h;exact⟨vs',r,hv,.inl (hp _ _ _ hr),hQ⟩);·split at h;(·rename_i r hr;cases h;exact⟨vs',r,hv,.inr (tK _ _ _ hr),hQ⟩);·cases h);·cases h);·cases h
  ·split at h;(·rename_i h1;cases h;split;(·exfalso;solve_by_elim);·rw [h1];exact hQ);·cases h
def Kx (pure:qx) (o:Oper) (st:St):Option St :=
  match o.op with
  | .call { callee:=.value f,args:=xs,.. }=>match da (st.eval f) (xs.toList.map st.eval) with
    | some (g,vs)=>match fw st.mem vs with
      | some vs'=>match pure g vs' with
        | some r=>some (St.put { st with mem:=gv st.mem (vs.flatMap fg) r } o.dst r)
        | none=>none
      | none=>none
    | none=>none
  | _=>none
theorem Fl {P:Program} {pure:qx} (hp:u0 P pure) {o:Oper} {st s:St} {Q:St→Prop} (h:Kx pure o st=some s) (hQ:Q s):qn P o st Q:=by
  unfold Kx at h;unfold qn;split at h;·rename_i f xs ts lH;split at h;(·rename_i g vs hg;split at h;(·rename_i vs' hv;split at h;(·rename_i r hr;cases h;rw [lH];dsimp only;rw [hg];exact⟨vs',r,hv,hp _ _ _ hr,hQ⟩);·cases h);·cases h);·cases h
  ·cases h
abbrev HI:=FuncId→List V→Nat→List bm→Option (V×bm)
def MA (P:Program) (HJ:HI):Prop:=∀ f vs k mem v B,HJ f vs k mem=some (v,B)→∃ B0,mem[k]?=some B0∧B0.dF=0∧B.dF=0∧bw P f vs mem v (mem.set k B)
def Kz (HJ:HI) (o:Oper) (k:Nat) (st:St):Option St :=
  match o.op with
  | .call { callee:=.value f,args:=xs,.. }=>match da (st.eval f) (xs.toList.map st.eval) with
    | some (g,vs)=>match HJ g vs k st.mem with
      | some (v,B)=>some (St.put { st with mem:=st.mem.set k B } o.dst v)
      | none=>none
    | none=>none
  | _=>none
theorem Fm {P:Program} {tt:Table} {HJ:HI} (he:MA P HJ) {o:Oper} {k:Nat} {st s:St} {Q:St→Prop} (h:Kz HJ o k st=some s) (hQ:Q s):vY P tt o k st Q:=by
  unfold Kz at h;unfold vY;split at h;·rename_i f xs ts lH;split at h;(·rename_i g vs hg;split at h;(·rename_i v B hb;cases h;obtain⟨B0,h1,h2,h3,h4⟩:=he _ _ _ _ _ _ hb;rw [lH];dsimp only;rw [hg];exact⟨v,B0,B,h2,h3,h1,h4,hQ⟩);·cases h);·cases h
  ·cases h
def KA (P:Program) (tt:Table) (nat:qt) (pure:qx) (live:yY) (HJ:HI) (all:Array Oper) (base:Nat) (o:Oper) (p:Pl) (st:St):Option St :=
  match gi all st.fr o with
  | some true=>match p.cls with
    | .n=>V3 P tt nat pure o { st with mem:=[] } st
    | .r=>V3 P tt nat pure o { st with mem:=eJ (p.mask.map (base + ·)++p.abs) st.mem } st
    | .a=>if isHole st.mem (base+p.key)=true then (match iQ tt o (base+p.key) st with
      | some (B,v)=>some (St.put { st with mem:=st.mem.set (base+p.key) B } o.dst v)
      | none=>Kw live o (base+p.key) st) else none
    | .w=>if isHole st.mem (base+p.key)=true then (match o8 P tt (base+p.key) o st with
      | some (m,v)=>some (St.put { st with mem:=m } o.dst v)
      | none=>none) else none
    | .s=>match rU tt (base+p.key) o st with
      | some m=>some (St.put { st with mem:=m } o.dst (.sc undef))
      | none=>none
    | .b=>match oI tt o { st with mem:=eJ (p.mask.map (base + ·)) st.mem } with
      | some v=>some (st.put o.dst v)
      | none=>none
    | .z=>Kx pure o st
    | .e=>match rU tt p.key o st with
      | some m=>some (St.put { st with mem:=m } o.dst (.sc undef))
      | none=>Kz HJ o p.key st
  | some false=>some (st.put o.dst (.sc undef))
  | none=>none
theorem Fp {P:Program} {tt:Table} {nat:qt} (tK:mV P nat) {pure:qx} {live:yY} {HJ:HI} (hp:u0 P pure) (hl:Fj P live) (hE:MA P HJ) {all:Array Oper} {base:Nat} {o:Oper} {p:Pl} {st s:St} {Q:St→Prop} (h:KA P tt nat pure live HJ all base o p st=some s) (hQ:Q s):fC P tt all base o p st Q:=by
  unfold KA at h;unfold fC;split at h;·rename_i hw;rw [hw];dsimp only;split at h;(·rename_i pO;rw [pO];exact Bb tK hp h hQ);(·rename_i pO;rw [pO];exact Bb tK hp h hQ);(·rename_i pO;rw [pO];dsimp only;split at h;(·rename_i hh;refine⟨hh,?_⟩;split at h;(·rename_i h1;cases h;rw [h1];exact hQ);·rename_i h1;rw [h1];exact Fk hl h hQ);·cases h);(·rename_i pO;rw [pO];dsimp only;split at h;(·rename_i hh;refine⟨hh,?_⟩;split at h;(·rename_i h1;cases h;rw [h1];exact hQ);·cases h);·cases h);(·rename_i pO;rw [pO];dsimp only;split at h;(·rename_i h1;cases h;rw [h1];exact hQ);·cases h);(·rename_i pO;rw [pO];dsimp only;split at h;(·rename_i h1;cases h;rw [h1];exact hQ);·cases h);(·rename_i pO;rw [pO];exact Fl hp h hQ);·rename_i pO;rw [pO];dsimp only;split at h;(·rename_i m h1;cases h;unfold vY;split;(·rename_i f xs ts lH;unfold rU at h1;rw [lH] at h1;cases h1);·rw [h1];exact hQ);·exact Fm hE h hQ
  ·rename_i hw;rw [hw];cases h;exact hQ
  ·cases h
def HK (P:Program) (tt:Table) (nat:qt) (pure:qx) (live:yY) (HJ:HI) (all:Array Oper) (base:Nat):List Oper→List Pl→St→Option St
  | [],_,st=>some st
  | o :: r,p :: ps,st=>match KA P tt nat pure live HJ all base o p st with
    | some s=>VZ (DI o) o.dst (My (base+p.key) o st) s fun s'=>HK P tt nat pure live HJ all base r ps s'
    | none=>none
  | _ :: _,[],_=>none
theorem yZ {P:Program} {tt:Table} {nat:qt} (tK:mV P nat) {pure:qx} {live:yY} {HJ:HI} (hp:u0 P pure) (hl:Fj P live) (hE:MA P HJ) {all:Array Oper} {base:Nat} {Q:St→Prop}:∀ {l:List Oper} {ps:List Pl} {st s:St},HK P tt nat pure live HJ all base l ps st=some s→Q s→runM P tt all base l ps st Q
  | [],_,st,s,h,hQ=>by cases h;exact hQ
  | o :: r,p :: ps,st,s,h,hQ=>by
    simp only [HK] at h
    simp only [runM]
    split at h
    · rename_i s1 h1
      rw [uZ] at h
      exact Fp tK hp hl hE h1 (yZ tK hp hl hE h hQ)
    · cases h
  | _ :: _,[],_,_,h,_=>by simp [HK] at h
mutual
def aaK:V→Nat
  | .ms b _ _ _|.ptr b _|.km b|.mp b|.iw b _ _ _=>b+1
  | .agg cs|.ec cs=>N6 cs
  | .dU _ a b=>max (N6 a) (N6 b)
  | _=>0
def N6:List V→Nat
  | []=>0
  | c :: r=>max (aaK c) (N6 r)
end
def akX:bm→Nat
  | .box cs=>N6 cs
  | .loop _ _ fr _ _ _=>N6 fr
  | .map dK _=>dK.foldr (fun k n=>max (aaK k.2.2) n) 0
  | .jR m _ _ _=>m+1
  | _=>0
def aeT (l:List bm):Nat:=l.foldr (fun B n=>max (akX B) n) 0
def aaL:Nat→Nat→List bm→Nat
  | 0,n,_=>n
  | k+1,n,mem=>let m:=max n (aeT (mem.take n));if m=n then n else aaL k m mem
def aeU (lo:Nat) (r:V) (mem:List bm):Option (V×List bm) :=
  let n:=aaL 8 (max lo (aaK r)) mem
  if lo≤n∧aG n r=true∧(mem.take n).all (aS n)=true then some (r,mem.take n) else none
def Ab:Exit→Bool
  | .ret=>true
  | .normal=>true
  | _=>false
def MB:Value→Value→Bool
  | .agg a,.agg b=>pA a.toList b.toList
  | .tuple a,.tuple b=>pA a.toList b.toList
  | .func (.func f) a b,.func (.func g) c d=>f==g&&a.isEmpty&&b.isEmpty&&c.isEmpty&&d.isEmpty
  | a,b=>E8 a b
theorem HL {a b:Value} (h:MB a b=true):a=b:=by
  unfold MB at h;split at h;·rename_i x y;rw [← cX (xs:=x),ra h,cX]
  ·rename_i x y;rw [← cX (xs:=x),ra h,cX]
  ·simp only [aD,beq_iff_eq,Array.isEmpty_iff] at h;obtain⟨⟨⟨⟨rfl,rfl⟩,rfl⟩,rfl⟩,rfl⟩:=h;rfl
  ·exact Dx h
mutual
def lU:V→V→Bool
  | .undef,.undef=>true
  | .gn,.gn=>true
  | .sc a,.sc b=>MB a b
  | .agg a,.agg b=>kq a b
  | .ec a,.ec b=>kq a b
  | .slice a,.slice b=>kq a b
  | .full a,.full b=>kq a b
  | .eW a,.eW b=>kq a b
  | .ms a b c d,.ms a' b' c' d'=>a==a'&&b==b'&&c==c'&&d==d'
  | .ptr a b,.ptr a' b'=>a==a'&&b==b'
  | .iw a b c d,.iw a' b' c' d'=>a==a'&&b==b'&&c==c'&&d==d'
  | .mp a,.mp b=>a==b
  | .km a,.km b=>a==b
  | .dU (.func f) a b,.dU (.func g) c d=>f==g&&kq a c&&kq b d
  | _,_=>false
def kq:List V→List V→Bool
  | [],[]=>true
  | a :: r,b :: s=>lU a b&&kq r s
  | _,_=>false
end
mutual
theorem wj:∀ {a b:V},lU a b=true→a=b
  | .undef,b,h=>by cases b <;> simp [lU] at h <;> rfl
  | .gn,b,h=>by cases b <;> simp [lU] at h <;> rfl
  | .sc a,b,h=>by
    cases b <;> simp only [lU,bJ] at h
    rw [HL h]
  | .agg a,b,h=>by
    cases b <;> simp only [lU,bJ] at h
    rw [gY h]
  | .ec a,b,h=>by
    cases b <;> simp only [lU,bJ] at h
    rw [gY h]
  | .slice a,b,h=>by
    cases b <;> simp only [lU,bJ] at h
    rw [gY h]
  | .full a,b,h=>by
    cases b <;> simp only [lU,bJ] at h
    rw [gY h]
  | .eW a,b,h=>by
    cases b <;> simp only [lU,bJ] at h
    rw [gY h]
  | .ms _ _ _ _,b,h=>by
    cases b <;> simp only [lU,bJ,aD,beq_iff_eq] at h
    obtain⟨⟨⟨rfl,rfl⟩,rfl⟩,rfl⟩:=h;rfl
  | .ptr _ _,b,h=>by
    cases b <;> simp only [lU,bJ,aD,beq_iff_eq] at h
    obtain⟨rfl,rfl⟩:=h;rfl
  | .iw _ _ _ _,b,h=>by
    cases b <;> simp only [lU,bJ,aD,beq_iff_eq] at h
    obtain⟨⟨⟨rfl,rfl⟩,rfl⟩,rfl⟩:=h;rfl
  | .mp _,b,h=>by
    cases b <;> simp only [lU,bJ,beq_iff_eq] at h
    rw [h]
  | .km _,b,h=>by
    cases b <;> simp only [lU,bJ,beq_iff_eq] at h
    rw [h]
  | .dU f a c,b,h=>by
    cases b with
    | dU g a' c' =>
      cases f <;> cases g <;> simp only [lU,bJ,aD,beq_iff_eq] at h
      obtain⟨⟨rfl,h1⟩,h2⟩:=h
      rw [gY h1,gY h2]
    | _=>cases f <;> simp [lU] at h
theorem gY:∀ {a b:List V},kq a b=true→a=b
  | [],b,h=>by cases b <;> simp [kq] at h <;> rfl
  | c :: r,b,h=>by
    cases b with
    | nil=>simp [kq] at h
    | cons d s =>
      simp only [kq,aD] at h
      rw [wj h.1,gY h.2]
end
def tL:List (Value×Nat×V)→List (Value×Nat×V)→Bool
  | [],[]=>true
  | a :: r,b :: s=>MB a.1 b.1&&a.2.1==b.2.1&&lU a.2.2 b.2.2&&tL r s
  | _,_=>false
theorem Bc:∀ {a b:List (Value×Nat×V)},tL a b=true→a=b
  | [],[],_=>rfl
  | (k,n,v) :: r,(k',n',v') :: s,h=>by
    simp only [tL,aD,beq_iff_eq] at h
    obtain⟨⟨⟨h1,h2⟩,h3⟩,h4⟩:=h
    rw [HL h1,h2,wj h3,Bc h4]
  | [],_ :: _,h=>by simp [tL] at h
  | _ :: _,[],h=>by simp [tL] at h
def QF:bm→bm→Bool
  | .hole,.hole=>true
  | .dead,.dead=>true
  | .oz,.oz=>true
  | .box a,.box b=>kq a b
  | .rows v e a,.rows v' e' b=>v==v'&&e==e'&&kq a b
  | .vB v e a,.vB v' e' b=>v==v'&&e==e'&&kq a b
  | .map a c,.map b d=>c==d&&tL a b
  | .jR a b c d,.jR a' b' c' d'=>a==a'&&b==b'&&c==c'&&d==d'
  | _,_=>false
theorem QG {a b:bm} (h:QF a b=true):a=b:=by
  unfold QF at h;split at h;·rfl
  ·rfl
  ·rfl
  ·rw [gY h]
  ·simp only [aD,beq_iff_eq] at h;obtain⟨⟨rfl,rfl⟩,h⟩:=h;rw [gY h]
  ·simp only [aD,beq_iff_eq] at h;obtain⟨⟨rfl,rfl⟩,h⟩:=h;rw [gY h]
  ·simp only [aD,beq_iff_eq] at h;obtain⟨rfl,h⟩:=h;rw [Bc h]
  ·simp only [aD,beq_iff_eq] at h;obtain⟨⟨⟨rfl,rfl⟩,rfl⟩,rfl⟩:=h;rfl
  ·cases h
def sN:List bm→List bm→Bool
  | [],[]=>true
  | a :: r,b :: s=>QF a b&&sN r s
  | _,_=>false
theorem tM:∀ {a b:List bm},sN a b=true→a=b
  | [],[],_=>rfl
  | x :: r,y :: s,h=>by simp only [sN,aD] at h;rw [QG h.1,tM h.2]
  | [],_ :: _,h=>by simp [sN] at h
  | _ :: _,[],h=>by simp [sN] at h
def dedup:List (V×List bm)→List (V×List bm)
  | []=>[]
  | p :: r=>if (dedup r).any (fun q=>lU p.1 q.1&&sN p.2 q.2)=true then dedup r else p :: dedup r
theorem tN:∀ {l:List (V×List bm)} {p:V×List bm},p∈l→p∈dedup l
  | q :: r,p,h=>by
    simp only [dedup]
    split
    · rename_i AO
      rcases dj.1 h with rfl|h
      · obtain⟨q',h1,h2⟩:=Gu.1 AO
        simp only [aD] at h2
        have:p=q':=asY (wj h2.1) (tM h2.2)
        rw [this];exact h1
      · exact tN h
    · rcases dj.1 h with rfl|h
      · exact bZ ..
      · exact bE _ (tN h)
def Vb (P:Program) (tt:Table) (code:qu):lT:=fun f vs mem =>
  match P.funcs[f]? with
  | some fn=>match fn.body with
    | some body=>(qv (fWs vs fun vs=>QD mem fun mem=>VZ true none [] (cB fn vs mem) fun s=>code false body s) fun o=>if Ab o.1=true then (match lI tt fn.results o.2 with
      | some r=>fV r fun r=>match aeU mem.length r o.2.mem with|some p=>QD p.2 fun m=>some [(p.1,m)]|none=>none
      | none=>none) else none).map dedup
    | none=>none
  | none=>none
def y0 (P:Program) (tt:Table) (code:qu):qx:=fun f vs =>
  match P.funcs[f]? with
  | some fn=>match fn.body with
    | some body=>match qv (fWs vs fun vs=>VZ true none [] (cB fn vs []) fun s=>code false body s) fun o=>if Ab o.1=true then (match rT tt fn.results o.2 with|some r=>fV r fun r=>some [r]|none=>none) else none with
      | some (r :: rs)=>if rs.all (lU r)=true then some r else none
      | _=>none
    | none=>none
  | none=>none
def KB:List (V×List bm)→Option (Nat×Nat×List V)
  | [(.ms 0 v 0 l,[.rows v' e rs])]=>if v'=v∧l=rs.length then some (v,e,rs) else none
  | [(.ms 0 v 0 0,[.rows v' e []]),(.sc (.slice none 0 0),[])]=>if v'=v then some (v,e,[]) else none
  | [(.sc (.slice none 0 0),[]),(.ms 0 v 0 0,[.rows v' e []])]=>if v'=v then some (v,e,[]) else none
  | _=>none
theorem KC {outs:List (V×List bm)} {v e:Nat} {rs:List V} (h:KB outs=some (v,e,rs)):∀ r m,(r,m)∈outs→(r = .ms 0 v 0 rs.length∧m=[.rows v e rs])∨(r = .sc (.slice none 0 0)∧m=[]∧rs=[]):=by
  unfold KB at h;split at h;·split at h;(·rename_i hc;cases h;obtain⟨rfl,rfl⟩:=hc;intro r m hm;simp at hm;exact .inl hm);·cases h
  ·split at h;(·rename_i hc;cases h;subst hc;intro r m hm;simp at hm;(rcases hm with ⟨rfl,rfl⟩|⟨rfl,rfl⟩);(·exact .inl ⟨rfl,rfl⟩);·exact .inr ⟨rfl,rfl,rfl⟩);·cases h
  ·split at h;(·rename_i hc;cases h;subst hc;intro r m hm;simp at hm;(rcases hm with ⟨rfl,rfl⟩|⟨rfl,rfl⟩);(·exact .inr ⟨rfl,rfl,rfl⟩);·exact .inl ⟨rfl,rfl⟩);·cases h
  ·cases h
theorem eo.live {P:Program} {f:FuncId} {vs:List V} {R:V→List bm→Prop} {v e:Nat} {rs:List V} (h:eo P f vs [] R) (hR:∀ r m,R r m→(r = .ms 0 v 0 rs.length∧m=[.rows v e rs])∨(r = .sc (.slice none 0 0)∧m=[]∧rs=[])):yS P f vs e rs:=by
  refine⟨v,h.1,fun E w xs hs hx=>(h.2 E w xs hs hx).mono ?_⟩;rintro en w' ⟨E',x,r,m,rfl,hr,iz,qc,nB⟩;rcases hR r m hr with ⟨rfl,rfl⟩|⟨rfl,rfl,rfl⟩
  ·exact⟨E',x,rfl,iz,qc,nB⟩
  ·obtain rfl:=gP nB;exact⟨E',_,rfl,iz,by simpa using qc.wh v e,.jl _ _ _ _⟩
def QH (P:Program) (tt:Table) (code:qu):yY:=fun f vs =>
  match Vb P tt code f vs [] with
  | some outs=>match KB outs with|some (_,e,rs)=>some (e,rs)|none=>none
  | none=>none
def QI (lo:Nat) (b:Bool) (m:List bm):Option (List (Bool×List bm)) :=
  let n:=aaL 8 lo m
  if lo≤n∧(m.take n).all (aS n)=true then QD (m.take n) fun m=>some [(b,m)] else none
theorem KD {lo:Nat} {b:Bool} {m:List bm} {x:List (Bool×List bm)} (h:QI lo b m=some x):∃ n,lo≤n∧(m.take n).all (aS n)=true∧(b,m.take n)∈x:=by
  unfold QI at h;dsimp only at h;split at h;·rename_i hc;rw [rk] at h;cases h;exact⟨_,hc.1,hc.2,by simp⟩
  ·cases h
def V4 (code:qu):N1:=fun k vs mem =>
  match mem[k]? with
  | some (.loop .ready none fr params assign body) =>
    if vs.length=params.size then
      qv (fWs vs fun vs=>VZ true none [] { fr:=pB params.toList vs fr,mem:=mem } fun s=>code true assign s) fun o=>match o.1,o.2.mem[k]? with
        | .normal,some (.loop .ready none Yc p1 VN VO) =>
          qv (VZ true none [] { o.2 with mem:=o.2.mem.set k (.loop .busy none Yc p1 VN VO) } fun s=>code true body s) fun u=>match sE u.1,u.2.mem[k]? with
            | some jump,some (.loop _ _ VQ p2 Qi Qj) =>
              QI mem.length jump.isNone (u.2.mem.set k (.loop (if jump.isNone then .ready else .done) jump VQ p2 Qi Qj))
            | _,_=>none
        | _,_=>none
    else none
  | _=>none
def V5:LoopState→Bool
  | .busy=>false
  | _=>true
def xT {α:Type} (f:α→Option (List (Exit×St))):List α→Option (List (Exit×St))
  | []=>none
  | a :: r=>match f a with|some x=>some x|none=>xT f r
theorem y1 {α:Type} {f:α→Option (List (Exit×St))}:∀ {l:List α} {x:List (Exit×St)},xT f l=some x→∃ a∈l,f a=some x
  | [],x,h=>by cases h
  | a :: r,x,h=>by
    simp only [xT] at h
    split at h
    · rename_i hx;cases h;exact⟨a,bZ ..,hx⟩
    · obtain⟨b,h1,h2⟩:=y1 h;exact⟨b,bE _ h1,h2⟩
def aaM (mW:FuncId→List V→Option V) (pure:qx):qx:=fun f vs=>match mW f vs with|some r=>some r|none=>pure f vs
theorem V6 {P:Program} {mW:FuncId→List V→Option V} {pure:qx} (h:qw P mW) (hp:u0 P pure):u0 P (aaM mW pure):=fun f vs r hr=>by
  unfold aaM at hr;split at hr;·rename_i r' h1;cases hr;exact h _ _ _ h1
  ·exact hp _ _ _ hr
theorem bw.Bd {P:Program} {f:FuncId} {vs:List V} {mem m m2:List bm} {v v':V} (h:bw P f vs mem v m)
    (step:∀ (E:Env) (w:World) (x:Value),cY E w { tmps := #[],defers:=[] } { fr:=[],mem:=m }→cV E v x→∃ E2,cY E2 w { tmps := #[],defers:=[] } { fr:=[],mem:=m2 }∧il E w E2 w∧cV E2 v' x)
    (hv:aG mem.length v'=true) (hm:(m2.take mem.length).all (aS mem.length)=true):bw P f vs mem v' (m2.take mem.length):=by
  refine⟨h.1,fun E w xs hs hx=>(h.2 E w xs hs hx).mono ?_⟩;rintro e w' ⟨E',x,rfl,iz,qc,nB⟩;obtain⟨E2,s2,ev2,Qz⟩:=step E' w' x qc nB;have he:=iz.trans ev2;have hc:=s2.cut (n:=mem.length) rfl hm;refine⟨E2.cut mem.length,x,rfl,⟨⟨he.le.F,fun k v t hk=>?_⟩,fun k v g e c hk=>?_,he.F,he.os,he.tape,he.output,he.size,he.heap⟩,hc,jJ Qz hv⟩;·(have:k<mem.length:=by (rcases br k mem.length with bR|hZ);(·exact bR);·rw [hs.top k hZ v] at hk;cases hk);exact (if_pos this).trans (he.le.cw _ _ _ hk)
  ·(have:E2.cw k v=some (g,e,c):=by by_cases mh:k<mem.length;(·exact ((if_pos mh).symm.trans hk:E2.cw k v=_));·have h2:(E2.cut mem.length).cw k v=none:=if_neg mh;rw [h2] at hk;cases hk);exact he.cw _ _ _ _ _ this
theorem bw.aaO {P:Program} {f:FuncId} {vs:List V} {mem m:List bm} {v v':V} (h:bw P f vs mem v m) (hp:gH m v=some v') (hv:aG mem.length v'=true) (hm:((eP m (fg v)).take mem.length).all (aS mem.length)=true) :
    bw P f vs mem v' ((eP m (fg v)).take mem.length):=h.Bd (fun E w x hs nB=>by
  obtain⟨E2,s2,ev2,r2⟩:=hs.freeze (vs:=[v]) (vs':=[v']) (by simp [fw,hp])
  have hr:[v].flatMap fg=fg v:=by simp
  rw [hr] at s2
  obtain⟨y,ys,hy,Qz,-⟩:=(r2 [x] (.cons nB (.nil _))).of_cons
  cases hy
  exact⟨E2,s2,ev2,Qz⟩) hv hm
def aaP (n:Nat) (v:V) (m:List bm):Option (V×List bm) :=
  if m.length=n then some (v,m) else match v with
    | .ptr k 0=>match m[k]? with
      | some (.box cs)=>if n≤k∧cs.all jm=true∧((m.set k .dead).take n).all (aS n)=true then some (.eW cs,(m.set k .dead).take n) else none
      | _=>none
    | _=>match gH m v with
      | some v'=>if aG n v'=true∧((eP m (fg v)).take n).all (aS n)=true then some (v',(eP m (fg v)).take n) else none
      | none=>none
theorem V7 {P:Program} {f:FuncId} {vs:List V} {mem m0 m:List bm} {v0 v:V} (h:bw P f vs mem v0 m0) (JO:aaP mem.length v0 m0=some (v,m)):bw P f vs mem v m:=by
  unfold aaP at JO;split at JO;·cases JO;exact h
  ·split at JO;(·rename_i k;split at JO;(·rename_i cs hk;split at JO;(·rename_i Dm;cases JO;refine h.Bd (fun E w x hs nB=>?_) (by simp [aG]) Dm.2.2;exact hs.aaG nB hk Dm.2.1);·cases JO);·cases JO);·split at JO;(·rename_i w hw;split at JO;(·rename_i Dm;cases JO;exact h.aaO hw Dm.1 Dm.2);·cases JO);·cases JO
def aaQ (call:lT):HI:=fun f vs k mem =>
  match mem[k]? with
  | some B0=>match call f vs mem with
    | some [(v0,m0)]=>match aaP mem.length v0 m0 with
      | some (v,m)=>match m[k]? with
        | some B=>if B0.dF=0∧B.dF=0∧sN m (mem.set k B)=true then some (v,B) else none
        | none=>none
      | none=>none
    | _=>none
  | none=>none
theorem V8 {P:Program} {call:lT} (hc:kp P call):MA P (aaQ call):=by
  intro f vs k mem v B h;unfold aaQ at h;split at h;·rename_i B0 h0;split at h;(·rename_i v0 m0 hf;split at h;(·rename_i v' m JO;split at h;(·rename_i B' hB;split at h;(·rename_i sn;cases h;obtain⟨h1,h2,h3⟩:=sn;have e:=tM h3;have h4:=hc f vs mem _ hf;have h5:bw P f vs mem v0 m0:=⟨h4.1,fun E w xs hs hx=>(h4.2 E w xs hs hx).mono fun e w' ⟨E',x,r',m',p1,p2,p4⟩=>by simp only [dX,dE] at p2;obtain⟨rfl,rfl⟩:=p2;exact⟨E',x,p1,p4⟩⟩;refine⟨B0,h0,h1,h2,?_⟩;rw [← e];exact V7 h5 JO);·cases h);·cases h);·cases h);·cases h
  ·cases h
def QJ (ops:List Oper) (st:St) (x:Operand):Option Nat :=
  match (match x with
    | .tmp t=>(match ops.find? (fun o:Oper=>o.dst==some t) with
      | some o=>(match o.op with|.fieldAddr _ y _=>some (st.eval y)|.move y=>some (st.eval y)|_=>none)
      | none=>none)
    | _=>none) with
  | some (.ptr k _)=>some k
  | _=>match st.eval x with
    | .ptr k _=>some k
    | _=>none
def HM (ops:List Oper) (st:St):List Oper→List Pl→List (Nat×Nat)
  | o :: r,p :: ps=>if p.cls = .e∧900≤p.key then (match o.op with|.store _ x _=>(match QJ ops st x with|some k=>(p.key,k) :: HM ops st r ps|none=>HM ops st r ps)|_=>HM ops st r ps) else HM ops st r ps
  | _,_=>[]
def V9 (mem:List bm) (w:Nat):Nat:=match mem[w]? with
  | some (.box cs)=>match (cs[8]?:Option V) with
    | some (.dU _ _ _)=>w
    | _=>match (cs[6]?:Option V) with
      | some (.dU _ _ [.ptr okk _,.ptr tk _])=>match (mem[tk]?:Option bm) with
        | some (.box [.dU _ _ [.ptr ik _]])=>match (mem[ik]?:Option bm) with
          | some (.box [.mp m])=>m
          | _=>okk
        | _=>okk
      | _=>w
  | _=>w
def Fq (ops:List Oper) (st:St):List Oper→List (Nat×Nat)
  | o :: r=>match o.op with
    | .call { callee:=.value _,args:=xs,.. }=>match xs.toList with
      | x :: _=>match QJ ops st x with
        | some w=>[(99,V9 st.mem w)]
        | none=>Fq ops st r
      | []=>Fq ops st r
    | _=>Fq ops st r
  | []=>[]
def aeV (l:List (Nat×Nat)) (a:Nat):Nat:=match l.find? (fun p:Nat×Nat=>p.1==a) with
  | some p=>p.2
  | none=>a
def QK (ops:Array Oper) (st:St) (pl:List Pl):List Pl:=match Fq ops.toList st ops.toList++HM ops.toList st ops.toList pl with
  | []=>pl
  | l=>pl.map fun p => { p with key:=if p.cls = .e then aeV l p.key else p.key,abs:=p.abs.map (aeV l) }
def fnM (r8 call:lT):lT:=fun f vs mem=>match r8 f vs mem with
  | some r=>some r
  | none=>call f vs mem
theorem KE {P:Program} {r8 call:lT} (ho:kp P r8) (hc:kp P call):kp P (fnM r8 call):=fun f vs mem outs h=>by
  unfold fnM at h;split at h;·rename_i hr;cases h;exact ho _ _ _ _ hr
  ·exact hc _ _ _ _ h
def noM:lT:=fun _ _ _=>none
theorem aaR {P:Program}:kp P noM:=fun _ _ _ _ h=>by cases h
def Wa (P:Program) (tt:Table) (nat:qt) (mW:FuncId→List V→Option V) (r8:lT) (code:qu) (ops:Array Oper) (st:St) (p:List Pl×Nat):Option (List (Exit×St)) :=
  if wb ops (QK ops st p.1)=true then (match HK P tt nat (aaM mW (y0 P tt code)) (QH P tt code) (aaQ (fnM r8 (Vb P tt code))) ops st.mem.length ops.toList (QK ops st p.1) { st with mem:=st.mem++List.replicate p.2 .hole } with
    | some s=>some [(.normal,s)]
    | none=>none) else none
def pW (P:Program) (tt:Table) (pl:HA) (nat:qt) (mW:FuncId→List V→Option V) (r8:lT) (code:qu):qu:=fun ρ c st =>
  match c with
  | .skip=>some [(.normal,st)]
  | .ret=>some [(.ret,st)]
  | .exit id=>some [(.exit id,st)]
  | .seq a b=>qv (code ρ a st) fun o=>match o.1 with
    | .normal=>code ρ b o.2
    | e=>some [(e,o.2)]
  | .cond x a b=>match st.eval x with
    | .sc (.bool t)=>code ρ (if t=true then a else b) st
    | _=>none
  | .block id c=>qv (code ρ c st) fun o=>match o.1 with
    | .exit j=>if j=id then some [(.normal,o.2)] else some [(.exit j,o.2)]
    | e=>some [(e,o.2)]
  | .loop c=>qv (code ρ c st) fun o=>match o.1 with
    | .normal=>code ρ (.loop c) o.2
    | e=>some [(e,o.2)]
  | .region _ ops false=>match N4 P tt nat mW (fnM r8 (Vb P tt code)) (V4 code) ops ops.toList st with
    | some l=>some (l.map fun s=>(.normal,s))
    | none=>match HF st with
      | some st'=>qv (N4 P tt nat mW (fnM r8 (Vb P tt code)) (V4 code) ops ops.toList st') fun s=>some [(.normal,s)]
      | none=>none
  | .region id ops true=>match xT (Wa P tt nat mW r8 code ops st) (pl id ops) with
    | some x=>some x
    | none=>match HF st with
      | some st'=>xT (Wa P tt nat mW r8 code ops st') (pl id ops)
      | none=>none
  | .rangeFunc f params assign body=>if ρ=true then none else
    match da (st.eval f) [.km st.mem.length] with
    | some (g,vs)=>qv (Vb P tt code g vs (st.mem++[.loop .ready none st.fr params assign body])) fun o=>match o.2[st.mem.length]? with
      | some (.loop s n7 _ _ _ _)=>if V5 s=true then (match n7 with
        | none=>VZ true none [] { st with mem:=o.2.set st.mem.length .dead } fun s=>some [(.normal,s)]
        | some c=>VZ true none [] { st with mem:=o.2.set st.mem.length .dead } fun s=>code false c s) else none
      | _=>none
    | none=>none
  | _=>none
def ev (P:Program) (tt:Table) (pl:HA) (nat:qt) (mW:FuncId→List V→Option V) (r8:lT) (n:Nat):qu:=Nat.rec (fun _ _ _=>none) (fun _ r=>pW P tt pl nat mW r8 r) n
def Be (P:Program) (code:qu):Prop:=∀ b c st outs,code b c st=some outs→∀ (ρ:Option Nat) (n0:Nat) (Q:Exit→St→Prop),(b=true∨ρ=none)→(∀ o∈outs,Q o.1 o.2)→eg P ρ n0 c st Q
section
variable {P:Program} {tt:Table} {pl:HA} {nat:qt} {mW:FuncId→List V→Option V} {r8:lT} (ht:TT P tt) (hm:P.follows .mixedOrders=true)
  (gM:∀ (f:FuncId) (fn:Func) (body:Code),P.funcs[f]?=some fn→fn.body=some body→∀ (xs:Array Value) (w:World),(callFunc f xs).run P w = .ok (.enter f xs) w)
include ht gM
theorem xU {code:qu} (Yj:Be P code):kp P (Vb P tt code):=by
  intro f vs mem outs h;unfold Vb at h;split at h;·rename_i fn hf;split at h;(·rename_i body hb;rw [bH] at h;obtain⟨aoS,h,Qp⟩:=h;obtain⟨l,h1,h2⟩:=iS h;rw [Fi,rk,uZ] at h1;refine Qh ht hf hb (gM f fn body hf hb) (Yj _ _ _ _ h1 none _ _ (.inr rfl) fun o ho=>?_);obtain⟨b,h3,h4⟩:=h2 o ho;split at h3;(·rename_i he;split at h3;(·rename_i r hr;rw [HD] at h3;split at h3;(·rename_i p hp;rw [rk] at h3;cases h3;unfold aeU at hp;dsimp only at hp;split at hp;(·rename_i sn;cases hp;refine⟨?_,r,_,sn.1,hr,sn.2.1,sn.2.2,by rw [← Qp];exact tN (h4 _ (by simp))⟩;cases ho1:o.1 <;> simp [Ab,ho1] at he <;> simp);·cases hp);·cases h3);·cases h3);·cases h3);·cases h
  ·cases h
theorem HN {code:qu} (Yj:Be P code):u0 P (y0 P tt code):=by
  intro f vs r h;unfold y0 at h;split at h;·rename_i fn hf;split at h;(·rename_i body hb;split at h;(·rename_i r1 rs PW;split at h;(·rename_i cD;cases h;obtain⟨l,h1,h2⟩:=iS PW;rw [Fi,uZ] at h1;refine jU ht hf hb (gM f fn body hf hb) (Yj _ _ _ _ h1 none _ _ (.inr rfl) fun o ho=>?_);obtain⟨b,h3,h4⟩:=h2 o ho;split at h3;(·rename_i he;split at h3;(·rename_i r2 hr;rw [HD] at h3;cases h3;(have EW:r2=r:=by (rcases dj.1 (h4 r2 (by simp)) with h|h);(·exact h);·exact (wj (aX.1 cD _ h)).symm);subst EW;refine⟨?_,hr⟩;cases ho1:o.1 <;> simp [Ab,ho1] at he <;> simp);·cases h3);·cases h3);·cases h);·cases h);·cases h
  ·cases h
theorem QL {code:qu} (Yj:Be P code):Fj P (QH P tt code):=by
  intro f vs e rs h;unfold QH at h;split at h;·rename_i outs ho;split at h;(·rename_i v e' nC hl;cases h;exact (xU ht gM Yj f vs [] outs ho).live fun r m hr=>KC hl r m hr);·cases h
  ·cases h
omit ht gM in
theorem MC {code:qu} (Yj:Be P code):QC P (V4 code):=by
  intro k vs mem outs h;unfold V4 at h;split at h;·rename_i fr params assign body hk;split at h;(·rename_i hlen;obtain⟨l1,h1,h2⟩:=iS h;rw [Fi,uZ] at h1;refine vW hk hlen fun l=>Yj _ _ _ _ h1 (some l) _ _ (.inl rfl) fun o ho=>?_;obtain⟨b,h3,h4⟩:=h2 o ho;split at h3;(·rename_i Yc p1 VN VO he iA;refine⟨he,Yc,p1,VN,VO,iA,?_⟩;obtain⟨l2,h5,h6⟩:=iS h3;rw [uZ] at h5;refine Yj _ _ _ _ h5 (some l) _ _ (.inl rfl) fun u hu=>?_;obtain⟨b2,h7,h8⟩:=h6 u hu;split at h7;(·rename_i jump s2 pe2 VQ p2 Qi Qj hj lr;obtain⟨n,hn,UZ,o7⟩:=KD h7;exact⟨n,jump,s2,pe2,VQ,p2,Qi,Qj,hn,hj,lr,UZ,h4 _ (h8 _ o7)⟩);·cases h7);·cases h3);·cases h
  ·cases h
include hm in
theorem Yk (zO:qw P mW) (N7:kp P r8) (tK:mV P nat):∀ (n:Nat),Be P (ev P tt pl nat mW r8 n)∧∀ b c st outs,ev P tt pl nat mW r8 n b (.loop c) st=some outs→∀ (ρ:Option Nat) (n0:Nat) (Q:Exit→St→Prop),(b=true∨ρ=none)→(∀ o∈outs,Q o.1 o.2)→mg P ρ n0 c n st Q:=by
  intro n
  induction n with
  | zero=>exact⟨fun b c st outs h=>by simp [ev] at h,fun b c st outs h=>by simp [ev] at h⟩
  | succ n ih =>
    obtain⟨MD,ihl⟩:=ih
    have jB:∀ b c st,ev P tt pl nat mW r8 (n+1) b c st=pW P tt pl nat mW r8 (ev P tt pl nat mW r8 n) b c st:=fun _ _ _=>rfl
    have loop:∀ b c st outs,ev P tt pl nat mW r8 (n+1) b (.loop c) st=some outs→∀ (ρ:Option Nat) (n0:Nat) (Q:Exit→St→Prop),(b=true∨ρ=none)→(∀ o∈outs,Q o.1 o.2)→mg P ρ n0 c (n+1) st Q:=by
      intro b c st outs h ρ n0 Q hb hQ
      rw [jB] at h
      simp only [pW] at h
      obtain⟨l,h1,h2⟩:=iS h
      refine MD _ _ _ _ h1 ρ n0 _ hb fun o ho=>?_
      obtain⟨e,s⟩:=o
      obtain⟨b',h3,h4⟩:=h2 _ ho
      cases e with
      | normal=>exact ihl _ _ _ _ h3 ρ n0 Q hb fun o' XZ=>hQ _ (h4 _ XZ)
      | _=>cases h3;exact hQ (_,_) (h4 _ (by simp))
    refine⟨fun b c st outs h ρ n0 Q hb hQ=>?_,loop⟩
    cases c with
    | skip=>rw [jB] at h;cases h;exact ch (hQ (_,_) (by simp))
    | ret=>rw [jB] at h;cases h;exact bX (hQ (_,_) (by simp))
    | exit id=>rw [jB] at h;cases h;exact eH (hQ (_,_) (by simp))
    | seq x y =>
      rw [jB] at h
      simp only [pW] at h
      obtain⟨l,h1,h2⟩:=iS h
      refine bz (MD _ _ _ _ h1 ρ n0 _ hb fun o ho=>?_)
      obtain⟨e,s⟩:=o
      obtain⟨b',h3,h4⟩:=h2 _ ho
      cases e with
      | normal=>exact MD _ _ _ _ h3 ρ n0 Q hb fun o' XZ=>hQ _ (h4 _ XZ)
      | _=>cases h3;exact hQ (_,_) (h4 _ (by simp))
    | cond x y z =>
      rw [jB] at h
      simp only [pW] at h
      split at h
      · rename_i t hx
        exact ba hx (MD _ _ _ _ h ρ n0 Q hb hQ)
      · cases h
    | block id c =>
      rw [jB] at h
      simp only [pW] at h
      obtain⟨l,h1,h2⟩:=iS h
      refine bY (MD _ _ _ _ h1 ρ n0 _ hb fun o ho=>?_)
      obtain⟨e,s⟩:=o
      obtain⟨b',h3,h4⟩:=h2 _ ho
      cases e with
      | exit j =>
        dsimp only at h3
        simp only [ko]
        split at h3
        · rename_i hj;cases h3;rw [if_pos hj];exact hQ (_,_) (h4 _ (by simp))
        · rename_i hj;cases h3;rw [if_neg hj];exact hQ (_,_) (h4 _ (by simp))
      | _=>cases h3;exact hQ (_,_) (h4 _ (by simp))
    | loop c=>exact sC (n+1) (loop _ _ _ _ h ρ n0 Q hb hQ)
    | region id ops d =>
      rw [jB] at h
      cases d with
      | false =>
        simp only [pW] at h
        split at h
        · rename_i l h1
          cases h
          exact mT ht (rn zO tK (KE N7 (xU ht gM MD)) (MC MD) h1 fun s hs=>hQ (_,_) (dr.2 ⟨s,hs,rfl⟩))
        · split at h
          · rename_i st' P7
            obtain⟨l,h1,h2⟩:=iS h
            refine Ba P7 (mT ht (rn zO tK (KE N7 (xU ht gM MD)) (MC MD) h1 fun s hs=>?_))
            obtain⟨b',h3,h4⟩:=h2 _ hs
            cases h3
            exact hQ (_,_) (h4 _ (by simp))
          · cases h
      | true =>
        simp only [pW] at h
        have one:∀ (st:St) (outs:List (Exit×St)),(∀ o∈outs,Q o.1 o.2)→xT (Wa P tt nat mW r8 (ev P tt pl nat mW r8 n) ops st) (pl id ops)=some outs→eg P ρ n0 (.region id ops true) st Q:=fun st outs hQ h=>by
          obtain⟨p,-,hp⟩:=y1 h
          unfold Wa at hp
          split at hp
          · rename_i fF
            split at hp
            · rename_i s hs
              cases hp
              exact qs ht hm (QK ops st p.1) p.2 fF (yZ tK (V6 zO (HN ht gM MD)) (QL ht gM MD) (V8 (KE N7 (xU ht gM MD))) hs (hQ (_,_) (by simp)))
            · cases hp
          · cases hp
        split at h
        · rename_i x hx;cases h;exact one st _ hQ hx
        · split at h
          · rename_i st' P7
            exact Ba P7 (one st' _ hQ h)
          · cases h
    | rangeFunc f params assign body =>
      rw [jB] at h
      simp only [pW] at h
      split at h
      · cases h
      · rename_i hbf
        have hρ : ρ = none := by rcases hb with h|h
                                 · exact absurd h hbf
                                 · exact h
        subst hρ
        split at h
        · rename_i g vs hg
          obtain⟨l,h1,h2⟩:=iS h
          refine sG hg (xU ht gM MD _ _ _ _ h1) fun r zL hr=>?_
          obtain⟨b',h3,h4⟩:=h2 _ hr
          dsimp only at h3
          split at h3
          · rename_i s n7 fr' U8 U9 Va hm2
            split at h3
            · rename_i qM
              refine⟨s,n7,fr',U8,U9,Va,hm2,(fun e=>by subst e;cases qM),?_⟩
              split at h3
              · rw [uZ] at h3;cases h3;exact hQ (_,_) (h4 _ (by simp))
              · rename_i c
                rw [uZ] at h3
                exact MD _ _ _ _ h3 none n0 Q (.inr rfl) fun o' XZ=>hQ _ (h4 _ XZ)
            · cases h3
          · cases h3
        · cases h
    | _=>rw [jB] at h;simp [pW] at h
include hm in
theorem Yl (zO:qw P mW) (N7:kp P r8) (tK:mV P nat) (n:Nat) {f:FuncId} {vs:List V} {r:V} (h:y0 P tt (ev P tt pl nat mW r8 n) f vs=some r):cx P f vs r:=HN ht gM (Yk ht hm gM zO N7 tK n).1 f vs r h
include hm in
theorem aaS (zO:qw P mW) (N7:kp P r8) (tK:mV P nat) (n:Nat) {f:FuncId} {vs:List V} {mem:List bm} {outs:List (V×List bm)} (h:Vb P tt (ev P tt pl nat mW r8 n) f vs mem=some outs):eo P f vs mem fun r m=>(r,m)∈outs:=xU ht gM (Yk ht hm gM zO N7 tK n).1 f vs mem outs h
end
def akY (P:Program):Bool:=P.funcs.all fun fn=>fn.name != "runtime.NumGoroutine"
theorem QM {P:Program} (h:akY P=true) (f:FuncId) (fn:Func) (body:Code) (hf:P.funcs[f]?=some fn) (hb:fn.body=some body) (xs:Array Value) (w:World):(callFunc f xs).run P w = .ok (.enter f xs) w:=by
  have bR:f<P.funcs.size:=(dH.1 hf).1;have hn:=(Array.all_eq_true.1 h) f bR;have hfe:P.funcs[f]=fn:=(dH.1 hf).2;rw [hfe] at hn;have cK:(fn.name == "runtime.NumGoroutine")=false:=by simpa using hn
  simp only [callFunc,program,Sem.run_bind];show (match P.funcs[f]? with|none=>_|some fn=>_:Sem Next).run P w=_;rw [hf];dsimp only;rw [cK,hb];rfl
def aaU (l:List (Nat×Nat×Nat×List Pl)):HA:=fun id ops =>
  (l.filter fun e=>e.1==id&&e.2.1==ops.size).map fun e=>(e.2.2.2,e.2.2.1)
def KF:List V→Option V
  | [.sc (.string a),.sc (.string b)]=>if 2≤b.size∧NF b.size=true∧a.size<4294967281 then
      (match (List.range (a.size+1-b.size)).find? fun i=>a.extract i (i+b.size)==b with
        | some i=>some (.sc (.int .i64 i))
        | none=>some (.sc (.int .i64 (-1)))) else none
  | _=>none
theorem N8 {P:Program} {f:FuncId} {fn:Func} {g:Nat} (hf:P.funcs[f]?=some fn) (hn:(fn.name == "runtime.NumGoroutine")=false) (hb:fn.body=none) (QN:Extern.findNext fn=none) (GM:Extern.find fn=some Extern.BytealgIndex.index)
    (hg:∀ w,(globalAddr "internal/bytealg.MaxLen").run P w = .ok ⟨g,0,none⟩ w) (hG:bk.g=some g) {vs:List V} {r:V} (h:KF vs=some r):sx P f vs r:=fun E w xs hF hx=>by
  unfold KF at h
  split at h
  · rename_i a b
    split at h
    · rename_i hc
      obtain⟨h2,hm,ha⟩:=hc
      rw [EE] at hm
      have hm:(b.size:Int)≤bk.n:=by simpa using hm
      obtain⟨x,r1,hy,EH,hx⟩:=hx.of_cons
      obtain⟨y,r2,hz,EW,hx⟩:=hx.of_cons
      have:=hx.of_nil
      subst this;subst hz
      obtain rfl:=gP EH
      obtain rfl:=gP EW
      obtain rfl:xs = #[.string a,.string b]:=by rw [← cX (xs:=xs),hy]
      have vP:w.cell? ⟨g,0,none⟩=some (.int .i64 bk.n):=hF _ _ (E.gl.n g hG)
      have akZ:Extern.BytealgIndex.maxLen.run P w = .ok bk.n w:=by
        simp [Extern.BytealgIndex.maxLen,hg,load,Sem.run,vP,asInt,asIntOf]
      have gS:(Extern.BytealgIndex.index #[.string a,.string b]).run P w = .ok (match (List.range (a.size+1-b.size)).find? fun i=>a.extract i (i+b.size)==b with|some i=>goInt i|none=>goInt (-1)) w:=by
        show (do
          let a ← Extern.Bytes.bytesOf (.string a)
          let b ← Extern.Bytes.bytesOf (.string b)
          if b.size<2||(b.size:Int)>(← Extern.BytealgIndex.maxLen) then
            unsupported (.noEntry "extern/internal/bytealg.Index.length")
          if a.size≥2 ^ 32-15 then
            unsupported (.noEntry "extern/internal/bytealg.Index: a haystack of 2^32 - 15 bytes or more")
          match (List.range (a.size+1-b.size)).find? fun i=>a.extract i (i+b.size)==b with
          | some i=>pure (goInt i)
          | none=>pure (goInt (-1)):Sem Value).run P w=_
        have e1:(decide (b.size<2))=false:=by simp;omega
        have e2:decide ((b.size:Int)>bk.n)=false:=by simp;omega
        have e3:¬ a.size≥2 ^ 32-15:=by omega
        simp only [Extern.Bytes.bytesOf,Sem.run_bind,Sem.run_pure,Result.andThen_ok,akZ,e1,e2,aY,bJ,if_false,e3]
        split <;> rfl
      refine⟨(match (List.range (a.size+1-b.size)).find? fun i=>a.extract i (i+b.size)==b with|some i=>goInt i|none=>goInt (-1)),?_,?_⟩
      · simp only [callFunc,program,Sem.run_bind]
        show (match P.funcs[f]? with|none=>_|some fn=>_:Sem Next).run P w=_
        rw [hf]
        dsimp only
        rw [hn,hb]
        simp only [bJ,if_false,ads,if_true,QN,GM,Sem.run_bind,mark,Sem.run,Result.andThen_ok]
        rw [gS];rfl
      · split at h
        · cases h;exact .sc _ _
        · cases h;exact .sc _ _
    · cases h
  · cases h
end Go.Eng
end
