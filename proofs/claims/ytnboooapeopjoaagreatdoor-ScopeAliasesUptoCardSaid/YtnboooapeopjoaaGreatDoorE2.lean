import Derived.Test.YtnboooapeopjoaaGreatDoorE1
import Derived.LoopNIn
import Derived.RangeFuncLeaves
import Derived.RangeFuncCalls
open Array renaming foldl_toList→ans,getElem?_eq_getElem→bS,mapM_eq_mapM_toList→anC,toList_append→jr,toList_inj→aeq,toList_zipIdx→an0
open List renaming getElem?_cons_zero→fb,getElem?_eq_getElem→ah,getElem?_map→ae,length_eq_zero_iff→cd,mapM_cons→ani,map_cons→cB
open Option renaming map_some→bz
open Option.some renaming injEq→aB
open Prod.mk renaming injEq→dQ
set_option linter.all false
section
namespace Go.Eng
variable [a6]
open Go.RowKit (Below)

def bk (P:Program) (f:FuncId) (args:List V) (mem:List ba) (r:V) (bM:List ba):Prop :=
 (∀ (xs:Array Value) (w:World),(callFunc f xs).run P w = .ok (.enter f xs) w) ∧
 ∀ (E:Env) (w:World) (xs:Array Value),cU E w { tmps := #[],defers:=[] } { fr:=[],mem:=mem }→cz E args xs.toList →
  Calls P f xs w fun e w'=>∃ E' x,e = .returned x∧gE E w E' w'∧cU E' w' { tmps := #[],defers:=[] } { fr:=[],mem:=bM }∧cK E' r x

def dR (P:Program) (f:FuncId) (args:List V) (mem:List ba) (R:V→List ba→Prop):Prop :=
 (∀ (xs:Array Value) (w:World),(callFunc f xs).run P w = .ok (.enter f xs) w) ∧
 ∀ (E:Env) (w:World) (xs:Array Value),cU E w { tmps := #[],defers:=[] } { fr:=[],mem:=mem }→cz E args xs.toList →
  Calls P f xs w fun e w'=>∃ E' x r bM,e = .returned x∧R r bM∧gE E w E' w'∧cU E' w' { tmps := #[],defers:=[] } { fr:=[],mem:=bM }∧cK E' r x
theorem dR.det {P:Program} {f:FuncId} {args:List V} {mem:List ba} {r:V} {bM:List ba} (h:dR P f args mem fun r' m'=>r'=r∧m'=bM):bk P f args mem r bM :=
 ⟨h.1,fun E w xs hs hx=>(h.2 E w xs hs hx).mono fun e w' ⟨E',x,r',m',h1,⟨h2,h3⟩,h4,h5,h6⟩=>by subst h2; subst h3; exact⟨E',x,h1,h4,h5,h6⟩⟩
theorem bk.rel {P:Program} {f:FuncId} {args:List V} {mem:List ba} {r:V} {bM:List ba} (h:bk P f args mem r bM):dR P f args mem fun r' m'=>r'=r∧m'=bM :=
 ⟨h.1,fun E w xs hs hx=>(h.2 E w xs hs hx).mono fun e w' ⟨E',x,h1,h4,h5,h6⟩=>⟨E',x,_,_,h1,⟨rfl,rfl⟩,h4,h5,h6⟩⟩
theorem dR.mono {P:Program} {f:FuncId} {args:List V} {mem:List ba} {R R':V→List ba→Prop} (h:dR P f args mem R) (hR:∀ r m,R r m→R' r m):dR P f args mem R' :=
 ⟨h.1,fun E w xs hs hx=>(h.2 E w xs hs hx).mono fun e w' ⟨E',x,r',m',h1,h2,h4⟩=>⟨E',x,r',m',h1,hR _ _ h2,h4⟩⟩

theorem cU.bare {E:Env} {w:World} {a:Act} {st:St} (hs:cU E w a st):cU E w { tmps := #[],defers:=[] } { fr:=[],mem:=st.mem } :=
 ⟨hs.F,hs.lt,hs.mem,hs.top,hs.dw,hs.apart,.nil _⟩
theorem cU.DW {E E':Env} {w w':World} {a:Act} {st:St} {bM:List ba} (hs:cU E w a st) (h:cU E' w' { tmps := #[],defers:=[] } { fr:=[],mem:=bM }) (hle:E.le E'):cU E' w' a { st with mem:=bM } :=
 ⟨h.F,h.lt,h.mem,h.top,h.dw,h.apart,hs.fr.mono hle⟩

def cP (fv:V) (args:List V):Option (FuncId×List V) :=
 match fv with
 | .sc (.func (.func g) first cap)=>some (g,first.toList.map V.sc++args++cap.toList.map V.sc)
 | .cC (.func g) first cap=>some (g,first++args++cap)
 | _=>none

def qo (P:Program) (f:FuncId) (vs:List V) (r:V):Prop :=
 ∀ (E:Env) (w:World) (xs:Array Value),(∀ ad x,E.F ad=some x→w.cell? ad=some x)→cz E vs xs.toList→∃ x,(callFunc f xs).run P w = .ok (.value x) w∧cK E r x
def Vq (P:Program) (f:FuncId) (vs:List V):Option V :=
 match oa vs with
 | some l=>match dv P (callFunc f l.toArray) with | some (.value v)=>some (kx v) | _=>none
 | none=>none
theorem Q5 {P:Program} {f:FuncId} {vs:List V} {r:V} (h:Vq P f vs=some r):qo P f vs r:=fun E w xs hF hx=>by
 unfold Vq at h;split at h;·rename_i l hl;have:=o1 hx hl;split at h;(·rename_i v hv;cases h;exact⟨v,fX _ (by rw [← this] at hv; simpa using hv) w,kj E v⟩);cases h
 cases h

def wz (P:Program) (f:FuncId) (vs:List V) (st:St) (dst:Option Tmp) (Q:St→Prop):Prop :=
 (∃ vs' r,fh st.mem vs=some vs'∧bG P f vs' r∧Q ({ st with mem:=fQ st.mem (vs.flatMap eR) r }.put dst r)) ∨
 (∃ r bM,bk P f vs st.mem r bM∧Q ({ st with mem:=bM }.put dst r)) ∨
 (∃ R,dR P f vs st.mem R∧∀ r bM,R r bM→Q ({ st with mem:=bM }.put dst r)) ∨
 (∃ r,qo P f vs r∧Q (st.put dst r))

def Ge (P:Program) (k:Nat) (vs:List V) (mem:List ba) (b:Bool) (bM:List ba):Prop :=
 ∀ (E:Env) (w:World) (xs:Array Value) (l e c:Nat),cU E w { tmps := #[],defers:=[] } { fr:=[],mem:=mem }→cz E vs xs.toList→E.cj k 0=some (l,e,c) →
  ∃ fn tmps assign body,(Instr.yield l xs).run P w = .ok (.round l fn tmps assign body) w∧RoundIn Fence.wide 0 P l fn tmps assign body w fun e w'=>∃ E',e = .returned (.bool b)∧gE E w E' w' ∧
   cU E' w' { tmps := #[],defers:=[] } { fr:=[],mem:=bM }

def JX (P:Program) (k:Nat) (vs:List V) (mem:List ba) (R:Bool→List ba→Prop):Prop :=
 ∀ (E:Env) (w:World) (xs:Array Value) (l e c:Nat),cU E w { tmps := #[],defers:=[] } { fr:=[],mem:=mem }→cz E vs xs.toList→E.cj k 0=some (l,e,c) →
  ∃ fn tmps assign body,(Instr.yield l xs).run P w = .ok (.round l fn tmps assign body) w∧RoundIn Fence.wide 0 P l fn tmps assign body w fun e w'=>∃ E' b bM,e = .returned (.bool b)∧R b bM∧gE E w E' w' ∧
   cU E' w' { tmps := #[],defers:=[] } { fr:=[],mem:=bM }
theorem JX.det {P:Program} {k:Nat} {vs:List V} {mem bM:List ba} {b:Bool} (h:JX P k vs mem fun b' m'=>b'=b∧m'=bM):Ge P k vs mem b bM:=fun E w xs l e c hs hx hb=>by obtain⟨fn,tmps,assign,body,h1,h2⟩:=h E w xs l e c hs hx hb;exact⟨fn,tmps,assign,body,h1,h2.mono fun e w' ⟨E',b',m',h3,⟨h4,h5⟩,h6,h7⟩=>by subst h4; subst h5; exact⟨E',h3,h6,h7⟩⟩

def tH (bd:List (Nat×Nat)) (ev:Operand→V):List (Nat×Operand)→List V→Option (List V)
 | [],cs=>some cs
 | (i,x) :: r,cs=>match bd[i]? with
  | some p=>match k7 (ev x) with
   | some new=>if new.length=p.2∧p.1+p.2≤cs.length then tH bd ev r (jW cs p.1 new) else none
   | none=>none
  | none=>none
def mq (ev:Operand→V):List (Nat×Operand)→Option (List (Nat×Value))
 | []=>some []
 | (i,x) :: r=>match ev x with
  | .sc v=>match mq ev r with | some l=>some ((i,v) :: l) | none=>none
  | _=>none
def Mc (P:Program) (T:TypeId) (l:List (Nat×Value)):Option V:=match dv P (Instr.build T l.toArray) with
 | some (.agg cs)=>some (.agg (cs.toList.map V.sc))
 | _=>none
def mH (P:Program) (tt:Table) (T:TypeId) (parts:List (Nat×Operand)) (ev:Operand→V):Option V :=
 match tt T with
 | some i=>if i.bd≠[] then (match tH i.bd ev parts (i.zero.map V.sc) with | some cs=>some (.agg cs) | none=>none) else
  match mq ev parts with | some l=>Mc P T l | none=>none
 | none=>none
theorem qp {E:Env} {st:St} {a:Act} (gD:∀ x,cK E (st.eval x) (a.eval x)):∀ {ps:List (Nat×Operand)} {l:List (Nat×Value)},mq st.eval ps=some l→(ps.map fun p=>(p.1,a.eval p.2))=l
 | [],l,h=>by cases h; rfl
 | (i,x) :: r,l,h=>by
  simp only [mq] at h
  split at h
  ·rename_i v hv
   split at h
   ·rename_i l' hl
    cases h
    have hx:=gD x
    rw [hv] at hx
    have:a.eval x=v:=by cases hx; rfl
    simp only [cB,this,qp gD hl]
   cases h
  cases h

def qq (tt:Table) (T:TypeId):V→Option Nat
 | .slice rows=>match iM tt T with | some _=>some rows.length | none=>none
 | .ms _ _ _ l=>match iM tt T with | some _=>some l | none=>none
 | _=>none
def od (tt:Table) (op:BinOp) (T:TypeId) (x y:V):Option Nat :=
 match op,y with
 | .eql,.sc (.slice none 0 0)=>qq tt T x
 | .neq,.sc (.slice none 0 0)=>qq tt T x
 | _,_=>none
def o7 (op:BinOp) (b:Bool):Bool:=match op with | .neq=>!b | _=>b
theorem sG {P:Program} {tt:Table} (ht:TT P tt) {T e:TypeId} (he:iM tt T=some e) (w:World) (xo yo:Operand) {op:BinOp} (lD:op = .eql∨op = .neq) (a:Option Addr) (l c:Nat) :
  (do eqGuard op T xo yo (.slice a l c) (.slice none 0 0); binOp op T (.slice a l c) (.slice none 0 0):Sem Value).run P w = .ok (.bool (o7 op a.isNone)) w:=by
 unfold iM at he;split at he;·rename_i i hi;obtain⟨d,hd,-,BF,-⟩:=ht.desc T i hi;obtain rfl:=BF e he;(have heq:(Op.equal T (.slice a l c) (.slice none 0 0)).run P w = .ok a.isNone w:=by show (Op.equalIn (9999+1) T (.slice a l c) (.slice none 0 0)).run P w=_;rw [Op.equalIn];simp only [Sem.run_bind,bn hd,Result.andThen_ok];cases a <;> rfl);(have hg:(eqGuard op T xo yo (.slice a l c) (.slice none 0 0)).run P w = .ok () w:=by rcases lD with rfl | rfl <;> rfl);rw [Sem.run_bind,hg,Result.andThen_ok];(rcases lD with rfl | rfl);(·show (do pure (Value.bool (← Op.equal T (.slice a l c) (.slice none 0 0))):Sem Value).run P w=_;rw [Sem.run_bind,heq]; rfl);show (do pure (Value.bool (!(← Op.equal T (.slice a l c) (.slice none 0 0)))):Sem Value).run P w=_;rw [Sem.run_bind,heq]; rfl
 cases he
theorem B7 {P:Program} {tt:Table} (ht:TT P tt) {E:Env} {w:World} {T:TypeId} {op:BinOp} {vx vy:V} {x y:Value} (xo yo:Operand) (hx:cK E vx x) (hy:cK E vy y) {n:Nat} (h:od tt op T vx vy=some n) :
  ∃ b:Bool,(n≠0→b=false)∧(do eqGuard op T xo yo x y; binOp op T x y:Sem Value).run P w = .ok (.bool (o7 op b)) w:=by
 have gen:(op = .eql∨op = .neq)→y = .slice none 0 0→qq tt T vx=some n→∃ b:Bool,(n≠0→b=false)∧(do eqGuard op T xo yo x y; binOp op T x y:Sem Value).run P w = .ok (.bool (o7 op b)) w:=by intro lD hyy h;subst hyy;unfold qq at h;split at h;(·split at h;(·rename_i e he;cases h;cases hx with | slice _ _ a cap sy ad xf ha mW hs hF h1 h2 =>refine⟨a.isNone,fun hn=>?_,sG ht he w xo yo lD _ _ _⟩;rw [ha (fun e=>hn (by rw [e]; rfl))]; rfl);cases h);(·split at h;(·rename_i e he;cases h;cases hx with | ms _ b v s l g e c a cap hb hl h0 hc =>refine⟨a.isNone,fun hn=>?_,sG ht he w xo yo lD _ _ _⟩;rw [hl (by omega)]; rfl | iz=>exact⟨true,fun hn=>absurd rfl hn,sG ht he w xo yo lD _ _ _⟩);cases h);cases h
 unfold od at h;split at h;·exact gen (.inl rfl) (fY hy) h
 ·exact gen (.inr rfl) (fY hy) h
 cases h

def evP (mem:List ba) (ev:Operand→V) (x:Operand):V:=match gu mem (ev x) with | some v=>v | none=>ev x
def B8 (ev:Operand→V) (parts:List (Nat×Operand)):List (Nat×Nat):=(parts.map fun p=>ev p.2).flatMap eR
def Q6 (tt:Table) (T:TypeId) (len:Nat) (parts:List (Nat×Operand)) (st:St):Option (Nat×List V) :=
 match fh st.mem (parts.map fun p=>st.eval p.2) with
 | some _=>vl tt T len parts (evP st.mem st.eval)
 | none=>none
def B9 (tt:Table) (mem:List ba) (T:TypeId) (p v:V):Option (List ba) :=
 match gu mem v with
 | some v'=>mG tt (ey mem (eR v)) T p v'
 | none=>none
def wA (tt:Table) (st:St) (ts:List TypeId) (s x:V) (dst:Option Tmp) (Q:St→Prop):Prop :=
 match nR tt st.mem ts s x with
 | some (size,b,v,l,rs,xs)=>∀ (o:Nat) (mo:List V),mo.drop o=rs++xs→o+(l+xs.length)=mo.length→Q ({ st with mem:=st.mem.set b (.rows (v+1) size mo) }.put dst (.ms b (v+1) o (l+xs.length)))
 | none=>False
def c8 (P:Program) (tt:Table) (key:Nat) (o:Oper) (st:St) (Q:St→Prop):Prop :=
 match o.op with
 | .alloc T=>match tt T with
  | some i=>Q ({ st with mem:=c7 st.mem key (.box (i.zero.map V.sc)) }.put o.dst (.ptr key 0))
  | none=>False
 | .box _ x=>match k7 (st.eval x) with
  | some cs=>Q ({ st with mem:=c7 st.mem key (.box cs) }.put o.dst (.ptr key 0))
  | none=>False
 | .build T parts=>match mH P tt T parts.toList st.eval with
  | some v=>Q (st.put o.dst v)
  | none=>False
 | .buildSlice T len parts=>match vl tt T len parts.toList st.eval with
  | some (size,rs)=>Q ({ st with mem:=c7 st.mem key (.rows 0 size rs) }.put o.dst (.ms key 0 0 len))
  | none=>match Q6 tt T len parts.toList st with
   | some (size,rs)=>Q ({ st with mem:=c7 (ey st.mem (B8 st.eval parts.toList)) key (.rows 0 size rs) }.put o.dst (.ms key 0 0 len))
   | none=>False
 | .store T p x=>match mG tt st.mem T (st.eval p) (st.eval x) with
  | some bM=>Q ({ st with mem:=bM }.put o.dst (.sc undef))
  | none=>match B9 tt st.mem T (st.eval p) (st.eval x) with
   | some bM=>Q ({ st with mem:=bM }.put o.dst (.sc undef))
   | none=>False
 | .call { callee:=.builtin .append,args:=xs,argTypes:=ts }=>match xs.toList.map st.eval with
  | [s,x]=>match iw tt st.mem ts.toList s x with
   | some (size,sD,rows)=>Q ({ st with mem:=(fM st.mem key size rows sD).1 }.put o.dst (fM st.mem key size rows sD).2)
   | none=>wA tt st ts.toList s x o.dst Q
  | _=>False
 | .call { callee:=.value f,args:=xs,.. }=>match st.eval f with
  | .jz k=>(∃ b bM,Ge P k (xs.toList.map st.eval) st.mem b bM∧Q ({ st with mem:=bM }.put o.dst (.sc (.bool b)))) ∨
    (∃ R,JX P k (xs.toList.map st.eval) st.mem R∧∀ b bM,R b bM→Q ({ st with mem:=bM }.put o.dst (.sc (.bool b))))
  | fv=>match cP fv (xs.toList.map st.eval) with
   | some (g,vs)=>wz P g vs st o.dst Q
   | none=>False
 | .makeSlice T l c=>match wy tt T (st.eval l) (st.eval c) with
  | some (size,rs,_)=>Q ({ st with mem:=c7 st.mem key (.rows 0 size rs) }.put o.dst (.ms key 0 0 rs.length))
  | none=>False
 | .makeMap _ none=>Q ({ st with mem:=c7 st.mem key (.map [] 0) }.put o.dst (.mp key))
 | .mapUpdate T m k x=>match dt P st.mem T (st.eval m) (st.eval k) (st.eval x) with
  | some bM=>Q ({ st with mem:=bM }.put o.dst (.sc undef))
  | none=>False
 | .insert T m k x=>match dt P st.mem T (st.eval m) (st.eval k) (st.eval x) with
  | some bM=>Q ({ st with mem:=bM }.put o.dst (.sc undef))
  | none=>False
 | .mapEntry T m k=>match vm P st.mem T (st.eval m) (st.eval k) with
  | some (bM,v)=>Q ({ st with mem:=bM }.put o.dst v)
  | none=>False
 | .entryStore _ m s x=>match vn st.mem (st.eval m) (st.eval s) (st.eval x) with
  | some bM=>Q ({ st with mem:=bM }.put o.dst (.sc undef))
  | none=>False
 | .call { callee:=.builtin .delete,args:=xs,argTypes:=ts }=>match rj P st.mem ts (xs.toList.map st.eval) with
  | some bM=>Q ({ st with mem:=bM }.put o.dst (.sc (.tuple #[])))
  | none=>False
 | .range T x=>match oD P st.mem T (st.eval x) with
  | some B=>Q ({ st with mem:=c7 st.mem key B }.put o.dst (.ptr key 0))
  | none=>False
 | .next it str=>tG st o.dst (st.eval it) str Q
 | .binOp op T x y _=>match od tt op T (st.eval x) (st.eval y) with
  | some n=>∀ b:Bool,(n≠0→b=false)→Q (st.put o.dst (.sc (.bool (o7 op b))))
  | none=>match lr P tt st o with
   | some v=>Q (st.put o.dst v)
   | none=>False
 | _=>match lr P tt st o with
  | some v=>Q (st.put o.dst v)
  | none=>False

theorem yi {P:Program} {E:Env} {w:World} {fv:V} {fx:Value} {args:List V} {xs:Array Value} {g:FuncId} {vs:List V} (hf:cK E fv fx) (ha:cz E args xs.toList) (h:cP fv args=some (g,vs)) :
  ∃ d,∃ ys:Array Value,cz E vs ys.toList∧(Deferred.ofValue fx xs).run P w = .ok d w∧(invoke d.target d.args).run P w=(callFunc g ys).run P w:=by
 unfold cP at h;split at h;·simp only [aB,dQ] at h;obtain⟨rfl,rfl⟩:=h;obtain rfl:=fY hf;(rename_i g first cap);have GD:∀ zs:Array Value,cz E (zs.toList.map V.sc) zs.toList:=fun zs=>⟨by simp,fun i c x hc hx=>ng E zs i c x hc (by simpa using hx)⟩;exact⟨{ target:=.fn (.func g) cap,args:=first++xs },first++xs++cap,by simp only [jr]; exact ((GD first).append ha).append (GD cap),rfl,by simp [invoke]⟩
 ·simp only [aB,dQ] at h;obtain⟨rfl,rfl⟩:=h;rename_i g _ _;cases hf with | cC _ _ first cap ys zs h1 h2 h3 h4 =>refine⟨{ target:=.fn (.func g) zs,args:=ys++xs },ys++xs++zs,?_,rfl,by simp [invoke]⟩;simp only [jr];exact (cz.append (cz.append ⟨by simpa using h1,fun i c x hc hx=>h3 i c x hc (by simpa using hx)⟩ ha) ⟨by simpa using h2,fun i c x hc hx=>h4 i c x hc (by simpa using hx)⟩)
 cases h

theorem qs {P:Program} {E:Env} {w:World} {fv:V} {fx:Value} {args:List V} {xs:Array Value} {g:FuncId} {vs:List V} (hf:cK E fv fx) (ha:cz E args xs.toList) (h:cP fv args=some (g,vs)) :
  ∃ ys:Array Value,cz E vs ys.toList∧(do let d ← Deferred.ofValue fx xs; invoke d.target d.args:Sem Next).run P w=(callFunc g ys).run P w:=by
 unfold cP at h;split at h;·simp only [aB,dQ] at h;obtain⟨rfl,rfl⟩:=h;obtain rfl:=fY hf;(rename_i first cap);have GD:∀ zs:Array Value,cz E (zs.toList.map V.sc) zs.toList:=fun zs=>⟨by simp,fun i c x hc hx=>ng E zs i c x hc (by simpa using hx)⟩;refine⟨first++xs++cap,by simp only [jr]; exact ((GD first).append ha).append (GD cap),?_⟩;simp [Deferred.ofValue,invoke]
 ·simp only [aB,dQ] at h;obtain⟨rfl,rfl⟩:=h;cases hf with | cC _ _ first cap ys zs h1 h2 h3 h4 =>refine⟨ys++xs++zs,?_,?_⟩;(·simp only [jr];exact (cz.append (cz.append ⟨by simpa using h1,fun i c x hc hx=>h3 i c x hc (by simpa using hx)⟩ ha) ⟨by simpa using h2,fun i c x hc hx=>h4 i c x hc (by simpa using hx)⟩));simp [Deferred.ofValue,invoke]
 cases h

theorem DX {P:Program} {tt:Table} {E:Env} {bd:List (Nat×Nat)} {ev:Operand→V} {av:Operand→Value} (mm:∀ o,cK E (ev o) (av o)):∀ (parts:List (Nat×Operand)) (cs:List V) (xs:Array Value) (out:List V),
  cz E cs xs.toList→tH bd ev parts cs=some out→∃ ys,Instr.fill (bd[·]?) xs (parts.map fun p=>(p.1,av p.2))=some ys∧cz E out ys.toList:=by intro parts;induction parts with | nil=>intro cs xs out hr h; simp only [tH,aB] at h; subst h; exact⟨xs,rfl,hr⟩ | cons p r ih =>intro cs xs out hr h;obtain⟨i,x⟩:=p;simp only [tH] at h;split at h;(·rename_i p hp;split at h;(·rename_i new ob;split at h;(·rename_i hc;obtain⟨h1,h2⟩:=o4 (mm x) ob;(have lZ:(av x).cells.size=p.2:=by have:=h1.1; simp at this; omega);(have u6:xs.size=cs.length:=by have:=hr.1; simp at this; omega);obtain⟨ys,h3,h4⟩:=ih _ _ out (wo new _ cs xs p.1 h1 hr) h;refine⟨ys,?_,h4⟩;simp only [cB,Instr.fill,hp,lZ];rw [if_neg (by simp; omega),← h3];congr 1;rw [← ans,an0];exact wu p.1 (av x).cells.toList 0 xs);cases h);cases h);cases h

theorem tI {P:Program} {tt:Table} (ht:TT P tt) {E:Env} {w:World} {a:Act} {st:St} (hs:cU E w a st) {T:TypeId} {parts:Array (Nat×Operand)} {v:V} (h:mH P tt T parts.toList st.eval=some v) :
  ∃ x,(Instr.build T (parts.map fun (i,x)=>(i,a.eval x))).run P w = .ok x w∧cK E v x:=by
 unfold mH at h;split at h
 ·rename_i i hi;split at h
  ·rename_i dK;split at h
   ·rename_i cs BB;simp only [aB] at h; subst h;obtain⟨info,Ao,-,-,z,hz,DK⟩:=ht.size T i hi;obtain⟨d,hd,-,-,Me⟩:=ht.desc T i hi;obtain⟨ys,h1,h2⟩:=DX (P:=P) (tt:=tt) hs.eval parts.toList _ z.cells cs (by rw [DK]; exact⟨by simp,fun i c x hc hx=>by simp only [ae,hx,bz,aB] at hc; subst hc; exact .sc _ _⟩) BB;have hfs:∃ fs,d = .struct fs∧fs.size=i.bd.length∧∀ k (hk:k<fs.size),∃ inf,P.info? fs[k].type=some inf∧i.bd[k]?=some (fs[k].offset,inf.size):=by have x5:0<i.bd.length:=List.length_pos_iff.2 dK;obtain⟨fs,fd,inf,rfl,hlen,-⟩:=Me 0 (i.bd[0]).1 (i.bd[0]).2 (ah x5);refine⟨fs,rfl,hlen,fun k hk=>?_⟩;obtain⟨fs',fd,inf,he,-,Zr,hf2,hf3,hf4,-⟩:=Me k (i.bd[k]'(by omega)).1 (i.bd[k]'(by omega)).2 (ah (by omega));cases he;rw [bS hk] at Zr; cases Zr;exact⟨inf,hf3,by rw [ah (by omega),hf2,hf4]⟩
    obtain⟨fs,rfl,hlen,er⟩:=hfs
    have GD:(fs.mapM fun f=>do pure (f.offset,← sizeOf f.type):Sem (Array (Nat×Nat))).run P w = .ok i.bd.toArray w:=by
     have gen:∀ (l:List Field) (fl:List (Nat×Nat)),l.length=fl.length→(∀ k (hk:k<l.length),∃ inf,P.info? l[k].type=some inf∧fl[k]?=some (l[k].offset,inf.size)) →
       (l.mapM fun f=>do pure (f.offset,← sizeOf f.type):Sem (List (Nat×Nat))).run P w = .ok fl w:=by
      intro l
      induction l with
      | nil=>intro fl hl _; have:fl=[]:=cd.1 hl.symm; subst this; rfl
      | cons f r ih =>
       intro fl hl hk
       cases fl with
       | nil=>simp at hl
       | cons p fl =>
        obtain⟨inf,h1,h2⟩:=hk 0 (by simp)
        simp only [List.getElem_cons_zero,fb,aB] at h1 h2
        subst h2
        have:=ih fl (by simpa using hl) fun k fe=>hk (k+1) (Nat.succ_lt_succ fe)
        simp only [ani,Sem.run_bind,gG h1,Result.andThen_ok,Sem.run_pure,this]
     have:=gen fs.toList i.bd hlen fun k hk=>er k hk;rw [anC];simp only [Sem.run_map,this,Result.andThen_ok]
    have sC:(parts.map fun (i,x)=>(i,a.eval x)).toList=parts.toList.map fun p=>(p.1,a.eval p.2):=by simp
    refine⟨.agg ys,?_,.agg _ _ _ (by simpa using h2.1) fun i c x hc hx=>h2.2 i c x hc (by simpa using hx)⟩;unfold Instr.build;have Zp:(zeroValue T).run P w = .ok z w:=by simp [zeroValue,gg Ao,hz]
    simp only [Sem.run_bind,Zp,Result.andThen_ok,bn hd,GD,sC];have Zs:(fun (k:Nat)=>i.bd.toArray[k]?)=(fun (k:Nat)=>i.bd[k]?):=by funext k; simp
    simp only [Zs,h1];simp
   cases h
  split at h;·rename_i l hl;have hp:=qp hs.eval hl;unfold Mc at h;split at h;(·rename_i cs BB;cases h;refine⟨.agg cs,?_,.agg _ _ _ (by simp) (ng E cs)⟩;(have sC:(parts.map fun (i,x)=>(i,a.eval x))=l.toArray:=by rw [← hp]; apply aeq.1; simp);rw [sC];exact fX _ BB w);cases h
  cases h
 cases h
end Go.Eng
end
