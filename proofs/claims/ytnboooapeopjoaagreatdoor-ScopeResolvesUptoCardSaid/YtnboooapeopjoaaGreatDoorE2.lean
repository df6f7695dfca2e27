import Derived.Test.YtnboooapeopjoaaGreatDoorE1
import Derived.LoopNIn
import Derived.RangeFuncLeaves
import Derived.RangeFuncCalls
open Array renaming foldl_toList→atd,getElem?_eq_getElem→b9,mapM_eq_mapM_toList→atk,toList_append→j7,toList_inj→ajq,toList_zipIdx→atM
open List renaming getElem?_cons_zero→ee,getElem?_eq_getElem→af,getElem?_map→ae,length_eq_zero_iff→b7,mapM_cons→as7,map_cons→cz
open Option renaming map_some→aC
open Option.some renaming injEq→aB
open Prod.mk renaming injEq→dE
set_option linter.all false
section
namespace Go.Eng
variable [bk]
open Go.RowKit (Below)
def bw (P:Program) (f:FuncId) (args:List V) (mem:List bm) (r:V) (bV:List bm):Prop :=
 (∀ (xs:Array Value) (w:World),(callFunc f xs).run P w = .ok (.enter f xs) w) ∧
 ∀ (E:Env) (w:World) (xs:Array Value),cY E w { tmps := #[],defers:=[] } { fr:=[],mem:=mem }→cJ E args xs.toList →
  Calls P f xs w fun e w'=>∃ E' x,e = .returned x∧il E w E' w'∧cY E' w' { tmps := #[],defers:=[] } { fr:=[],mem:=bV }∧cV E' r x
def eo (P:Program) (f:FuncId) (args:List V) (mem:List bm) (R:V→List bm→Prop):Prop :=
 (∀ (xs:Array Value) (w:World),(callFunc f xs).run P w = .ok (.enter f xs) w) ∧
 ∀ (E:Env) (w:World) (xs:Array Value),cY E w { tmps := #[],defers:=[] } { fr:=[],mem:=mem }→cJ E args xs.toList →
  Calls P f xs w fun e w'=>∃ E' x r bV,e = .returned x∧R r bV∧il E w E' w'∧cY E' w' { tmps := #[],defers:=[] } { fr:=[],mem:=bV }∧cV E' r x
theorem eo.det {P:Program} {f:FuncId} {args:List V} {mem:List bm} {r:V} {bV:List bm} (h:eo P f args mem fun r' m'=>r'=r∧m'=bV):bw P f args mem r bV :=
 ⟨h.1,fun E w xs hs hx=>(h.2 E w xs hs hx).mono fun e w' ⟨E',x,r',m',h1,⟨h2,h3⟩,h4,h5,h6⟩=>by subst h2;subst h3;exact⟨E',x,h1,h4,h5,h6⟩⟩
theorem bw.rel {P:Program} {f:FuncId} {args:List V} {mem:List bm} {r:V} {bV:List bm} (h:bw P f args mem r bV):eo P f args mem fun r' m'=>r'=r∧m'=bV :=
 ⟨h.1,fun E w xs hs hx=>(h.2 E w xs hs hx).mono fun e w' ⟨E',x,h1,h4,h5,h6⟩=>⟨E',x,_,_,h1,⟨rfl,rfl⟩,h4,h5,h6⟩⟩
theorem eo.mono {P:Program} {f:FuncId} {args:List V} {mem:List bm} {R R':V→List bm→Prop} (h:eo P f args mem R) (hR:∀ r m,R r m→R' r m):eo P f args mem R' :=
 ⟨h.1,fun E w xs hs hx=>(h.2 E w xs hs hx).mono fun e w' ⟨E',x,r',m',h1,h2,h4⟩=>⟨E',x,r',m',h1,hR _ _ h2,h4⟩⟩
theorem cY.bare {E:Env} {w:World} {a:Act} {st:St} (hs:cY E w a st):cY E w { tmps := #[],defers:=[] } { fr:=[],mem:=st.mem } :=
 ⟨hs.F,hs.lt,hs.mem,hs.top,hs.dF,hs.apart,.nil _⟩
theorem cY.Hd {E E':Env} {w w':World} {a:Act} {st:St} {bV:List bm} (hs:cY E w a st) (h:cY E' w' { tmps := #[],defers:=[] } { fr:=[],mem:=bV }) (hle:E.le E'):cY E' w' a { st with mem:=bV } :=
 ⟨h.F,h.lt,h.mem,h.top,h.dF,h.apart,hs.fr.mono hle⟩
def da (fv:V) (args:List V):Option (FuncId×List V) :=
 match fv with
 | .sc (.func (.func g) first cap)=>some (g,first.toList.map V.sc++args++cap.toList.map V.sc)
 | .dU (.func g) first cap=>some (g,first++args++cap)
 | _=>none
def sx (P:Program) (f:FuncId) (vs:List V) (r:V):Prop :=
 ∀ (E:Env) (w:World) (xs:Array Value),(∀ ad x,E.F ad=some x→w.cell? ad=some x)→cJ E vs xs.toList→∃ x,(callFunc f xs).run P w = .ok (.value x) w∧cV E r x
def aak (P:Program) (f:FuncId) (vs:List V):Option V :=
 match pP vs with
 | some l=>match dc P (callFunc f l.toArray) with|some (.value v)=>some (lj v)|_=>none
 | none=>none
theorem Vu {P:Program} {f:FuncId} {vs:List V} {r:V} (h:aak P f vs=some r):sx P f vs r:=fun E w xs hF hx=>by
 unfold aak at h;split at h;·rename_i l hl;have:=qP hx hl;split at h;(·rename_i v hv;cases h;exact⟨v,gO _ (by rw [← this] at hv;simpa using hv) w,ll E v⟩);cases h
 cases h
def yK (P:Program) (f:FuncId) (vs:List V) (st:St) (dst:Option Tmp) (Q:St→Prop):Prop :=
 (∃ vs' r,fw st.mem vs=some vs'∧cx P f vs' r∧Q ({ st with mem:=gv st.mem (vs.flatMap fg) r }.put dst r)) ∨
 (∃ r bV,bw P f vs st.mem r bV∧Q ({ st with mem:=bV }.put dst r)) ∨
 (∃ R,eo P f vs st.mem R∧∀ r bV,R r bV→Q ({ st with mem:=bV }.put dst r)) ∨
 (∃ r,sx P f vs r∧Q (st.put dst r))
def JN (P:Program) (k:Nat) (vs:List V) (mem:List bm) (b:Bool) (bV:List bm):Prop :=
 ∀ (E:Env) (w:World) (xs:Array Value) (l e c:Nat),cY E w { tmps := #[],defers:=[] } { fr:=[],mem:=mem }→cJ E vs xs.toList→E.cw k 0=some (l,e,c) →
  ∃ fn tmps assign body,(Instr.yield l xs).run P w = .ok (.round l fn tmps assign body) w∧RoundIn Fence.wide 0 P l fn tmps assign body w fun e w'=>∃ E',e = .returned (.bool b)∧il E w E' w' ∧
   cY E' w' { tmps := #[],defers:=[] } { fr:=[],mem:=bV }
def NO (P:Program) (k:Nat) (vs:List V) (mem:List bm) (R:Bool→List bm→Prop):Prop :=
 ∀ (E:Env) (w:World) (xs:Array Value) (l e c:Nat),cY E w { tmps := #[],defers:=[] } { fr:=[],mem:=mem }→cJ E vs xs.toList→E.cw k 0=some (l,e,c) →
  ∃ fn tmps assign body,(Instr.yield l xs).run P w = .ok (.round l fn tmps assign body) w∧RoundIn Fence.wide 0 P l fn tmps assign body w fun e w'=>∃ E' b bV,e = .returned (.bool b)∧R b bV∧il E w E' w' ∧
   cY E' w' { tmps := #[],defers:=[] } { fr:=[],mem:=bV }
theorem NO.det {P:Program} {k:Nat} {vs:List V} {mem bV:List bm} {b:Bool} (h:NO P k vs mem fun b' m'=>b'=b∧m'=bV):JN P k vs mem b bV:=fun E w xs l e c hs hx hb=>by obtain⟨fn,tmps,assign,body,h1,h2⟩:=h E w xs l e c hs hx hb;exact⟨fn,tmps,assign,body,h1,h2.mono fun e w' ⟨E',b',m',h3,⟨h4,h5⟩,h6,h7⟩=>by subst h4;subst h5;exact⟨E',h3,h6,h7⟩⟩
def vT (bp:List (Nat×Nat)) (ev:Operand→V):List (Nat×Operand)→List V→Option (List V)
 | [],cs=>some cs
 | (i,x) :: r,cs=>match bp[i]? with
  | some p=>match mc (ev x) with
   | some new=>if new.length=p.2∧p.1+p.2≤cs.length then vT bp ev r (kL cs p.1 new) else none
   | none=>none
  | none=>none
def nD (ev:Operand→V):List (Nat×Operand)→Option (List (Nat×Value))
 | []=>some []
 | (i,x) :: r=>match ev x with
  | .sc v=>match nD ev r with|some l=>some ((i,v) :: l)|none=>none
  | _=>none
def Qb (P:Program) (T:TypeId) (l:List (Nat×Value)):Option V:=match dc P (Instr.build T l.toArray) with
 | some (.agg cs)=>some (.agg (cs.toList.map V.sc))
 | _=>none
def nP (P:Program) (tt:Table) (T:TypeId) (parts:List (Nat×Operand)) (ev:Operand→V):Option V :=
 match tt T with
 | some i=>if i.bp≠[] then (match vT i.bp ev parts (i.zero.map V.sc) with|some cs=>some (.agg cs)|none=>none) else
  match nD ev parts with|some l=>Qb P T l|none=>none
 | none=>none
theorem sy {E:Env} {st:St} {a:Act} (iz:∀ x,cV E (st.eval x) (a.eval x)):∀ {ps:List (Nat×Operand)} {l:List (Nat×Value)},nD st.eval ps=some l→(ps.map fun p=>(p.1,a.eval p.2))=l
 | [],l,h=>by cases h;rfl
 | (i,x) :: r,l,h=>by
  simp only [nD] at h
  split at h
  ·rename_i v hv
   split at h
   ·rename_i l' hl
    cases h
    have hx:=iz x
    rw [hv] at hx
    have:a.eval x=v:=by cases hx;rfl
    simp only [cz,this,sy iz hl]
   cases h
  cases h
def sA (tt:Table) (T:TypeId):V→Option Nat
 | .slice rows=>match jy tt T with|some _=>some rows.length|none=>none
 | .ms _ _ _ l=>match jy tt T with|some _=>some l|none=>none
 | _=>none
def pT (tt:Table) (op:BinOp) (T:TypeId) (x y:V):Option Nat :=
 match op,y with
 | .eql,.sc (.slice none 0 0)=>sA tt T x
 | .neq,.sc (.slice none 0 0)=>sA tt T x
 | _,_=>none
def qY (op:BinOp) (b:Bool):Bool:=match op with|.neq=>!b|_=>b
theorem uU {P:Program} {tt:Table} (ht:TT P tt) {T e:TypeId} (he:jy tt T=some e) (w:World) (xo yo:Operand) {op:BinOp} (lH:op = .eql∨op = .neq) (a:Option Addr) (l c:Nat) :
  (do eqGuard op T xo yo (.slice a l c) (.slice none 0 0);binOp op T (.slice a l c) (.slice none 0 0):Sem Value).run P w = .ok (.bool (qY op a.isNone)) w:=by
 unfold jy at he;split at he;·rename_i i hi;obtain⟨d,hd,-,EA,-⟩:=ht.desc T i hi;obtain rfl:=EA e he;(have heq:(Op.equal T (.slice a l c) (.slice none 0 0)).run P w = .ok a.isNone w:=by show (Op.equalIn (9999+1) T (.slice a l c) (.slice none 0 0)).run P w=_;rw [Op.equalIn];simp only [Sem.run_bind,bC hd,Result.andThen_ok];cases a <;> rfl);(have hg:(eqGuard op T xo yo (.slice a l c) (.slice none 0 0)).run P w = .ok () w:=by rcases lH with rfl|rfl <;> rfl);rw [Sem.run_bind,hg,Result.andThen_ok];(rcases lH with rfl|rfl);(·show (do pure (Value.bool (← Op.equal T (.slice a l c) (.slice none 0 0))):Sem Value).run P w=_;rw [Sem.run_bind,heq];rfl);show (do pure (Value.bool (!(← Op.equal T (.slice a l c) (.slice none 0 0)))):Sem Value).run P w=_;rw [Sem.run_bind,heq];rfl
 cases he
theorem EZ {P:Program} {tt:Table} (ht:TT P tt) {E:Env} {w:World} {T:TypeId} {op:BinOp} {vx vy:V} {x y:Value} (xo yo:Operand) (hx:cV E vx x) (hy:cV E vy y) {n:Nat} (h:pT tt op T vx vy=some n) :
  ∃ b:Bool,(n≠0→b=false)∧(do eqGuard op T xo yo x y;binOp op T x y:Sem Value).run P w = .ok (.bool (qY op b)) w:=by
 have gen:(op = .eql∨op = .neq)→y = .slice none 0 0→sA tt T vx=some n→∃ b:Bool,(n≠0→b=false)∧(do eqGuard op T xo yo x y;binOp op T x y:Sem Value).run P w = .ok (.bool (qY op b)) w:=by intro lH hyy h;subst hyy;unfold sA at h;split at h;(·split at h;(·rename_i e he;cases h;cases hx with|slice _ _ a cap uO ad xf ha n6 hs hF h1 h2 =>refine⟨a.isNone,fun hn=>?_,uU ht he w xo yo lH _ _ _⟩;rw [ha (fun e=>hn (by rw [e];rfl))];rfl);cases h);(·split at h;(·rename_i e he;cases h;cases hx with|ms _ b v s l g e c a cap hb hl h0 hc =>refine⟨a.isNone,fun hn=>?_,uU ht he w xo yo lH _ _ _⟩;rw [hl (by omega)];rfl|jl=>exact⟨true,fun hn=>absurd rfl hn,uU ht he w xo yo lH _ _ _⟩);cases h);cases h
 unfold pT at h;split at h;·exact gen (.inl rfl) (gP hy) h
 ·exact gen (.inr rfl) (gP hy) h
 cases h
def evP (mem:List bm) (ev:Operand→V) (x:Operand):V:=match gH mem (ev x) with|some v=>v|none=>ev x
def E4 (ev:Operand→V) (parts:List (Nat×Operand)):List (Nat×Nat):=(parts.map fun p=>ev p.2).flatMap fg
def Vv (tt:Table) (T:TypeId) (len:Nat) (parts:List (Nat×Operand)) (st:St):Option (Nat×List V) :=
 match fw st.mem (parts.map fun p=>st.eval p.2) with
 | some _=>xG tt T len parts (evP st.mem st.eval)
 | none=>none
def E5 (tt:Table) (mem:List bm) (T:TypeId) (p v:V):Option (List bm) :=
 match gH mem v with
 | some v'=>nO tt (eP mem (fg v)) T p v'
 | none=>none
def yL (tt:Table) (st:St) (ts:List TypeId) (s x:V) (dst:Option Tmp) (Q:St→Prop):Prop :=
 match pq tt st.mem ts s x with
 | some (size,b,v,l,rs,xs)=>∀ (o:Nat) (nC:List V),nC.drop o=rs++xs→o+(l+xs.length)=nC.length→Q ({ st with mem:=st.mem.set b (.rows (v+1) size nC) }.put dst (.ms b (v+1) o (l+xs.length)))
 | none=>False
def cR (P:Program) (tt:Table) (key:Nat) (o:Oper) (st:St) (Q:St→Prop):Prop :=
 match o.op with
 | .alloc T=>match tt T with
  | some i=>Q ({ st with mem:=dn st.mem key (.box (i.zero.map V.sc)) }.put o.dst (.ptr key 0))
  | none=>False
 | .box _ x=>match mc (st.eval x) with
  | some cs=>Q ({ st with mem:=dn st.mem key (.box cs) }.put o.dst (.ptr key 0))
  | none=>False
 | .build T parts=>match nP P tt T parts.toList st.eval with
  | some v=>Q (st.put o.dst v)
  | none=>False
 | .buildSlice T len parts=>match xG tt T len parts.toList st.eval with
  | some (size,rs)=>Q ({ st with mem:=dn st.mem key (.rows 0 size rs) }.put o.dst (.ms key 0 0 len))
  | none=>match Vv tt T len parts.toList st with
   | some (size,rs)=>Q ({ st with mem:=dn (eP st.mem (E4 st.eval parts.toList)) key (.rows 0 size rs) }.put o.dst (.ms key 0 0 len))
   | none=>False
 | .store T p x=>match nO tt st.mem T (st.eval p) (st.eval x) with
  | some bV=>Q ({ st with mem:=bV }.put o.dst (.sc undef))
  | none=>match E5 tt st.mem T (st.eval p) (st.eval x) with
   | some bV=>Q ({ st with mem:=bV }.put o.dst (.sc undef))
   | none=>False
 | .call { callee:=.builtin .append,args:=xs,argTypes:=ts }=>match xs.toList.map st.eval with
  | [s,x]=>match gE tt st.mem ts.toList s x with
   | some (size,sr,rows)=>Q ({ st with mem:=(fu st.mem key size rows sr).1 }.put o.dst (fu st.mem key size rows sr).2)
   | none=>yL tt st ts.toList s x o.dst Q
  | _=>False
 | .call { callee:=.value f,args:=xs,.. }=>match st.eval f with
  | .km k=>(∃ b bV,JN P k (xs.toList.map st.eval) st.mem b bV∧Q ({ st with mem:=bV }.put o.dst (.sc (.bool b)))) ∨
    (∃ R,NO P k (xs.toList.map st.eval) st.mem R∧∀ b bV,R b bV→Q ({ st with mem:=bV }.put o.dst (.sc (.bool b))))
  | fv=>match da fv (xs.toList.map st.eval) with
   | some (g,vs)=>yK P g vs st o.dst Q
   | none=>False
 | .makeSlice T l c=>match yJ tt T (st.eval l) (st.eval c) with
  | some (size,rs,_)=>Q ({ st with mem:=dn st.mem key (.rows 0 size rs) }.put o.dst (.ms key 0 0 rs.length))
  | none=>False
 | .makeMap _ none=>Q ({ st with mem:=dn st.mem key (.map [] 0) }.put o.dst (.mp key))
 | .mapUpdate T m k x=>match dP P st.mem T (st.eval m) (st.eval k) (st.eval x) with
  | some bV=>Q ({ st with mem:=bV }.put o.dst (.sc undef))
  | none=>False
 | .insert T m k x=>match dP P st.mem T (st.eval m) (st.eval k) (st.eval x) with
  | some bV=>Q ({ st with mem:=bV }.put o.dst (.sc undef))
  | none=>False
 | .mapEntry T m k=>match xI P st.mem T (st.eval m) (st.eval k) with
  | some (bV,v)=>Q ({ st with mem:=bV }.put o.dst v)
  | none=>False
 | .entryStore _ m s x=>match xJ st.mem (st.eval m) (st.eval s) (st.eval x) with
  | some bV=>Q ({ st with mem:=bV }.put o.dst (.sc undef))
  | none=>False
 | .call { callee:=.builtin .delete,args:=xs,argTypes:=ts }=>match tH P st.mem ts (xs.toList.map st.eval) with
  | some bV=>Q ({ st with mem:=bV }.put o.dst (.sc (.tuple #[])))
  | none=>False
 | .range T x=>match qk P st.mem T (st.eval x) with
  | some B=>Q ({ st with mem:=dn st.mem key B }.put o.dst (.ptr key 0))
  | none=>False
 | .next it str=>vS st o.dst (st.eval it) str Q
 | .binOp op T x y _=>match pT tt op T (st.eval x) (st.eval y) with
  | some n=>∀ b:Bool,(n≠0→b=false)→Q (st.put o.dst (.sc (.bool (qY op b))))
  | none=>match mC P tt st o with
   | some v=>Q (st.put o.dst v)
   | none=>False
 | _=>match mC P tt st o with
  | some v=>Q (st.put o.dst v)
  | none=>False
theorem AT {P:Program} {E:Env} {w:World} {fv:V} {fx:Value} {args:List V} {xs:Array Value} {g:FuncId} {vs:List V} (hf:cV E fv fx) (ha:cJ E args xs.toList) (h:da fv args=some (g,vs)) :
  ∃ d,∃ ys:Array Value,cJ E vs ys.toList∧(Deferred.ofValue fx xs).run P w = .ok d w∧(invoke d.target d.args).run P w=(callFunc g ys).run P w:=by
 unfold da at h;split at h;·simp only [aB,dE] at h;obtain⟨rfl,rfl⟩:=h;obtain rfl:=gP hf;(rename_i g first cap);have Kc:∀ zs:Array Value,cJ E (zs.toList.map V.sc) zs.toList:=fun zs=>⟨by simp,fun i c x hc hx=>oy E zs i c x hc (by simpa using hx)⟩;exact⟨{ target:=.fn (.func g) cap,args:=first++xs },first++xs++cap,by simp only [j7];exact ((Kc first).append ha).append (Kc cap),rfl,by simp [invoke]⟩
 ·simp only [aB,dE] at h;obtain⟨rfl,rfl⟩:=h;rename_i g _ _;cases hf with|dU _ _ first cap ys zs h1 h2 h3 h4 =>refine⟨{ target:=.fn (.func g) zs,args:=ys++xs },ys++xs++zs,?_,rfl,by simp [invoke]⟩;simp only [j7];exact (cJ.append (cJ.append ⟨by simpa using h1,fun i c x hc hx=>h3 i c x hc (by simpa using hx)⟩ ha) ⟨by simpa using h2,fun i c x hc hx=>h4 i c x hc (by simpa using hx)⟩)
 cases h
theorem sB {P:Program} {E:Env} {w:World} {fv:V} {fx:Value} {args:List V} {xs:Array Value} {g:FuncId} {vs:List V} (hf:cV E fv fx) (ha:cJ E args xs.toList) (h:da fv args=some (g,vs)) :
  ∃ ys:Array Value,cJ E vs ys.toList∧(do let d ← Deferred.ofValue fx xs;invoke d.target d.args:Sem Next).run P w=(callFunc g ys).run P w:=by
 unfold da at h;split at h;·simp only [aB,dE] at h;obtain⟨rfl,rfl⟩:=h;obtain rfl:=gP hf;(rename_i first cap);have Kc:∀ zs:Array Value,cJ E (zs.toList.map V.sc) zs.toList:=fun zs=>⟨by simp,fun i c x hc hx=>oy E zs i c x hc (by simpa using hx)⟩;refine⟨first++xs++cap,by simp only [j7];exact ((Kc first).append ha).append (Kc cap),?_⟩;simp [Deferred.ofValue,invoke]
 ·simp only [aB,dE] at h;obtain⟨rfl,rfl⟩:=h;cases hf with|dU _ _ first cap ys zs h1 h2 h3 h4 =>refine⟨ys++xs++zs,?_,?_⟩;(·simp only [j7];exact (cJ.append (cJ.append ⟨by simpa using h1,fun i c x hc hx=>h3 i c x hc (by simpa using hx)⟩ ha) ⟨by simpa using h2,fun i c x hc hx=>h4 i c x hc (by simpa using hx)⟩));simp [Deferred.ofValue,invoke]
 cases h
theorem He {P:Program} {tt:Table} {E:Env} {bp:List (Nat×Nat)} {ev:Operand→V} {av:Operand→Value} (nB:∀ o,cV E (ev o) (av o)):∀ (parts:List (Nat×Operand)) (cs:List V) (xs:Array Value) (out:List V),
  cJ E cs xs.toList→vT bp ev parts cs=some out→∃ ys,Instr.fill (bp[·]?) xs (parts.map fun p=>(p.1,av p.2))=some ys∧cJ E out ys.toList:=by intro parts;induction parts with|nil=>intro cs xs out hr h;simp only [vT,aB] at h;subst h;exact⟨xs,rfl,hr⟩|cons p r ih =>intro cs xs out hr h;obtain⟨i,x⟩:=p;simp only [vT] at h;split at h;(·rename_i p hp;split at h;(·rename_i new pQ;split at h;(·rename_i hc;obtain⟨h1,h2⟩:=qU (nB x) pQ;(have nh:(av x).cells.size=p.2:=by have:=h1.1;simp at this;omega);(have xt:xs.size=cs.length:=by have:=hr.1;simp at this;omega);obtain⟨ys,h3,h4⟩:=ih _ _ out (yD new _ cs xs p.1 h1 hr) h;refine⟨ys,?_,h4⟩;simp only [cz,Instr.fill,hp,nh];rw [if_neg (by simp;omega),← h3];congr 1;rw [← atd,atM];exact yF p.1 (av x).cells.toList 0 xs);cases h);cases h);cases h
theorem vU {P:Program} {tt:Table} (ht:TT P tt) {E:Env} {w:World} {a:Act} {st:St} (hs:cY E w a st) {T:TypeId} {parts:Array (Nat×Operand)} {v:V} (h:nP P tt T parts.toList st.eval=some v) :
  ∃ x,(Instr.build T (parts.map fun (i,x)=>(i,a.eval x))).run P w = .ok x w∧cV E v x:=by
 unfold nP at h;split at h
 ·rename_i i hi;split at h
  ·rename_i cK;split at h
   ·rename_i cs Ev;simp only [aB] at h;subst h;obtain⟨info,yG,-,-,z,hz,CT⟩:=ht.size T i hi;obtain⟨d,hd,-,-,E6⟩:=ht.desc T i hi;obtain⟨ys,h1,h2⟩:=He (P:=P) (tt:=tt) hs.eval parts.toList _ z.cells cs (by rw [CT];exact⟨by simp,fun i c x hc hx=>by simp only [ae,hx,aC,aB] at hc;subst hc;exact .sc _ _⟩) Ev;have hfs:∃ fs,d = .struct fs∧fs.size=i.bp.length∧∀ k (hk:k<fs.size),∃ inf,P.info? fs[k].type=some inf∧i.bp[k]?=some (fs[k].offset,inf.size):=by have AE:0<i.bp.length:=List.length_pos_iff.2 cK;obtain⟨fs,fd,inf,rfl,hlen,-⟩:=E6 0 (i.bp[0]).1 (i.bp[0]).2 (af AE);refine⟨fs,rfl,hlen,fun k hk=>?_⟩;obtain⟨fs',fd,inf,he,-,hf1,hf2,hf3,hf4,-⟩:=E6 k (i.bp[k]'(by omega)).1 (i.bp[k]'(by omega)).2 (af (by omega));cases he;rw [b9 hk] at hf1;cases hf1;exact⟨inf,hf3,by rw [af (by omega),hf2,hf4]⟩
    obtain⟨fs,rfl,hlen,cD⟩:=hfs
    have Kc:(fs.mapM fun f=>do pure (f.offset,← sizeOf f.type):Sem (Array (Nat×Nat))).run P w = .ok i.bp.toArray w:=by
     have gen:∀ (l:List Field) (fl:List (Nat×Nat)),l.length=fl.length→(∀ k (hk:k<l.length),∃ inf,P.info? l[k].type=some inf∧fl[k]?=some (l[k].offset,inf.size)) →
       (l.mapM fun f=>do pure (f.offset,← sizeOf f.type):Sem (List (Nat×Nat))).run P w = .ok fl w:=by
      intro l
      induction l with
      | nil=>intro fl hl _;have:fl=[]:=b7.1 hl.symm;subst this;rfl
      | cons f r ih =>
       intro fl hl hk
       cases fl with
       | nil=>simp at hl
       | cons p fl =>
        obtain⟨inf,h1,h2⟩:=hk 0 (by simp)
        simp only [List.getElem_cons_zero,ee,aB] at h1 h2
        subst h2
        have:=ih fl (by simpa using hl) fun k fN=>hk (k+1) (Nat.succ_lt_succ fN)
        simp only [as7,Sem.run_bind,iF h1,Result.andThen_ok,Sem.run_pure,this]
     have:=gen fs.toList i.bp hlen fun k hk=>cD k hk;rw [atk];simp only [Sem.run_map,this,Result.andThen_ok]
    have uR:(parts.map fun (i,x)=>(i,a.eval x)).toList=parts.toList.map fun p=>(p.1,a.eval p.2):=by simp
    refine⟨.agg ys,?_,.agg _ _ _ (by simpa using h2.1) fun i c x hc hx=>h2.2 i c x hc (by simpa using hx)⟩;unfold Instr.build;have hzv:(zeroValue T).run P w = .ok z w:=by simp [zeroValue,gW yG,hz]
    simp only [Sem.run_bind,hzv,Result.andThen_ok,bC hd,Kc,uR];have aeq:(fun (k:Nat)=>i.bp.toArray[k]?)=(fun (k:Nat)=>i.bp[k]?):=by funext k;simp
    simp only [aeq,h1];simp
   cases h
  split at h;·rename_i l hl;have hp:=sy hs.eval hl;unfold Qb at h;split at h;(·rename_i cs Ev;cases h;refine⟨.agg cs,?_,.agg _ _ _ (by simp) (oy E cs)⟩;(have uR:(parts.map fun (i,x)=>(i,a.eval x))=l.toArray:=by rw [← hp];apply ajq.1;simp);rw [uR];exact gO _ Ev w);cases h
  cases h
 cases h
end Go.Eng
end
