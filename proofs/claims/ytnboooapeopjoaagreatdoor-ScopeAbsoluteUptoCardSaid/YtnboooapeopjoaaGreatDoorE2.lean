import Derived.Test.YtnboooapeopjoaaGreatDoorE1
import Derived.LoopNIn
import Derived.RangeFuncLeaves
import Derived.RangeFuncCalls
open Array renaming foldl_toList→apX,getElem?_eq_getElem→ch,mapM_eq_mapM_toList→ap3,toList_append→jZ,toList_inj→apA,toList_zipIdx→aqw
open List renaming getElem?_cons_zero→dk,getElem?_eq_getElem→ak,getElem?_map→ae,length_eq_zero_iff→cC,mapM_cons→apN,map_cons→cR
open Option renaming map_some→cA
open Option.some renaming injEq→aF
open Prod.mk renaming injEq→eA
set_option linter.all false
section
namespace Go.Eng
variable [bg]
open Go.RowKit (Below)

def bz (P:Program) (f:FuncId) (args:List V) (mem:List bm) (r:V) (bV:List bm):Prop :=
 (∀ (xs:Array Value) (w:World),(callFunc f xs).run P w = .ok (.enter f xs) w) ∧
 ∀ (E:Env) (w:World) (xs:Array Value),dr E w { tmps := #[],defers:=[] } { fr:=[],mem:=mem }→cY E args xs.toList →
  Calls P f xs w fun e w'=>∃ E' x,e = .returned x∧iC E w E' w'∧dr E' w' { tmps := #[],defers:=[] } { fr:=[],mem:=bV }∧dh E' r x

def eB (P:Program) (f:FuncId) (args:List V) (mem:List bm) (R:V→List bm→Prop):Prop :=
 (∀ (xs:Array Value) (w:World),(callFunc f xs).run P w = .ok (.enter f xs) w) ∧
 ∀ (E:Env) (w:World) (xs:Array Value),dr E w { tmps := #[],defers:=[] } { fr:=[],mem:=mem }→cY E args xs.toList →
  Calls P f xs w fun e w'=>∃ E' x r bV,e = .returned x∧R r bV∧iC E w E' w'∧dr E' w' { tmps := #[],defers:=[] } { fr:=[],mem:=bV }∧dh E' r x
theorem eB.det {P:Program} {f:FuncId} {args:List V} {mem:List bm} {r:V} {bV:List bm} (h:eB P f args mem fun r' m'=>r'=r∧m'=bV):bz P f args mem r bV :=
 ⟨h.1,fun E w xs hs hx=>(h.2 E w xs hs hx).mono fun e w' ⟨E',x,r',m',h1,⟨h2,h3⟩,h4,h5,h6⟩=>by subst h2; subst h3; exact⟨E',x,h1,h4,h5,h6⟩⟩
theorem bz.rel {P:Program} {f:FuncId} {args:List V} {mem:List bm} {r:V} {bV:List bm} (h:bz P f args mem r bV):eB P f args mem fun r' m'=>r'=r∧m'=bV :=
 ⟨h.1,fun E w xs hs hx=>(h.2 E w xs hs hx).mono fun e w' ⟨E',x,h1,h4,h5,h6⟩=>⟨E',x,_,_,h1,⟨rfl,rfl⟩,h4,h5,h6⟩⟩
theorem eB.mono {P:Program} {f:FuncId} {args:List V} {mem:List bm} {R R':V→List bm→Prop} (h:eB P f args mem R) (hR:∀ r m,R r m→R' r m):eB P f args mem R' :=
 ⟨h.1,fun E w xs hs hx=>(h.2 E w xs hs hx).mono fun e w' ⟨E',x,r',m',h1,h2,h4⟩=>⟨E',x,r',m',h1,hR _ _ h2,h4⟩⟩

theorem dr.bare {E:Env} {w:World} {a:Act} {st:St} (hs:dr E w a st):dr E w { tmps := #[],defers:=[] } { fr:=[],mem:=st.mem } :=
 ⟨hs.F,hs.lt,hs.mem,hs.top,hs.dV,hs.apart,.nil _⟩
theorem dr.FK {E E':Env} {w w':World} {a:Act} {st:St} {bV:List bm} (hs:dr E w a st) (h:dr E' w' { tmps := #[],defers:=[] } { fr:=[],mem:=bV }) (hle:E.le E'):dr E' w' a { st with mem:=bV } :=
 ⟨h.F,h.lt,h.mem,h.top,h.dV,h.apart,hs.fr.mono hle⟩

def dn (fv:V) (args:List V):Option (FuncId×List V) :=
 match fv with
 | .sc (.func (.func g) first cap)=>some (g,first.toList.map V.sc++args++cap.toList.map V.sc)
 | .cX (.func g) first cap=>some (g,first++args++cap)
 | _=>none

def rC (P:Program) (f:FuncId) (vs:List V) (r:V):Prop :=
 ∀ (E:Env) (w:World) (xs:Array Value),(∀ ad x,E.F ad=some x→w.cell? ad=some x)→cY E vs xs.toList→∃ x,(callFunc f xs).run P w = .ok (.value x) w∧dh E r x
def XU (P:Program) (f:FuncId) (vs:List V):Option V :=
 match o9 vs with
 | some l=>match cQ P (callFunc f l.toArray) with | some (.value v)=>some (kX v) | _=>none
 | none=>none
theorem Tv {P:Program} {f:FuncId} {vs:List V} {r:V} (h:XU P f vs=some r):rC P f vs r:=fun E w xs hF hx=>by
 unfold XU at h;split at h;·rename_i l hl;have:=qe hx hl;split at h;(·rename_i v hv;cases h;exact⟨v,gM _ (by rw [← this] at hv; simpa using hv) w,kY E v⟩);cases h
 cases h

def xU (P:Program) (f:FuncId) (vs:List V) (st:St) (dst:Option Tmp) (Q:St→Prop):Prop :=
 (∃ vs' r,gx st.mem vs=some vs'∧bR P f vs' r∧Q ({ st with mem:=bT st.mem (vs.flatMap fb) r }.put dst r)) ∨
 (∃ r bV,bz P f vs st.mem r bV∧Q ({ st with mem:=bV }.put dst r)) ∨
 (∃ R,eB P f vs st.mem R∧∀ r bV,R r bV→Q ({ st with mem:=bV }.put dst r)) ∨
 (∃ r,rC P f vs r∧Q (st.put dst r))

def Ie (P:Program) (k:Nat) (vs:List V) (mem:List bm) (b:Bool) (bV:List bm):Prop :=
 ∀ (E:Env) (w:World) (xs:Array Value) (l e c:Nat),dr E w { tmps := #[],defers:=[] } { fr:=[],mem:=mem }→cY E vs xs.toList→E.cI k 0=some (l,e,c) →
  ∃ fn tmps assign body,(Instr.yield l xs).run P w = .ok (.round l fn tmps assign body) w∧RoundIn Fence.wide 0 P l fn tmps assign body w fun e w'=>∃ E',e = .returned (.bool b)∧iC E w E' w' ∧
   dr E' w' { tmps := #[],defers:=[] } { fr:=[],mem:=bV }

def Mc (P:Program) (k:Nat) (vs:List V) (mem:List bm) (R:Bool→List bm→Prop):Prop :=
 ∀ (E:Env) (w:World) (xs:Array Value) (l e c:Nat),dr E w { tmps := #[],defers:=[] } { fr:=[],mem:=mem }→cY E vs xs.toList→E.cI k 0=some (l,e,c) →
  ∃ fn tmps assign body,(Instr.yield l xs).run P w = .ok (.round l fn tmps assign body) w∧RoundIn Fence.wide 0 P l fn tmps assign body w fun e w'=>∃ E' b bV,e = .returned (.bool b)∧R b bV∧iC E w E' w' ∧
   dr E' w' { tmps := #[],defers:=[] } { fr:=[],mem:=bV }
theorem Mc.det {P:Program} {k:Nat} {vs:List V} {mem bV:List bm} {b:Bool} (h:Mc P k vs mem fun b' m'=>b'=b∧m'=bV):Ie P k vs mem b bV:=fun E w xs l e c hs hx hb=>by obtain⟨fn,tmps,assign,body,h1,h2⟩:=h E w xs l e c hs hx hb;exact⟨fn,tmps,assign,body,h1,h2.mono fun e w' ⟨E',b',m',h3,⟨h4,h5⟩,h6,h7⟩=>by subst h4; subst h5; exact⟨E',h3,h6,h7⟩⟩

def u1 (bD:List (Nat×Nat)) (ev:Operand→V):List (Nat×Operand)→List V→Option (List V)
 | [],cs=>some cs
 | (i,x) :: r,cs=>match bD[i]? with
  | some p=>match lW (ev x) with
   | some new=>if new.length=p.2∧p.1+p.2≤cs.length then u1 bD ev r (kG cs p.1 new) else none
   | none=>none
  | none=>none
def nm (ev:Operand→V):List (Nat×Operand)→Option (List (Nat×Value))
 | []=>some []
 | (i,x) :: r=>match ev x with
  | .sc v=>match nm ev r with | some l=>some ((i,v) :: l) | none=>none
  | _=>none
def Ow (P:Program) (T:TypeId) (l:List (Nat×Value)):Option V:=match cQ P (Instr.build T l.toArray) with
 | some (.agg cs)=>some (.agg (cs.toList.map V.sc))
 | _=>none
def nC (P:Program) (tt:Table) (T:TypeId) (parts:List (Nat×Operand)) (ev:Operand→V):Option V :=
 match tt T with
 | some i=>if i.bD≠[] then (match u1 i.bD ev parts (i.zero.map V.sc) with | some cs=>some (.agg cs) | none=>none) else
  match nm ev parts with | some l=>Ow P T l | none=>none
 | none=>none
theorem rD {E:Env} {st:St} {a:Act} (iz:∀ x,dh E (st.eval x) (a.eval x)):∀ {ps:List (Nat×Operand)} {l:List (Nat×Value)},nm st.eval ps=some l→(ps.map fun p=>(p.1,a.eval p.2))=l
 | [],l,h=>by cases h; rfl
 | (i,x) :: r,l,h=>by
  simp only [nm] at h
  split at h
  ·rename_i v hv
   split at h
   ·rename_i l' hl
    cases h
    have hx:=iz x
    rw [hv] at hx
    have:a.eval x=v:=by cases hx; rfl
    simp only [cR,this,rD iz hl]
   cases h
  cases h

def rE (tt:Table) (T:TypeId):V→Option Nat
 | .slice rows=>match jy tt T with | some _=>some rows.length | none=>none
 | .ms _ _ _ l=>match jy tt T with | some _=>some l | none=>none
 | _=>none
def pd (tt:Table) (op:BinOp) (T:TypeId) (x y:V):Option Nat :=
 match op,y with
 | .eql,.sc (.slice none 0 0)=>rE tt T x
 | .neq,.sc (.slice none 0 0)=>rE tt T x
 | _,_=>none
def ql (op:BinOp) (b:Bool):Bool:=match op with | .neq=>!b | _=>b
theorem tZ {P:Program} {tt:Table} (ht:TT P tt) {T e:TypeId} (he:jy tt T=some e) (w:World) (xo yo:Operand) {op:BinOp} (mv:op = .eql∨op = .neq) (a:Option Addr) (l c:Nat) :
  (do eqGuard op T xo yo (.slice a l c) (.slice none 0 0); binOp op T (.slice a l c) (.slice none 0 0):Sem Value).run P w = .ok (.bool (ql op a.isNone)) w:=by
 unfold jy at he;split at he;·rename_i i hi;obtain⟨d,hd,-,Ds,-⟩:=ht.desc T i hi;obtain rfl:=Ds e he;(have heq:(Op.equal T (.slice a l c) (.slice none 0 0)).run P w = .ok a.isNone w:=by show (Op.equalIn (9999+1) T (.slice a l c) (.slice none 0 0)).run P w=_;rw [Op.equalIn];simp only [Sem.run_bind,bG hd,Result.andThen_ok];cases a <;> rfl);(have hg:(eqGuard op T xo yo (.slice a l c) (.slice none 0 0)).run P w = .ok () w:=by rcases mv with rfl | rfl <;> rfl);rw [Sem.run_bind,hg,Result.andThen_ok];(rcases mv with rfl | rfl);(·show (do pure (Value.bool (← Op.equal T (.slice a l c) (.slice none 0 0))):Sem Value).run P w=_;rw [Sem.run_bind,heq]; rfl);show (do pure (Value.bool (!(← Op.equal T (.slice a l c) (.slice none 0 0)))):Sem Value).run P w=_;rw [Sem.run_bind,heq]; rfl
 cases he
theorem DQ {P:Program} {tt:Table} (ht:TT P tt) {E:Env} {w:World} {T:TypeId} {op:BinOp} {vx vy:V} {x y:Value} (xo yo:Operand) (hx:dh E vx x) (hy:dh E vy y) {n:Nat} (h:pd tt op T vx vy=some n) :
  ∃ b:Bool,(n≠0→b=false)∧(do eqGuard op T xo yo x y; binOp op T x y:Sem Value).run P w = .ok (.bool (ql op b)) w:=by
 have gen:(op = .eql∨op = .neq)→y = .slice none 0 0→rE tt T vx=some n→∃ b:Bool,(n≠0→b=false)∧(do eqGuard op T xo yo x y; binOp op T x y:Sem Value).run P w = .ok (.bool (ql op b)) w:=by intro mv hyy h;subst hyy;unfold rE at h;split at h;(·split at h;(·rename_i e he;cases h;cases hx with | slice _ _ a cap tR ad xf ha nR hs hF h1 h2 =>refine⟨a.isNone,fun hn=>?_,tZ ht he w xo yo mv _ _ _⟩;rw [ha (fun e=>hn (by rw [e]; rfl))]; rfl);cases h);(·split at h;(·rename_i e he;cases h;cases hx with | ms _ b v s l g e c a cap hb hl h0 hc =>refine⟨a.isNone,fun hn=>?_,tZ ht he w xo yo mv _ _ _⟩;rw [hl (by omega)]; rfl | jl=>exact⟨true,fun hn=>absurd rfl hn,tZ ht he w xo yo mv _ _ _⟩);cases h);cases h
 unfold pd at h;split at h;·exact gen (.inl rfl) (gN hy) h
 ·exact gen (.inr rfl) (gN hy) h
 cases h

def evP (mem:List bm) (ev:Operand→V) (x:Operand):V:=match gP mem (ev x) with | some v=>v | none=>ev x
def DR (ev:Operand→V) (parts:List (Nat×Operand)):List (Nat×Nat):=(parts.map fun p=>ev p.2).flatMap fb
def Tw (tt:Table) (T:TypeId) (len:Nat) (parts:List (Nat×Operand)) (st:St):Option (Nat×List V) :=
 match gx st.mem (parts.map fun p=>st.eval p.2) with
 | some _=>wV tt T len parts (evP st.mem st.eval)
 | none=>none
def DS (tt:Table) (mem:List bm) (T:TypeId) (p v:V):Option (List bm) :=
 match gP mem v with
 | some v'=>nB tt (ck mem (fb v)) T p v'
 | none=>none
def xV (tt:Table) (st:St) (ts:List TypeId) (s x:V) (dst:Option Tmp) (Q:St→Prop):Prop :=
 match oU tt st.mem ts s x with
 | some (size,b,v,l,rs,xs)=>∀ (o:Nat) (nj:List V),nj.drop o=rs++xs→o+(l+xs.length)=nj.length→Q ({ st with mem:=st.mem.set b (.rows (v+1) size nj) }.put dst (.ms b (v+1) o (l+xs.length)))
 | none=>False
def de (P:Program) (tt:Table) (key:Nat) (o:Oper) (st:St) (Q:St→Prop):Prop :=
 match o.op with
 | .alloc T=>match tt T with
  | some i=>Q ({ st with mem:=dB st.mem key (.box (i.zero.map V.sc)) }.put o.dst (.ptr key 0))
  | none=>False
 | .box _ x=>match lW (st.eval x) with
  | some cs=>Q ({ st with mem:=dB st.mem key (.box cs) }.put o.dst (.ptr key 0))
  | none=>False
 | .build T parts=>match nC P tt T parts.toList st.eval with
  | some v=>Q (st.put o.dst v)
  | none=>False
 | .buildSlice T len parts=>match wV tt T len parts.toList st.eval with
  | some (size,rs)=>Q ({ st with mem:=dB st.mem key (.rows 0 size rs) }.put o.dst (.ms key 0 0 len))
  | none=>match Tw tt T len parts.toList st with
   | some (size,rs)=>Q ({ st with mem:=dB (ck st.mem (DR st.eval parts.toList)) key (.rows 0 size rs) }.put o.dst (.ms key 0 0 len))
   | none=>False
 | .store T p x=>match nB tt st.mem T (st.eval p) (st.eval x) with
  | some bV=>Q ({ st with mem:=bV }.put o.dst (.sc undef))
  | none=>match DS tt st.mem T (st.eval p) (st.eval x) with
   | some bV=>Q ({ st with mem:=bV }.put o.dst (.sc undef))
   | none=>False
 | .call { callee:=.builtin .append,args:=xs,argTypes:=ts }=>match xs.toList.map st.eval with
  | [s,x]=>match ji tt st.mem ts.toList s x with
   | some (size,tW,rows)=>Q ({ st with mem:=(gE st.mem key size rows tW).1 }.put o.dst (gE st.mem key size rows tW).2)
   | none=>xV tt st ts.toList s x o.dst Q
  | _=>False
 | .call { callee:=.value f,args:=xs,.. }=>match st.eval f with
  | .ke k=>(∃ b bV,Ie P k (xs.toList.map st.eval) st.mem b bV∧Q ({ st with mem:=bV }.put o.dst (.sc (.bool b)))) ∨
    (∃ R,Mc P k (xs.toList.map st.eval) st.mem R∧∀ b bV,R b bV→Q ({ st with mem:=bV }.put o.dst (.sc (.bool b))))
  | fv=>match dn fv (xs.toList.map st.eval) with
   | some (g,vs)=>xU P g vs st o.dst Q
   | none=>False
 | .makeSlice T l c=>match xT tt T (st.eval l) (st.eval c) with
  | some (size,rs,_)=>Q ({ st with mem:=dB st.mem key (.rows 0 size rs) }.put o.dst (.ms key 0 0 rs.length))
  | none=>False
 | .makeMap _ none=>Q ({ st with mem:=dB st.mem key (.map [] 0) }.put o.dst (.mp key))
 | .mapUpdate T m k x=>match dR P st.mem T (st.eval m) (st.eval k) (st.eval x) with
  | some bV=>Q ({ st with mem:=bV }.put o.dst (.sc undef))
  | none=>False
 | .insert T m k x=>match dR P st.mem T (st.eval m) (st.eval k) (st.eval x) with
  | some bV=>Q ({ st with mem:=bV }.put o.dst (.sc undef))
  | none=>False
 | .mapEntry T m k=>match wW P st.mem T (st.eval m) (st.eval k) with
  | some (bV,v)=>Q ({ st with mem:=bV }.put o.dst v)
  | none=>False
 | .entryStore _ m s x=>match wX st.mem (st.eval m) (st.eval s) (st.eval x) with
  | some bV=>Q ({ st with mem:=bV }.put o.dst (.sc undef))
  | none=>False
 | .call { callee:=.builtin .delete,args:=xs,argTypes:=ts }=>match sC P st.mem ts (xs.toList.map st.eval) with
  | some bV=>Q ({ st with mem:=bV }.put o.dst (.sc (.tuple #[])))
  | none=>False
 | .range T x=>match pK P st.mem T (st.eval x) with
  | some B=>Q ({ st with mem:=dB st.mem key B }.put o.dst (.ptr key 0))
  | none=>False
 | .next it str=>u0 st o.dst (st.eval it) str Q
 | .binOp op T x y _=>match pd tt op T (st.eval x) (st.eval y) with
  | some n=>∀ b:Bool,(n≠0→b=false)→Q (st.put o.dst (.sc (.bool (ql op b))))
  | none=>match me P tt st o with
   | some v=>Q (st.put o.dst v)
   | none=>False
 | _=>match me P tt st o with
  | some v=>Q (st.put o.dst v)
  | none=>False

theorem zX {P:Program} {E:Env} {w:World} {fv:V} {fx:Value} {args:List V} {xs:Array Value} {g:FuncId} {vs:List V} (hf:dh E fv fx) (ha:cY E args xs.toList) (h:dn fv args=some (g,vs)) :
  ∃ d,∃ ys:Array Value,cY E vs ys.toList∧(Deferred.ofValue fx xs).run P w = .ok d w∧(invoke d.target d.args).run P w=(callFunc g ys).run P w:=by
 unfold dn at h;split at h;·simp only [aF,eA] at h;obtain⟨rfl,rfl⟩:=h;obtain rfl:=gN hf;(rename_i g first cap);have IC:∀ zs:Array Value,cY E (zs.toList.map V.sc) zs.toList:=fun zs=>⟨by simp,fun i c x hc hx=>n9 E zs i c x hc (by simpa using hx)⟩;exact⟨{ target:=.fn (.func g) cap,args:=first++xs },first++xs++cap,by simp only [jZ]; exact ((IC first).append ha).append (IC cap),rfl,by simp [invoke]⟩
 ·simp only [aF,eA] at h;obtain⟨rfl,rfl⟩:=h;rename_i g _ _;cases hf with | cX _ _ first cap ys zs h1 h2 h3 h4 =>refine⟨{ target:=.fn (.func g) zs,args:=ys++xs },ys++xs++zs,?_,rfl,by simp [invoke]⟩;simp only [jZ];exact (cY.append (cY.append ⟨by simpa using h1,fun i c x hc hx=>h3 i c x hc (by simpa using hx)⟩ ha) ⟨by simpa using h2,fun i c x hc hx=>h4 i c x hc (by simpa using hx)⟩)
 cases h

theorem rF {P:Program} {E:Env} {w:World} {fv:V} {fx:Value} {args:List V} {xs:Array Value} {g:FuncId} {vs:List V} (hf:dh E fv fx) (ha:cY E args xs.toList) (h:dn fv args=some (g,vs)) :
  ∃ ys:Array Value,cY E vs ys.toList∧(do let d ← Deferred.ofValue fx xs; invoke d.target d.args:Sem Next).run P w=(callFunc g ys).run P w:=by
 unfold dn at h;split at h;·simp only [aF,eA] at h;obtain⟨rfl,rfl⟩:=h;obtain rfl:=gN hf;(rename_i first cap);have IC:∀ zs:Array Value,cY E (zs.toList.map V.sc) zs.toList:=fun zs=>⟨by simp,fun i c x hc hx=>n9 E zs i c x hc (by simpa using hx)⟩;refine⟨first++xs++cap,by simp only [jZ]; exact ((IC first).append ha).append (IC cap),?_⟩;simp [Deferred.ofValue,invoke]
 ·simp only [aF,eA] at h;obtain⟨rfl,rfl⟩:=h;cases hf with | cX _ _ first cap ys zs h1 h2 h3 h4 =>refine⟨ys++xs++zs,?_,?_⟩;(·simp only [jZ];exact (cY.append (cY.append ⟨by simpa using h1,fun i c x hc hx=>h3 i c x hc (by simpa using hx)⟩ ha) ⟨by simpa using h2,fun i c x hc hx=>h4 i c x hc (by simpa using hx)⟩));simp [Deferred.ofValue,invoke]
 cases h

theorem FL {P:Program} {tt:Table} {E:Env} {bD:List (Nat×Nat)} {ev:Operand→V} {av:Operand→Value} (ni:∀ o,dh E (ev o) (av o)):∀ (parts:List (Nat×Operand)) (cs:List V) (xs:Array Value) (out:List V),
  cY E cs xs.toList→u1 bD ev parts cs=some out→∃ ys,Instr.fill (bD[·]?) xs (parts.map fun p=>(p.1,av p.2))=some ys∧cY E out ys.toList:=by intro parts;induction parts with | nil=>intro cs xs out hr h; simp only [u1,aF] at h; subst h; exact⟨xs,rfl,hr⟩ | cons p r ih =>intro cs xs out hr h;obtain⟨i,x⟩:=p;simp only [u1] at h;split at h;(·rename_i p hp;split at h;(·rename_i new pb;split at h;(·rename_i hc;obtain⟨h1,h2⟩:=qi (ni x) pb;(have mY:(av x).cells.size=p.2:=by have:=h1.1; simp at this; omega);(have qa:xs.size=cs.length:=by have:=hr.1; simp at this; omega);obtain⟨ys,h3,h4⟩:=ih _ _ out (xN new _ cs xs p.1 h1 hr) h;refine⟨ys,?_,h4⟩;simp only [cR,Instr.fill,hp,mY];rw [if_neg (by simp; omega),← h3];congr 1;rw [← apX,aqw];exact xP p.1 (av x).cells.toList 0 xs);cases h);cases h);cases h

theorem u2 {P:Program} {tt:Table} (ht:TT P tt) {E:Env} {w:World} {a:Act} {st:St} (hs:dr E w a st) {T:TypeId} {parts:Array (Nat×Operand)} {v:V} (h:nC P tt T parts.toList st.eval=some v) :
  ∃ x,(Instr.build T (parts.map fun (i,x)=>(i,a.eval x))).run P w = .ok x w∧dh E v x:=by
 unfold nC at h;split at h
 ·rename_i i hi;split at h
  ·rename_i ep;split at h
   ·rename_i cs Dn;simp only [aF] at h; subst h;obtain⟨info,xQ,-,-,z,hz,Fz⟩:=ht.size T i hi;obtain⟨d,hd,-,-,S3⟩:=ht.desc T i hi;obtain⟨ys,h1,h2⟩:=FL (P:=P) (tt:=tt) hs.eval parts.toList _ z.cells cs (by rw [Fz]; exact⟨by simp,fun i c x hc hx=>by simp only [ae,hx,cA,aF] at hc; subst hc; exact .sc _ _⟩) Dn;have hfs:∃ fs,d = .struct fs∧fs.size=i.bD.length∧∀ k (hk:k<fs.size),∃ inf,P.info? fs[k].type=some inf∧i.bD[k]?=some (fs[k].offset,inf.size):=by have zJ:0<i.bD.length:=List.length_pos_iff.2 ep;obtain⟨fs,fd,inf,rfl,hlen,-⟩:=S3 0 (i.bD[0]).1 (i.bD[0]).2 (ak zJ);refine⟨fs,rfl,hlen,fun k hk=>?_⟩;obtain⟨fs',fd,inf,he,-,Ca,CB,hf3,hf4,-⟩:=S3 k (i.bD[k]'(by omega)).1 (i.bD[k]'(by omega)).2 (ak (by omega));cases he;rw [ch hk] at Ca; cases Ca;exact⟨inf,hf3,by rw [ak (by omega),CB,hf4]⟩
    obtain⟨fs,rfl,hlen,ef⟩:=hfs
    have IC:(fs.mapM fun f=>do pure (f.offset,← sizeOf f.type):Sem (Array (Nat×Nat))).run P w = .ok i.bD.toArray w:=by
     have gen:∀ (l:List Field) (fl:List (Nat×Nat)),l.length=fl.length→(∀ k (hk:k<l.length),∃ inf,P.info? l[k].type=some inf∧fl[k]?=some (l[k].offset,inf.size)) →
       (l.mapM fun f=>do pure (f.offset,← sizeOf f.type):Sem (List (Nat×Nat))).run P w = .ok fl w:=by
      intro l
      induction l with
      | nil=>intro fl hl _; have:fl=[]:=cC.1 hl.symm; subst this; rfl
      | cons f r ih =>
       intro fl hl hk
       cases fl with
       | nil=>simp at hl
       | cons p fl =>
        obtain⟨inf,h1,h2⟩:=hk 0 (by simp)
        simp only [List.getElem_cons_zero,dk,aF] at h1 h2
        subst h2
        have:=ih fl (by simpa using hl) fun k fN=>hk (k+1) (Nat.succ_lt_succ fN)
        simp only [apN,Sem.run_bind,iE h1,Result.andThen_ok,Sem.run_pure,this]
     have:=gen fs.toList i.bD hlen fun k hk=>ef k hk;rw [ap3];simp only [Sem.run_map,this,Result.andThen_ok]
    have tV:(parts.map fun (i,x)=>(i,a.eval x)).toList=parts.toList.map fun p=>(p.1,a.eval p.2):=by simp
    refine⟨.agg ys,?_,.agg _ _ _ (by simpa using h2.1) fun i c x hc hx=>h2.2 i c x hc (by simpa using hx)⟩;unfold Instr.build;have hzv:(zeroValue T).run P w = .ok z w:=by simp [zeroValue,hY xQ,hz]
    simp only [Sem.run_bind,hzv,Result.andThen_ok,bG hd,IC,tV];have abQ:(fun (k:Nat)=>i.bD.toArray[k]?)=(fun (k:Nat)=>i.bD[k]?):=by funext k; simp
    simp only [abQ,h1];simp
   cases h
  split at h;·rename_i l hl;have hp:=rD hs.eval hl;unfold Ow at h;split at h;(·rename_i cs Dn;cases h;refine⟨.agg cs,?_,.agg _ _ _ (by simp) (n9 E cs)⟩;(have tV:(parts.map fun (i,x)=>(i,a.eval x))=l.toArray:=by rw [← hp]; apply apA.1; simp);rw [tV];exact gM _ Dn w);cases h
  cases h
 cases h
end Go.Eng
end
