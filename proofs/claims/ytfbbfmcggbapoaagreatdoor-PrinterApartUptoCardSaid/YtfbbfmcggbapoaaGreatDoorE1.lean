import Derived.Orders
import Derived.Below
import Derived.Laws.AppendOwn
import Derived.Laws.Cells
import Derived.Laws.Entries
import Derived.Laws.ResultCell
import Derived.Laws.BytesArg
import Derived.Laws.Append
import Derived.IntWalk
open Array renaming append_assoc→auI,eq_empty_of_size_eq_zero→au1,foldl_toList→at6,getD_eq_getD_getElem?→kl,getElem?_append_left→aum,getElem?_append_right→auZ,getElem?_eq_getElem→bP,getElem?_eq_none→atF,getElem?_eq_some_iff→dw,getElem?_map→at7,getElem?_modify→atD,getElem?_setIfInBounds_ne→Du,getElem?_toList→dJ,isEmpty_iff_size_eq_zero→auz,length_toList→fA,size_append→adV,size_map→auo,toArray_toList→cr,toList_append→y4,toList_filter→aub,toList_push→auD,toList_zipIdx→auO
open Bool renaming and_eq_true→aJ,and_true→aU,eq_iff_iff→ajO,false_eq_true→bu,or_eq_false_iff→ez,or_self→cE
open Go.RowKit.Below renaming heap_alloc→dP
open List renaming all_cons→cI,all_eq_true→aN,all_nil→dM,drop_eq_getElem_cons→dW,drop_eq_nil_of_le→eH,drop_zero→xU,ext_getElem?→dC,findIdx?_cons→auJ,foldl_cons→o3,getD_eq_getElem?_getD→ey,getElem?_append→n6,getElem?_append_left→bh,getElem?_append_right→aX,getElem?_cons_succ→cO,getElem?_cons_zero→aF,getElem?_drop→auG,getElem?_eq_getElem→au,getElem?_eq_none→cH,getElem?_eq_some_iff→aA,getElem?_map→aq,getElem?_replicate→aui,getElem?_set→bR,getElem?_set_ne→cD,getElem?_take→jV,getElem?_take_of_lt→jf,head?_eq_getElem?→auT,isEmpty_iff→at1,length_append→ae,length_cons→af,length_drop→e8,length_eq_zero_iff→cb,length_map→ax,length_nil→ai,length_take→lg,map_cons→bm,map_nil→iK,mem_cons→b8,mem_cons_of_mem→bj,mem_cons_self→cV,mem_of_getElem?→aE,take_nil→atS,take_of_length_le→dX,take_zero→xV
open Nat renaming add_assoc→lT,add_comm→atG,add_mul→iJ,add_zero→jW,div_add_mod→auq,div_lt_iff_lt_mul→auR,eq_zero_or_pos→atC,le_refl→ay,le_trans→fU,lt_irrefl→apq,lt_of_lt_of_le→qJ,lt_or_ge→bS,lt_succ_self→nU,mod_lt→atE,mul_le_mul→aun,mul_le_mul_right→kL,mul_one→rq,pos_of_ne_zero→auH,sub_self→eI,succ_mul→mW,zero_add→dL
open Option renaming getD_none→at0,getD_some→atZ,map_eq_some_iff→aY,map_none→atX,map_some→b9
open Option.some renaming injEq→aB
open Prod.mk renaming injEq→dn
set_option linter.all false
section
namespace Go.Eng
class ba where
 n:Int
 κ:Int→Option Bool
 ok:∀ k b,κ k=some b→decide (k≤n)=b
 g:Option Nat
 u4:Nat→Option (List Value)
variable [ba]
structure Gl (F:Addr→Option Value):Prop where
 n:∀ g,ba.g=some g→F ⟨g,0,none⟩=some (.int .i64 ba.n)
 t:∀ g cs (j:Nat) x,ba.u4 g=some cs→cs[j]?=some x→F ⟨g,j,none⟩=some x
theorem Gl.mono {F F':Addr→Option Value} (h:Gl F) (hF:∀ ad x,F ad=some x→F' ad=some x):Gl F':=⟨fun g hg=>hF _ _ (h.n g hg),fun g cs j x h1 h2=>hF _ _ (h.t g cs j x h1 h2)⟩
inductive V where
 | undef
 | sc (v:Value)
 | agg (cs:List V)
 | slice (rows:List V)
 | ms (b v s l:Nat)
 | ptr (b o:Nat)
 | gJ (b v i o:Nat)
 | eY (cs:List V)
 | ia (f:Fn) (first cap:List V)
 | dR (vs:List V)
 | jK (b:Nat)
 | mp (b:Nat)
 | gn
 | full (rows:List V)
 deriving Inhabited
def V.cells:V→List V
 | .agg cs=>cs
 | v=>[v]
structure Env where
 F:Addr→Option Value
 cn:Nat→Nat→Option (Nat×Nat×Nat)
 gl:Gl F
def Env.pure (E:Env):Env := { F:=E.F,cn:=fun _ _=>none,gl:=E.gl }
inductive cT:Env→V→Value→Prop
 | undef (E:Env) (x:Value):cT E .undef x
 | sc (E:Env) (v:Value):cT E (.sc v) v
 | agg (E:Env) (cs:List V) (xs:Array Value) (hl:cs.length=xs.size) (h:∀ (i:Nat) (c:V) (x:Value),cs[i]?=some c→xs[i]?=some x→cT E c x):cT E (.agg cs) (.agg xs)
 | slice (E:Env) (rows:List V) (a:Option Addr) (cap uj:Nat) (ad:Addr) (xf:Nat→Nat→Value) (ha:rows≠[]→a=some ad) (lR:rows.length≤cap)
   (hs:∀ (i:Nat) (row:V),rows[i]?=some row→row.cells.length=uj)
   (hF:∀ (i:Nat) (row:V) (j:Nat) (c:V),rows[i]?=some row→row.cells[j]?=some c→E.F (ad.add (i*uj+j))=some (xf i j))
   (h1:∀ (i:Nat) (row:V) (j:Nat) (c:V),rows[i]?=some row→row.cells[j]?=some c→(xf i j).oneCell'=true)
   (h:∀ (i:Nat) (row:V) (j:Nat) (c:V),rows[i]?=some row→row.cells[j]?=some c→cT E.pure c (xf i j)):cT E (.slice rows) (.slice a rows.length cap)
 | ms (E:Env) (b v s l g e c:Nat) (a:Option Addr) (cap:Nat) (hb:E.cn b v=some (g,e,c)) (hl:0<l→a=some ⟨g,s*e,none⟩) (h0:s=0→a=some ⟨g,0,none⟩∧cap=c) (hc:l≤cap∧s+cap=c∧(0<cap→a=some ⟨g,s*e,none⟩)) :
   cT E (.ms b v s l) (.slice a l cap)
 | iv (E:Env) (b v s:Nat):cT E (.ms b v s 0) (.slice none 0 0)
 | ptr (E:Env) (b o g e c:Nat) (hb:E.cn b 0=some (g,e,c)):cT E (.ptr b o) (.pointer (some ⟨g,o,none⟩))
 | gJ (E:Env) (b v i o g e c:Nat) (hb:E.cn b v=some (g,e,c)):cT E (.gJ b v i o) (.pointer (some ⟨g,i*e+o,none⟩))
 | eY (E:Env) (cs:List V) (ad:Addr) (xf:Nat→Value) (hF:∀ (j:Nat) (c:V),cs[j]?=some c→E.F (ad.add j)=some (xf j)) (h:∀ (j:Nat) (c:V),cs[j]?=some c→cT E.pure c (xf j)) :
   cT E (.eY cs) (.pointer (some ad))
 | ia (E:Env) (f:Fn) (first cap:List V) (xs ys:Array Value) (hx:first.length=xs.size) (hy:cap.length=ys.size)
   (h1:∀ (i:Nat) (c:V) (x:Value),first[i]?=some c→xs[i]?=some x→cT E c x) (h2:∀ (i:Nat) (c:V) (x:Value),cap[i]?=some c→ys[i]?=some x→cT E c x):cT E (.ia f first cap) (.func f xs ys)
 | jK (E:Env) (b l e c:Nat) (hb:E.cn b 0=some (l,e,c)):cT E (.jK b) (.func (.yield l) #[] #[])
 | mp (E:Env) (b l e c:Nat) (hb:E.cn b 0=some (l,e,c)):cT E (.mp b) (.map (some l))
 | gn (E:Env):cT E .gn (.int .i64 ba.n)
 | full (E:Env) (rows:List V) (a:Option Addr) (h:cT E (.slice rows) (.slice a rows.length rows.length)):cT E (.full rows) (.slice a rows.length rows.length)
 | dR (E:Env) (vs:List V) (xs:Array Value) (hl:vs.length=xs.size) (h:∀ (i:Nat) (c:V) (x:Value),vs[i]?=some c→xs[i]?=some x→cT E c x):cT E (.dR vs) (.tuple xs)
def cU (E:Env) (vs:List V) (xs:List Value):Prop:=vs.length=xs.length∧∀ (i:Nat) (v:V) (x:Value),vs[i]?=some v→xs[i]?=some x→cT E v x
theorem Env.Mt {a b:Env} (h1:a.F=b.F) (h2:a.cn=b.cn):a=b:=by cases a;cases b;dsimp only at h1 h2;subst h1;subst h2;rfl
structure Env.le (E E':Env):Prop where
 F:∀ ad x,E.F ad=some x→E'.F ad=some x
 cn:∀ b v t,E.cn b v=some t→E'.cn b v=some t
theorem Env.le_refl (E:Env):E.le E:=⟨fun _ _ h=>h,fun _ _ _ h=>h⟩
theorem Env.le_trans {a b c:Env} (h:a.le b) (k:b.le c):a.le c:=⟨fun ad x hx=>k.F _ _ (h.F _ _ hx),fun b v t hx=>k.cn _ _ _ (h.cn _ _ _ hx)⟩
theorem Env.kC {a b:Env} (h:a.le b):a.pure.le b.pure:=⟨h.F,fun _ _ _ h=>h⟩
theorem Env.sY (a:Env):a.pure.le a:=⟨fun _ _ h=>h,fun _ _ _ h=>by simp [Env.pure] at h⟩
theorem cT.mono {E E':Env} {v:V} {x:Value} (h:cT E v x) (hle:E.le E'):cT E' v x:=by induction h generalizing E' with|undef=>exact .undef _ _|sc=>exact .sc _ _|agg E cs xs hl h ih=>exact .agg _ _ _ hl fun i c x hc hx=>ih i c x hc hx hle|slice E rows a cap uj ad xf ha lR hs hF h1 h ih=>exact .slice _ _ _ _ uj ad xf ha lR hs (fun i row j c hi hj=>hle.F _ _ (hF i row j c hi hj)) h1 fun i row j c hi hj=>ih i row j c hi hj (Env.kC hle)|ms E b v s l g e c a cap hb hl h0 hc=>exact .ms _ _ _ _ _ g e c _ _ (hle.cn _ _ _ hb) hl h0 hc|iv E b v s=>exact .iv _ _ _ _|ptr E b o g e c hb=>exact .ptr _ _ _ g e c (hle.cn _ _ _ hb)|gJ E b v i o g e c hb=>exact .gJ _ _ _ _ _ g e c (hle.cn _ _ _ hb)|eY E cs ad xf hF h ih=>exact .eY _ _ _ xf (fun j c hj=>hle.F _ _ (hF j c hj)) fun j c hj=>ih j c hj (Env.kC hle)|ia E f first cap xs ys hx hy h1 h2 YB Fg=>exact .ia _ _ _ _ _ _ hx hy (fun i c x hc hx=>YB i c x hc hx hle) fun i c x hc hx=>Fg i c x hc hx hle|jK E b l e c hb=>exact .jK _ _ l e c (hle.cn _ _ _ hb)|mp E b l e c hb=>exact .mp _ _ l e c (hle.cn _ _ _ hb)|gn E=>exact .gn _|full E rows a h ih=>exact .full _ _ _ (ih hle)|dR E vs xs hl h ih=>exact .dR _ _ _ hl fun i c x hc hx=>ih i c x hc hx hle
theorem cU.mono {E E':Env} {vs:List V} {xs:List Value} (h:cU E vs xs) (hle:E.le E'):cU E' vs xs :=
 ⟨h.1,fun i v x hv hx=>(h.2 i v x hv hx).mono hle⟩
theorem cU.nil (E:Env):cU E [] []:=⟨rfl,fun i v x h=>by simp at h⟩
theorem cU.cons {E:Env} {v:V} {x:Value} {vs:List V} {xs:List Value} (h:cT E v x) (hs:cU E vs xs):cU E (v :: vs) (x :: xs):=by refine⟨by simp [hs.1],fun i=>?_⟩;cases i with|zero=>intro v' x' hv hx;simp at hv hx;subst hv;subst hx;exact h|succ i=>intro v' x' hv hx;simp at hv hx;exact hs.2 i v' x' hv hx
theorem cU.of_cons {E:Env} {v:V} {vs:List V} {xs:List Value} (h:cU E (v :: vs) xs):∃ x ys,xs=x :: ys∧cT E v x∧cU E vs ys:=by cases xs with|nil=>have:=h.1;simp at this|cons x ys=>exact⟨x,ys,rfl,h.2 0 v x rfl rfl,by have:=h.1;simpa using this,fun i v' x' hv hx=>h.2 (i+1) v' x' (by simpa using hv) (by simpa using hx)⟩
theorem cU.of_nil {E:Env} {xs:List Value} (h:cU E [] xs):xs=[]:=by have:=h.1;simp at this;exact cb.1 this.symm
theorem cU.append {E:Env} {vs us:List V} {xs ys:List Value} (h:cU E vs xs) (k:cU E us ys):cU E (vs++us) (xs++ys):=by
 refine⟨by simp [h.1,k.1],fun i v x hv hx=>?_⟩;by_cases hi:i<vs.length;·rw [bh hi] at hv;rw [bh (h.1 ▸ hi)] at hx;exact h.2 i v x hv hx
 rw [aX (by omega)] at hv;rw [aX (by have:=h.1;omega),← h.1] at hx;exact k.2 _ v x hv hx
theorem cU.get {E:Env} {vs:List V} {xs:List Value} (h:cU E vs xs) {i:Nat} {v:V} (hv:vs[i]?=some v):∃ x,xs[i]?=some x∧cT E v x:=by
 have hi:i<xs.length:=by rw [← h.1];exact (aA.1 hv).1
 exact⟨xs[i],au hi,h.2 i v _ hv (au hi)⟩
theorem cU.drop {E:Env} {vs:List V} {xs:List Value} (h:cU E vs xs) (n:Nat):cU E (vs.drop n) (xs.drop n) :=
 ⟨by simp [h.1],fun i v x hv hx=>h.2 (n+i) v x (by simpa using hv) (by simpa using hx)⟩
theorem cU.take {E:Env} {vs:List V} {xs:List Value} (h:cU E vs xs) (n:Nat):cU E (vs.take n) (xs.take n):=by
 refine⟨by simp [h.1],fun i v x hv hx=>?_⟩;have hi:i<n:=by by_cases hi:i<n;(·exact hi);rw [jV] at hv;simp [hi] at hv
 rw [jf hi] at hv hx;exact h.2 i v x hv hx
theorem cU.set {E:Env} {vs:List V} {xs:List Value} (h:cU E vs xs) (n:Nat) {v:V} {x:Value} (hv:cT E v x):cU E (vs.set n v) (xs.set n x):=by
 refine⟨by simp [h.1],fun i v' x' zO TS=>?_⟩;by_cases hi:n=i;·subst hi;rw [bR] at zO TS;simp only [if_true] at zO TS;split at zO;(·split at TS;(·simp at zO TS;subst zO;subst TS;exact hv);simp at TS);simp at zO
 rw [cD hi] at zO TS;exact h.2 i v' x' zO TS
theorem cT.cells {E:Env} {v:V} {x:Value} (h:cT E v x) (hu:v ≠ .undef) (hs:∀ y,v = .sc y→∀ cs,y ≠ .agg cs):cU E v.cells x.cells.toList:=by cases h with|undef=>exact absurd rfl hu|sc =>(have:x.cells = #[x]:=by have:=hs x rfl;cases x <;> simp [Value.cells] at this ⊢);simp only [V.cells,this];exact .cons (.sc _ _) (.nil _)|agg _ cs xs hl h=>exact⟨by simpa [V.cells,Value.cells] using hl,fun i c x hc hx=>h i c x hc (by simpa [Value.cells] using hx)⟩|slice _ rows a cap uj ad xf ha lR hz hF h1 h=>exact .cons (.slice _ _ _ _ uj ad xf ha lR hz hF h1 h) (.nil _)|ms _ b v s l g e c a cap hb hl h0 hc=>exact .cons (.ms _ _ _ _ _ g e c _ _ hb hl h0 hc) (.nil _)|iv _ b v s=>exact .cons (.iv _ _ _ _) (.nil _)|ptr _ b o g e c hb=>exact .cons (.ptr _ _ _ g e c hb) (.nil _)|gJ _ b v i o g e c hb=>exact .cons (.gJ _ _ _ _ _ g e c hb) (.nil _)|eY _ cs ad xf hF h=>exact .cons (.eY _ _ _ xf hF h) (.nil _)|ia _ f first cap xs ys hx hy h1 h2=>exact .cons (.ia _ _ _ _ _ _ hx hy h1 h2) (.nil _)|jK _ b l e c hb=>exact .cons (.jK _ _ l e c hb) (.nil _)|mp _ b l e c hb=>exact .cons (.mp _ _ l e c hb) (.nil _)|gn=>exact .cons (.gn _) (.nil _)|full _ rows a h=>exact .cons (.full _ _ _ h) (.nil _)|dR _ vs xs hl h=>exact .cons (.dR _ _ _ hl h) (.nil _)
end Go.Eng
end
section
namespace Go.Eng
variable [ba]
structure Ti where
 size:Nat
 agg:Bool
 zero:List Value
 bA:List (Nat×Nat):=[]
 elem:Option TypeId:=none
 bytes:Nat:=0
 deriving Inhabited
abbrev Table:=TypeId→Option Ti
def uk:List Value→Bool
 | [.string _]=>true
 | _=>false
structure TT (P:Program) (tt:Table):Prop where
 size:∀ t i,tt t=some i→∃ info,P.info? t=some info∧info.size=i.size∧info.bytes=i.bytes∧∃ z,info.zero=some z∧z.cells.toList=i.zero
 desc:∀ t i,tt t=some i→∃ d,P.underlying t=some d∧(i.agg=true↔((∃ fs,d = .struct fs)∨∃ n e,d = .array n e)) ∧
  (∀ e,i.elem=some e→d = .slice e) ∧
  (∀ (f off sz:Nat),i.bA[f]?=some (off,sz)→∃ fs fd inf,d = .struct fs∧fs.size=i.bA.length∧fs[f]?=some fd∧fd.offset=off∧P.info? fd.type=some inf∧inf.size=sz∧sz≠0)
 str:∀ t i,tt t=some i→uk i.zero=true→i.agg=false→P.underlying t=some .string
def dv {α:Type} (P:Program):Sem α→Option α
 | .pure a=>some a
 | .program k=>dv P (k P)
 | .mark _ k=>dv P k
 | _=>none
theorem fY {α:Type} {P:Program} (s:Sem α) {v:α} (h:dv P s=some v) (w:World):s.run P w = .ok v w:=by induction s with|pure a=>simp [dv] at h;subst h;rfl|program k ih=>exact ih P h|mark m k ih=>exact ih h|_=>simp [dv] at h
def kf:Value→V
 | .agg cs=>.agg (cs.toList.map V.sc)
 | .tuple vs=>.dR (vs.toList.map V.sc)
 | v=>.sc v
theorem lX (E:Env) (cs:Array Value) (i:Nat) (c:V) (x:Value) (hc:(cs.toList.map V.sc)[i]?=some c) (hx:cs[i]?=some x):cT E c x:=by simp only [aq,dJ,hx,b9,aB] at hc;subst hc;exact .sc _ _
theorem kn (E:Env) (v:Value):cT E (kf v) v:=by cases v with|agg cs=>exact .agg _ _ _ (by simp) (lX E cs)|tuple cs=>exact .dR _ _ _ (by simp) (lX E cs)|_=>exact .sc _ _
inductive bf where
 | hole
 | dead
 | box (cs:List V)
 | rows (v e:Nat) (rs:List V)
 | rv (v e:Nat) (rs:List V)
 | loop (s:LoopState) (nc:Option Code) (fr:List V) (params:Array Tmp) (assign body:Code)
 | map (dx:List (Value×Nat×V)) (clock:Nat)
 | jg (m since:Nat) (seen:List Nat) (last:Nat)
 | mX (s:ByteArray) (pos:Nat)
 | nk (T:TypeId) (kb v l:Nat)
 | n7 (T:TypeId) (v:Nat) (O:List UInt8)
 | nC
 deriving Inhabited
structure St where
 fr:List V
 mem:List bf
def St.eval (st:St):Operand→V
 | .tmp t=>st.fr.getD t .undef
 | .const v=>kf v
 | .global g=>if ba.g=some g then .eY [.gn] else match ba.u4 g with|some cs=>.eY (cs.map V.sc)|none=>.undef
 | .func f=>.sc (.func (.func f) #[] #[])
def St.put (st:St) (dst:Option Tmp) (v:V):St :=
 match dst with
 | some d => { st with fr:=st.fr.set d v }
 | none=>st
def lY (E:Env) (e:Nat) (rs:List V) (at_:Nat→Option Value):Prop :=
 ∀ (i:Nat) (row:V),rs[i]?=some row→row.cells.length=e∧∀ (j:Nat) (c:V),row.cells[j]?=some c→∃ x,at_ (i*e+j)=some x∧x.oneCell'=true∧cT E c x
def fQ (E:Env) (dx:List (Value×Nat×V)) (es:List MapEntry):Prop :=
 dx.length=es.length∧∀ (i:Nat) (k:Value×Nat×V) (e:MapEntry),dx[i]?=some k→es[i]?=some e→e.key=k.1∧e.born=k.2.1∧cT E k.2.2 e.val
theorem fQ.mono {E E':Env} {dx:List (Value×Nat×V)} {es:List MapEntry} (h:fQ E dx es) (hle:E.le E'):fQ E' dx es :=
 ⟨h.1,fun i k e hk he=>let ⟨h1,h2,h3⟩:=h.2 i k e hk he;⟨h1,h2,h3.mono hle⟩⟩
def kc (E:Env) (w:World) (k:Nat):bf→Prop
 | .hole=>∀ v,E.cn k v=none
 | .dead=>True
 | .box cs=>∃ g T xs,E.cn k 0=some (g,0,0)∧w.heap[g]?=some (.cells xs T (0,0))∧cU E cs xs.toList∧∀ o,E.F ⟨g,o,none⟩=none
 | .rows v e rs=>(rs=[]∧E.cn k v=none)∨∃ g T xs c,E.cn k v=some (g,e,c)∧w.heap[g]?=some (.cells xs T (0,0))∧xs.size=c*e∧rs.length≤c∧lY E.pure e rs (fun o=>xs[o]?)∧∀ o,E.F ⟨g,o,none⟩=none
 | .rv v e rs=>(rs=[]∧E.cn k v=none)∨∃ g c,E.cn k v=some (g,e,c)∧rs.length≤c∧lY E.pure e rs (fun o=>E.F ⟨g,o,none⟩)
 | .loop s nc fr params assign body=>∃ l fn tmps db,E.cn k 0=some (l,0,0)∧w.heap[l]?=some (.loop { state:=s,pending:=nc,fn:=fn,tmps:=tmps,params:=params,assign:=assign,body:=body,defers:=db })∧cU E fr tmps.toList∧∀ o,E.F ⟨l,o,none⟩=none
 | .map dx clock=>∃ g es,E.cn k 0=some (g,0,0)∧w.heap[g]?=some (.map es clock)∧fQ E dx es.toList∧∀ o,E.F ⟨g,o,none⟩=none
 | .jg m since seen last=>∃ g gm e c,E.cn k 0=some (g,0,0)∧E.cn m 0=some (gm,e,c)∧w.heap[g]?=some (.mapIter (some gm) since seen.toArray last)∧∀ o,E.F ⟨g,o,none⟩=none
 | .mX s pos=>∃ g,E.cn k 0=some (g,0,0)∧w.heap[g]?=some (.stringIter s pos)∧∀ o,E.F ⟨g,o,none⟩=none
 | .nk T kb v l=>∃ g T' p s,E.cn k 0=some (g,0,0)∧w.heap[g]?=some (.cells #[p,s] T' (0,0))∧((p = .pointer none∧T'=T)∨p = .pointer (some ⟨g,0,none⟩))∧cT E (.ms kb v 0 l) s∧∀ o,E.F ⟨g,o,none⟩=none
 | .n7 T v O=>(O=[]∧E.cn k v=none)∨∃ g cur c,E.cn k v=some (g,1,c)∧w.heap[g]?=some (.cells cur T (0,0))∧cur.size=c∧(O.length≤c∧c≤maxLen)∧(∀ (j:Nat) (b:UInt8),O[j]?=some b→cur[j]?=some (Value.int .u8 (b.toNat:Int)))∧∀ o,E.F ⟨g,o,none⟩=none
 | .nC=>∃ g,E.cn k 0=some (g,0,0)∧w.heap[g]?=some (.mapIter none 0 #[] 0)∧∀ o,E.F ⟨g,o,none⟩=none
def bf.dI:bf→Nat
 | .rows v _ _=>v
 | .rv v _ _=>v
 | .n7 _ v _=>v
 | _=>0
def bf.held:bf→Bool
 | .hole|.dead=>false
 | _=>true
structure c5 (E:Env) (w:World) (a:Act) (st:St):Prop where
 F:∀ ad x,E.F ad=some x→w.cell? ad=some x
 lt:∀ k v g e c,E.cn k v=some (g,e,c)→g<w.heap.size
 mem:∀ k B,st.mem[k]?=some B→kc E w k B
 top:∀ k,st.mem.length≤k→∀ v,E.cn k v=none
 dI:∀ k B,st.mem[k]?=some B→∀ v,B.dI<v→E.cn k v=none
 apart:∀ k k' v v' g e c e' c',E.cn k v=some (g,e,c)→E.cn k' v'=some (g,e',c')→k=k'
 fr:cU E st.fr a.tmps.toList
theorem c5.eval {E:Env} {w:World} {a:Act} {st:St} (h:c5 E w a st) (x:Operand):cT E (st.eval x) (a.eval x):=by cases x with|tmp t =>(simp only [St.eval,Act.eval];cases hv:st.fr[t]? with|none=>rw [ey,hv];exact .undef _ _|some v =>obtain⟨x,hx,hr⟩:=h.fr.get hv;rw [ey,hv,kl];simp only [dJ] at hx;rw [hx];exact hr)|const v=>exact kn E v|global g =>(simp only [St.eval,Act.eval];split;(·rename_i hg;refine .eY _ _ _ (fun _=>.int .i64 ba.n) (fun j c hc=>?_) fun j c hc=>?_;(·match j with|0=>exact E.gl.n g hg|j+1=>simp at hc);match j with|0=>simp at hc;subst hc;exact .gn _|j+1=>simp at hc);split;(·rename_i cs mc;refine .eY _ _ _ (fun j=>(cs[j]?).getD undef) (fun j c hc=>?_) fun j c hc=>?_;(·simp only [aq,aY] at hc;obtain⟨x,hx,rfl⟩:=hc;(have h1:(Addr.mk g 0 none).add j=⟨g,j,none⟩:=by unfold Addr.add;by_cases hj:j=0 <;> simp [hj]);rw [h1,hx];exact E.gl.t g cs j x mc hx);simp only [aq,aY] at hc;obtain⟨x,hx,rfl⟩:=hc;rw [hx];exact .sc _ _);exact .undef _ _)|func f=>exact .sc _ _
structure gK (E:Env) (w:World) (E':Env) (w':World):Prop where
 le:E.le E'
 cn:∀ k v g e c,E'.cn k v=some (g,e,c)→(∃ k0 v0 e0 c0,E.cn k0 v0=some (g,e0,c0))∨w.heap.size≤g
 F:∀ ad x,E'.F ad=some x→E.F ad=some x∨w.heap.size≤ad.block∨∃ k0 v0 e0 c0,E.cn k0 v0=some (ad.block,e0,c0)
 os:w'.os=w.os
 tape:w'.tape=w.tape
 output:w'.output=w.output
 size:w.heap.size≤w'.heap.size
 heap:∀ b,b<w.heap.size→(∀ k v e c,E.cn k v≠some (b,e,c))→w'.heap[b]?=w.heap[b]?
theorem gK.refl (E:Env) (w:World):gK E w E w :=
 ⟨E.le_refl,fun k v g e c h=>.inl ⟨k,v,e,c,h⟩,fun _ _ h=>.inl h,rfl,rfl,rfl,ay _,fun _ _ _=>rfl⟩
theorem gK.trans {E E1 E2:Env} {w w1 w2:World} (h:gK E w E1 w1) (k:gK E1 w1 E2 w2):gK E w E2 w2:=by
 refine⟨Env.le_trans h.le k.le,?_,?_,k.os.trans h.os,k.tape.trans h.tape,k.output.trans h.output,fU h.size k.size,?_⟩;·intro q v g e c hq;(rcases k.cn q v g e c hq with ⟨k0,v0,e0,c0,h0⟩|h0);(·exact h.cn _ _ _ _ _ h0);exact .inr (fU h.size h0)
 ·intro ad x hx;(rcases k.F ad x hx with h0|h0|⟨k0,v0,e0,c0,h0⟩);(·exact h.F _ _ h0);(·exact .inr (.inl (fU h.size h0)));(rcases h.cn _ _ _ _ _ h0 with h1|h1);(·exact .inr (.inr h1));exact .inr (.inl h1)
 intro b hb dy;rw [k.heap b (qJ hb h.size) ?_,h.heap b hb dy];intro q v e c hq;rcases h.cn _ _ _ _ _ hq with ⟨k0,v0,e0,c0,h0⟩|h0
 ·exact dy _ _ _ _ h0
 omega
theorem gK.drew (E:Env) (w:World):gK E w E w.drew :=
 ⟨E.le_refl,fun k v g e c h=>.inl ⟨k,v,e,c,h⟩,fun _ _ h=>.inl h,rfl,rfl,rfl,ay _,fun _ _ _=>rfl⟩
theorem c5.drew {E:Env} {w:World} {a:Act} {st:St} (h:c5 E w a st):c5 E w.drew a st :=
 ⟨h.F,h.lt,fun k B hB=>by have:=h.mem k B hB;cases B <;> exact this,h.top,h.dI,h.apart,h.fr⟩
theorem c5.put {E:Env} {w:World} {a:Act} {st:St} (h:c5 E w a st) (dst:Option Tmp) {v:V} {x:Value} (hr:cT E v x):c5 E w (a.put dst x) (st.put dst v):=by cases dst with|none=>exact h|some d=>exact⟨h.F,h.lt,h.mem,h.top,h.dI,h.apart,by simpa [St.put,Act.put] using h.fr.set d hr⟩
end Go.Eng
end
section
namespace Go.Eng
variable [ba]
def jl (tt:Table) (T:TypeId) (cs:List V):Option V :=
 match tt T with
 | some i=>if i.agg then (if i.size≤cs.length then some (.agg (cs.take i.size)) else none) else cs.head?
 | none=>none
def rowOf (mem:List bf) (b v i:Nat):Option V :=
 match mem[b]? with
 | some (.rows v' _ rs)=>if v'=v then rs[i]? else none
 | some (.rv v' _ rs)=>if v'=v then rs[i]? else none
 | _=>none
def pd (tt:Table) (mem:List bf) (T:TypeId):V→Option V
 | .ptr b o=>match mem[b]? with|some (.box cs)=>jl tt T (cs.drop o)|_=>none
 | .gJ b v i o=>match rowOf mem b v i with|some row=>jl tt T (row.cells.drop o)|none=>none
 | .eY cs=>jl tt T cs
 | _=>none
def Ui (tt:Table) (S:TypeId) (f:Nat):Option Nat:=match tt S with|some i=>(match i.bA[f]? with|some p=>some p.1|none=>none)|none=>none
def jz (tt:Table) (T:TypeId):Option TypeId:=match tt T with|some i=>i.elem|none=>none
def n8 (tt:Table) (T:TypeId):Option Nat:=match tt T with|some i=>some i.size|none=>none
def fieldAt (off:Nat):V→Option V
 | .ptr b o=>some (.ptr b (o+off))
 | .gJ b v i o=>some (.gJ b v i (o+off))
 | .eY cs=>some (.eY (cs.drop off))
 | _=>none
def Dx (tt:Table) (S:TypeId) (f:Nat) (x:V):Option V:=match Ui tt S f with|some off=>fieldAt off x|none=>none
def lZ (mem:List bf) (b v:Nat):Option Nat :=
 match mem[b]? with
 | some (.rows v' e _)=>if v'=v then some e else none
 | some (.rv v' e _)=>if v'=v then some e else none
 | _=>none
def indexAt (mem:List bf) (size:Nat) (n:Int):V→Option V
 | .slice rows=>if 0≤n then (match rows[n.toNat]? with|some row=>if row.cells.length=size then some (.eY row.cells) else none|none=>none) else none
 | .ms b v s l=>if 0≤n∧n<l∧lZ mem b v=some size then some (.gJ b v (s+n.toNat) 0) else none
 | _=>none
def nD (tt:Table) (mem:List bf) (T:TypeId) (x i:V):Option V :=
 match i with
 | .sc (.int _ n)=>match jz tt T with
  | some e=>match n8 tt e with
   | some size=>indexAt mem size n x
   | none=>none
  | none=>none
 | _=>none
theorem add_add (a:Addr) (m n:Nat):(a.add m).add n=a.add (m+n):=by unfold Addr.add;by_cases hm:m=0 <;> by_cases hn:n=0 <;> simp [hm,hn,lT]
theorem add_lit (b o n:Nat):(Addr.mk b o none).add n=⟨b,o+n,none⟩:=by unfold Addr.add;by_cases hn:n=0 <;> simp [hn]
theorem aZ {P:Program} {t:TypeId} {d:TypeDesc} (h:P.underlying t=some d) (w:World):(underlying t).run P w = .ok d w:=by simp [underlying,h]
theorem eR {P:Program} {t:TypeId} {i:TypeInfo} (h:P.info? t=some i) (w:World):(typeInfo t).run P w = .ok i w:=by simp [typeInfo,h]
theorem fG {P:Program} {t:TypeId} {i:TypeInfo} (h:P.info? t=some i) (w:World):(sizeOf t).run P w = .ok i.size w:=by simp [sizeOf,eR h]
theorem TT.isAgg {P:Program} {tt:Table} (h:TT P tt) {t:TypeId} {i:Ti} (ht:tt t=some i) (w:World):(isAgg t).run P w = .ok i.agg w:=by obtain⟨d,hd,ha,-⟩:=h.desc t i ht;simp only [Go.isAgg,Sem.run_bind,aZ hd,Result.andThen_ok];cases hi:i.agg with|true =>(rcases ha.1 hi with ⟨fs,rfl⟩|⟨n,e,rfl⟩ <;> rfl)|false =>(have:¬ ((∃ fs,d = .struct fs)∨∃ n e,d = .array n e):=fun hh=>by rw [ha.2 hh] at hi;cases hi);cases d <;> first|rfl|(exfalso;apply this;first|exact .inl ⟨_,rfl⟩|exact .inr ⟨_,_,rfl⟩)
theorem TT.sizeOf {P:Program} {tt:Table} (h:TT P tt) {t:TypeId} {i:Ti} (ht:tt t=some i) (w:World):(Go.sizeOf t).run P w = .ok i.size w:=by obtain⟨info,h1,h2,-⟩:=h.size t i ht;rw [fG h1,h2]
def n9 (E:Env) (w:World) (ad:Addr) (cs:List V):Prop:=∀ (j:Nat) (c:V),cs[j]?=some c→∃ x,w.cell? (ad.add j)=some x∧cT E c x
theorem n9.drop {E:Env} {w:World} {ad:Addr} {cs:List V} (h:n9 E w ad cs) (n:Nat):n9 E w (ad.add n) (cs.drop n):=fun j c hc=>by rw [add_add];exact h _ _ (by simpa using hc)
theorem yL {P:Program} {tt:Table} (ht:TT P tt) {E:Env} {w:World} {ad:Addr} {cs:List V} {T:TypeId} {v:V} (h:n9 E w ad cs) (hp:jl tt T cs=some v) :
  ∃ x,(loadVar T ad).run P w = .ok x w∧cT E v x:=by unfold jl at hp;cases hi:tt T with|none=>rw [hi] at hp;simp at hp|some i =>rw [hi] at hp;simp only at hp;cases ha:i.agg with|false =>simp only [ha,bu,if_false] at hp;obtain⟨x,hx,hr⟩:=h 0 v (by simpa [auT] using hp);(have h0:ad.add 0=ad:=by simp [Addr.add]);rw [h0] at hx;refine⟨x,?_,hr⟩;simp [loadVar,ht.isAgg hi,ha,hx]|true =>simp only [ha,if_true] at hp;split at hp;(·rename_i hle;simp only [aB] at hp;subst hp;(have hx:∀ j,j<i.size→∃ x,w.cell? (ad.add j)=some x∧∀ c,cs[j]?=some c→cT E c x:=fun j hj=>by (have H8:j<cs.length:=by omega);obtain⟨x,hx,hr⟩:=h j _ (au H8);exact⟨x,hx,fun c hc=>by rw [au H8] at hc;cases hc;exact hr⟩);let f:Nat→Value:=fun j=>(w.cell? (ad.add j)).getD default;(have hf:∀ j,j<i.size→w.cell? (ad.add j)=some (f j):=fun j hj=>by obtain⟨x,hx,-⟩:=hx j hj;simp [f,hx]);refine⟨.agg ((List.range i.size).map f).toArray,?_,?_⟩;(·simp only [loadVar,Sem.run_bind,ht.isAgg hi,Result.andThen_ok,ha,if_true,ht.sizeOf hi];rw [run_loadCells w ad i.size f hf];simp);refine .agg _ _ _ (by simp;omega) fun j c x hc hxx=>?_;(have hj:j<i.size:=by by_cases hj:j<i.size;(·exact hj);rw [jV] at hc;simp [hj] at hc);rw [jf hj] at hc;obtain⟨y,hy,hr⟩:=hx j hj;simp [hj] at hxx;rw [← hxx];(have:f j=y:=by simp [f,hy]);rw [this];exact hr c hc);simp at hp
theorem Ip {E:Env} {w:World} (hF:∀ ad x,E.F ad=some x→w.cell? ad=some x) {cs:List V} {x:Value} (h:cT E (.eY cs) x):∃ ad,x = .pointer (some ad)∧n9 E w ad cs:=by cases h with|eY _ _ ad xf hf hr=>exact⟨ad,rfl,fun j c hc=>⟨xf j,hF _ _ (hf j c hc),(hr j c hc).mono E.sY⟩⟩
theorem nd {w:World} {g:Nat} {xs:Array Value} {T:TypeId} {fz:Nat×Nat} (h:w.heap[g]?=some (.cells xs T fz)) (o:Nat):w.cell? ⟨g,o,none⟩=xs[o]?:=by simp [World.cell?,h]
theorem Mu {E:Env} {w:World} {a:Act} {st:St} (hs:c5 E w a st) {b o:Nat} {cs:List V} (hm:st.mem[b]?=some (.box cs)) {x:Value} (h:cT E (.ptr b o) x) :
  ∃ ad,x = .pointer (some ad)∧n9 E w ad (cs.drop o):=by cases h with|ptr _ _ _ g e c hb =>obtain⟨g',T,xs,fR,hh,hr,-⟩:=hs.mem b _ hm;rw [hb] at fR;cases fR;refine⟨_,rfl,fun j c hc=>?_⟩;rw [add_lit,nd hh];obtain⟨y,hy,Pe⟩:=hr.get (i:=o+j) (by simpa using hc);exact⟨y,by simpa using hy,Pe⟩
theorem Iq {E:Env} {w:World} {a:Act} {st:St} (hs:c5 E w a st) {b v i o:Nat} {row:V} (hm:rowOf st.mem b v i=some row) {x:Value} (h:cT E (.gJ b v i o) x) :
  ∃ ad,x = .pointer (some ad)∧n9 E w ad (row.cells.drop o):=by cases h with|gJ _ _ _ _ _ g e c hb =>refine⟨_,rfl,fun j cc hc=>?_⟩;rw [add_lit];(have WD:row.cells[o+j]?=some cc:=by simpa using hc);unfold rowOf at hm;split at hm;(·rename_i v' e' rs hk;split at hm;(·rename_i hv;subst hv;(rcases hs.mem b _ hk with ⟨rfl,-⟩|⟨g',T,xs,c',fR,hh,-,-,hr,-⟩);(·simp at hm);rw [hb] at fR;cases fR;obtain⟨-,h2⟩:=hr i row hm;obtain⟨y,hy,-,Pe⟩:=h2 _ _ WD;exact⟨y,by rw [nd hh,lT];exact hy,Pe.mono E.sY⟩);cases hm);(·rename_i v' e' rs hk;split at hm;(·rename_i hv;subst hv;(rcases hs.mem b _ hk with ⟨rfl,-⟩|⟨g',c',fR,-,hr⟩);(·simp at hm);rw [hb] at fR;cases fR;obtain⟨-,h2⟩:=hr i row hm;obtain⟨y,hy,-,Pe⟩:=h2 _ _ WD;exact⟨y,hs.F _ _ (by rw [lT];exact hy),Pe.mono E.sY⟩);cases hm);simp at hm
theorem xW {P:Program} {tt:Table} (ht:TT P tt) {E:Env} {w:World} {a:Act} {st:St} (hs:c5 E w a st) {T:TypeId} {p v:V} {x:Value} (hr:cT E p x) (h:pd tt st.mem T p=some v) :
  ∃ y,(Instr.loadAt T x).run P w = .ok y w∧cT E v y:=by
 have key:∃ ad cs,x = .pointer (some ad)∧n9 E w ad cs∧jl tt T cs=some v:=by unfold pd at h;split at h;(·split at h;(·rename_i hm;obtain⟨ad,h1,h2⟩:=Mu hs hm hr;exact⟨ad,_,h1,h2,h⟩);simp at h);(·split at h;(·rename_i hm;obtain⟨ad,h1,h2⟩:=Iq hs hm hr;exact⟨ad,_,h1,h2,h⟩);simp at h);(·obtain⟨ad,h1,h2⟩:=Ip hs.F hr;exact⟨ad,_,h1,h2,h⟩);simp at h
 obtain⟨ad,cs,rfl,hc,hp⟩:=key;obtain⟨y,hy,Pe⟩:=yL ht hc hp;exact⟨y,by simp [Instr.loadAt,Instr.sureAddr,hy],Pe⟩
theorem Dy {P:Program} {tt:Table} (ht:TT P tt) {E:Env} {S:TypeId} {f:Nat} {p v:V} {x:Value} (hr:cT E p x) (h:Dx tt S f p=some v) (w:World) :
  ∃ y,(Instr.fieldAt S x f).run P w = .ok y w∧cT E v y:=by unfold Dx Ui at h;cases hi:tt S with|none=>rw [hi] at h;simp at h|some i =>rw [hi] at h;simp only at h;cases ho:i.bA[f]? with|none=>rw [ho] at h;simp at h|some off =>rw [ho] at h;simp only at h;obtain⟨d,hd,-,-,ajR⟩:=ht.desc S i hi;obtain⟨fs,fd,inf,rfl,-,hf,ho1,oI,nV,sZ⟩:=ajR f off.1 off.2 ho;(have iw:inf.size≠0:=by omega);obtain⟨off,sz⟩:=off;dsimp only at ho1;subst ho1;(have run:∀ ad,(Instr.fieldAt S (.pointer (some ad)) f).run P w = .ok (.pointer (some (ad.add fd.offset))) w:=fun ad=>by simp [Instr.fieldAt,aZ hd,hf,Instr.sureAddr,fieldPlace,fG oI,iw]);unfold Eng.fieldAt at h;split at h;(·simp only [aB] at h;subst h;cases hr with|ptr _ _ _ g e c hb=>exact⟨_,run _,by rw [add_lit];exact .ptr _ _ _ g e c hb⟩);(·simp only [aB] at h;subst h;cases hr with|gJ _ _ _ _ _ g e c hb=>exact⟨_,run _,by rw [add_lit,lT];exact .gJ _ _ _ _ _ g e c hb⟩);(·simp only [aB] at h;subst h;cases hr with|eY _ _ ad xf hf hr=>exact⟨_,run _,.eY _ _ _ (fun j=>xf (fd.offset+j)) (fun j c hc=>by rw [add_add];exact hf _ _ (by simpa using hc)) fun j c hc=>hr _ _ (by simpa using hc)⟩);simp at h
theorem Ft {E:Env} {w:World} {a:Act} {st:St} (hs:c5 E w a st) {b v size g e c:Nat} (h:lZ st.mem b v=some size) (hb:E.cn b v=some (g,e,c)):e=size:=by
 unfold lZ at h;split at h;·rename_i hk;split at h;(·rename_i hv;subst hv;(rcases hs.mem b _ hk with ⟨-,hn⟩|⟨g',T',xs,c',fR,-⟩);(·rw [hb] at hn;cases hn);rw [hb] at fR;cases fR;simpa using h);cases h
 ·rename_i hk;split at h;(·rename_i hv;subst hv;(rcases hs.mem b _ hk with ⟨-,hn⟩|⟨g',c',fR,-⟩);(·rw [hb] at hn;cases hn);rw [hb] at fR;cases fR;simpa using h);cases h
 simp at h
theorem Dz {P:Program} {tt:Table} (ht:TT P tt) {E:Env} {w:World} {a:Act} {st:St} (hs:c5 E w a st) {T:TypeId} {p i v:V} {x y:Value} (hp:cT E p x) (hi:cT E i y) (h:nD tt st.mem T p i=some v) :
  ∃ z,(Instr.indexAt T x y).run P w = .ok z w∧cT E v z:=by
 unfold nD at h;split at h;·rename_i k n;cases hi with|sc =>unfold jz n8 at h;cases hT:tt T with|none=>rw [hT] at h;simp at h|some iT =>rw [hT] at h;simp only at h;cases he:iT.elem with|none=>rw [he] at h;simp at h|some e =>rw [he] at h;simp only at h;cases hE:tt e with|none=>rw [hE] at h;simp at h|some ie =>rw [hE] at h;simp only at h;obtain⟨d,hd,-,uZ,-⟩:=ht.desc T iT hT;obtain rfl:=uZ e he;(have run:∀ (ad:Addr) (len cap:Nat),0≤n→n<len→(Instr.indexAt T (.slice (some ad) len cap) (.int k n)).run P w = .ok (.pointer (some (ad.add (n.toNat*ie.size)))) w:=fun ad len cap h0 h1=>by simp [Instr.indexAt,asIntOf,aZ hd,ht.sizeOf hE,h0,h1]);unfold Eng.indexAt at h;split at h;(·rename_i rows;split at h;(·rename_i h0;split at h;(·rename_i row oJ;split at h;(·rename_i hlen;simp only [aB] at h;subst h;cases hp with|slice _ _ aa cap uj ad xf ha lR hz hF h1 hR =>have bQ:n.toNat<rows.length:=(aA.1 oJ).1;(have dy:rows≠[]:=by rintro rfl;simp at bQ);obtain rfl:=ha dy;(have ajS:uj=ie.size:=by rw [← hz _ _ oJ,hlen]);subst ajS;exact⟨_,run ad _ cap h0 (by omega),.eY _ _ _ (fun j=>xf n.toNat j) (fun j c hc=>by rw [add_add];exact hF _ _ _ _ oJ hc) fun j c hc=>hR _ _ _ _ oJ hc⟩);simp at h);simp at h);simp at h);(·rename_i b v s l;split at h;(·rename_i h0;obtain⟨h0,h1,h2⟩:=h0;simp only [aB] at h;subst h;cases hp with|iv=>simp at h1;omega|ms _ _ _ _ _ g e' c aa cap hb hl TU hc =>obtain rfl:=hl (by omega);have hee:e'=ie.size:=Ft hs h2 hb;subst hee;refine⟨_,run _ _ cap h0 h1,?_⟩;have:=cT.gJ E b v (s+n.toNat) 0 g ie.size c hb;rw [add_lit,← iJ];simpa using this);simp at h);simp at h
 simp at h
end Go.Eng
end
section
namespace Go.Eng
variable [ba]
def CA:List V→Option (List Value)
 | []=>some []
 | .sc v :: r=>match CA r with|some l=>some (v :: l)|none=>none
 | _ :: _=>none
def fa:V→Option Value
 | .sc v=>some v
 | .agg cs=>match CA cs with|some l=>some (.agg l.toArray)|none=>none
 | _=>none
theorem CB {E:Env}:∀ {vs:List V} {xs:List Value} {l:List Value},cU E vs xs→CA vs=some l→xs=l
 | [],xs,l,h,hl=>by simp [CA] at hl;subst hl;exact h.of_nil
 | v :: vs,xs,l,h,hl=>by
  obtain⟨x,ys,rfl,h1,h2⟩:=h.of_cons
  cases v with
  | sc v =>
   simp only [CA] at hl
   split at hl
   ·rename_i l' hl'
    simp only [aB] at hl;subst hl
    cases h1
    rw [CB h2 hl']
   simp at hl
  | _=>simp [CA] at hl
theorem jY {E:Env} {v:V} {x y:Value} (h:cT E v x) (hv:fa v=some y):x=y:=by cases v with|sc v=>cases h;simpa [fa] using hv|agg cs =>(simp only [fa] at hv;split at hv;(·rename_i l hl;simp only [aB] at hv;subst hv;cases h with|agg _ _ xs hlen hr =>have:=CB (E:=E) (xs:=xs.toList) ⟨by simpa using hlen,fun i c x hc hx=>hr i c x hc (by simpa using hx)⟩ hl;rw [← this]);simp at hv)|_=>simp [fa] at hv
def tQ (P:Program) (f:Value→Sem Value) (x:V):Option V :=
 match fa x with
 | some a=>match dv P (f a) with|some v=>some (kf v)|none=>none
 | none=>none
def dE (P:Program) (f:Value→Value→Sem Value) (x y:V):Option V :=
 match fa x with
 | some a=>match fa y with
  | some b=>match dv P (f a b) with|some v=>some (kf v)|none=>none
  | none=>none
 | none=>none
theorem ry {P:Program} {f:Value→Sem Value} {E:Env} {w:World} {x v:V} {a:Value} (hx:cT E x a) (h:tQ P f x=some v):∃ y,(f a).run P w = .ok y w∧cT E v y:=by
 unfold tQ at h;split at h;·rename_i a' ha;cases jY hx ha;split at h;(·rename_i y hy;simp only [aB] at h;subst h;exact⟨y,fY _ hy w,kn E y⟩);simp at h
 simp at h
theorem mq {P:Program} {f:Value→Value→Sem Value} {E:Env} {w:World} {x y v:V} {a b:Value} (hx:cT E x a) (hy:cT E y b) (h:dE P f x y=some v) :
  ∃ z,(f a b).run P w = .ok z w∧cT E v z:=by
 unfold dE at h;split at h;·rename_i a' ha;cases jY hx ha;split at h;(·rename_i b' hb;cases jY hy hb;split at h;(·rename_i z hz;simp only [aB] at h;subst h;exact⟨z,fY _ hz w,kn E z⟩);simp at h);simp at h
 simp at h
def YC:V→Option V
 | .ptr b o=>some (.ptr b o)
 | .gJ b v i o=>some (.gJ b v i o)
 | .eY cs=>some (.eY cs)
 | .ia (.func f) a b=>some (.ia (.func f) a b)
 | .sc (.func (.func f) a b)=>some (.sc (.func (.func f) a b))
 | _=>none
def jZ (rows:List V) (l size:Nat):Bool:=match rows[l]? with|some row=>row.cells.length==size|none=>true
def cutAt (mem:List bf) (size:Nat) (l:Int) (h:Option Int):V→Option V
 | .slice rows =>
  if 0≤l∧l≤h.getD rows.length∧h.getD rows.length≤rows.length∧jZ rows l.toNat size=true then some (.slice ((rows.drop l.toNat).take (h.getD rows.length-l).toNat)) else none
 | .ms b v s n =>
  if 0≤l∧l≤h.getD n∧h.getD n≤n∧lZ mem b v=some size then some (.ms b v (s+l.toNat) (h.getD n-l).toNat) else none
 | _=>none
def Fu:V→Option Int
 | .sc (.int _ n)=>some n
 | _=>none
def DA (P:Program) (tt:Table) (mem:List bf) (T:TypeId) (x:V) (lo hi:Option V):Option V :=
 match x with
 | .sc a=>match lo with
  | none=>match hi with
   | none=>tQ P (fun a=>Instr.sliceAt T a none none none) (.sc a)
   | some h=>dE P (fun a h=>Instr.sliceAt T a none (some h) none) (.sc a) h
  | some l=>match hi with
   | none=>dE P (fun a l=>Instr.sliceAt T a (some l) none none) (.sc a) l
   | some h=>match fa h with
    | some h=>dE P (fun a l=>Instr.sliceAt T a (some l) (some h) none) (.sc a) l
    | none=>none
 | x=>match jz tt T with
  | none=>none
  | some e=>match n8 tt e with
   | none=>none
   | some size=>match lo with
    | none=>match hi with
     | none=>cutAt mem size 0 none x
     | some h=>match Fu h with|some h=>cutAt mem size 0 (some h) x|none=>none
    | some l=>match Fu l with
     | none=>none
     | some l=>match hi with
      | none=>cutAt mem size l none x
      | some h=>match Fu h with|some h=>cutAt mem size l (some h) x|none=>none
theorem rz {E:Env} {v:V} {x:Value} {n:Int} (h:cT E v x) (hv:Fu v=some n):∃ k,x = .int k n:=by
 unfold Fu at hv;split at hv;·cases h;simp at hv;subst hv;exact⟨_,rfl⟩
 simp at hv
theorem oa {E:Env} {w:World} {a:Act} {st:St} (hs:c5 E w a st) {size:Nat} {l:Int} {h:Option Int} {x v:V} {y:Value} (hx:cT E x y) (hc:cutAt st.mem size l h x=some v) :
  ∃ aa len cap,y = .slice aa len cap∧0≤l∧l≤h.getD len∧h.getD len≤len∧len≤cap ∧
   cT E v (.slice (if cap=l.toNat then aa else aa.map (·.add (l.toNat*size))) (h.getD len-l).toNat (cap-l.toNat)):=by
 unfold cutAt at hc;split at hc
 ·rename_i rows;split at hc
  ·rename_i hh;obtain⟨h0,h1,h2,h3⟩:=hh;simp only [aB] at hc;subst hc
   cases hx with
   | slice _ _ aa cap uj ad xf ha lR hz hF qa hR =>
    refine⟨aa,rows.length,cap,rfl,h0,h1,h2,lR,?_⟩
    have hlen:((rows.drop l.toNat).take (h.getD rows.length-l).toNat).length=(h.getD rows.length-l).toNat:=by simp;omega
    have hg:∀ (i:Nat) (row:V),((rows.drop l.toNat).take (h.getD rows.length-l).toNat)[i]?=some row→rows[l.toNat+i]?=some row:=fun i row hi=>by
     rw [jV] at hi
     split at hi
     ·simpa using hi
     simp at hi
    suffices Fv:cT E (.slice ((rows.drop l.toNat).take (h.getD rows.length-l).toNat)) (.slice (if cap=l.toNat then aa else aa.map (·.add (l.toNat*size))) ((rows.drop l.toNat).take (h.getD rows.length-l).toNat).length (cap-l.toNat)) by
     rw [hlen] at Fv;exact Fv
    refine .slice _ _ _ (cap-l.toNat) uj (ad.add (l.toNat*uj)) (fun i j=>xf (l.toNat+i) j) (fun dy=>?_) (by rw [hlen];omega) (fun i row hi=>hz _ _ (hg i row hi))
     (fun i row j c hi hj=>by rw [add_add,← lT,← iJ];exact hF _ _ _ _ (hg i row hi) hj) (fun i row j c hi hj=>qa _ _ _ _ (hg i row hi) hj) fun i row j c hi hj=>hR _ _ _ _ (hg i row hi) hj
    have bQ:l.toNat<rows.length:=by
     rcases bS l.toNat rows.length with bQ|jL
     ·exact bQ
     exact absurd (by rw [eH jL];simp) dy
    have DB:rows≠[]:=by rintro rfl;simp at bQ
    rw [if_neg (by omega),ha DB]
    unfold jZ at h3
    rw [au bQ] at h3
    simp only [beq_iff_eq] at h3
    rw [← h3,hz _ _ (au bQ)]
    rfl
  simp at hc
 ·rename_i b v s n;split at hc;(·rename_i hh;obtain⟨h0,h1,h2,h3⟩:=hh;simp only [aB] at hc;subst hc;cases hx with|iv =>refine⟨none,0,0,rfl,h0,h1,h2,ay _,?_⟩;(have e1:l.toNat=0:=by have:((0:Nat):Int)=0:=rfl;omega);(have e2:(h.getD (0:Nat)-l).toNat=0:=by have:((0:Nat):Int)=0:=rfl;omega);rw [e1,e2];exact .iv _ _ _ _|ms _ _ _ _ _ g e c aa cap hb hl TU u0 =>obtain rfl:=Ft hs h3 hb;refine⟨aa,n,cap,rfl,h0,h1,h2,u0.1,?_⟩;refine .ms _ _ _ _ _ g e c _ _ hb (fun hp=>?_) (fun hz=>?_) ⟨by omega,by omega,fun hp=>by rw [if_neg (by omega),u0.2.2 (by omega)];simp only [b9,add_lit,← iJ]⟩;(·rw [if_neg (by omega),hl (by omega)];simp only [b9,add_lit,← iJ]);obtain⟨h5,h6⟩:=TU (by omega);(have:l.toNat=0:=by omega);rw [this,h5];refine⟨?_,by omega⟩;split;(·rfl);simp [Addr.add]);simp at hc
 simp at hc
theorem ob {P:Program} {tt:Table} (ht:TT P tt) {T e:TypeId} {size:Nat} (he:jz tt T=some e) (hz:n8 tt e=some size) (w:World) (aa:Option Addr) (len cap:Nat) (lo hi:Option Value)
  (l:Int) (h:Option Int) (qb:(lo=none∧l=0)∨∃ k,lo=some (.int k l)) (tR:(hi=none∧h=none)∨∃ k n,hi=some (.int k n)∧h=some n)
  (h0:0≤l) (h1:l≤h.getD len) (h2:h.getD len≤len) (h3:len≤cap) :
  (Instr.sliceAt T (.slice aa len cap) lo hi none).run P w = .ok (.slice (if cap=l.toNat then aa else aa.map (·.add (l.toNat*size))) (h.getD len-l).toNat (cap-l.toNat)) w:=by unfold jz at he;unfold n8 at hz;cases hT:tt T with|none=>rw [hT] at he;simp at he|some iT =>rw [hT] at he;simp only at he;cases hE:tt e with|none=>rw [hE] at hz;simp at hz|some ie =>rw [hE] at hz;simp only [aB] at hz;subst hz;obtain⟨d,hd,-,uZ,-⟩:=ht.desc T iT hT;obtain rfl:=uZ e he;(have apu:∀ m:Int,(m-l).toNat=m.toNat-l.toNat:=fun m=>by omega);(rcases qb with ⟨rfl,rfl⟩|⟨k,rfl⟩ <;> rcases tR with ⟨rfl,rfl⟩|⟨k',n,rfl,rfl⟩ <;> simp only [atZ,at0] at h1 h2 ⊢ <;> simp only [Instr.sliceAt,Instr.slice,Sem.run_bind,aZ hd,Result.andThen_ok,Instr.sliceBounds,Instr.sliceBound,asIntOf,Sem.run_pure,ht.sizeOf hE,Option.isSome_none]);(·simp);(·rw [if_pos ⟨by omega,by omega⟩];simp);(·rw [if_pos ⟨by omega,by omega⟩];simp;omega);rw [if_pos ⟨by omega,by omega⟩];simp only [Sem.run_pure,Result.andThen_ok];rw [if_pos ⟨by omega,by omega⟩];simp;omega
end Go.Eng
end
section
namespace Go.Eng
variable [ba]
def gi (kind:TypeDesc) (k:Value):List (Value×Nat×V)→Nat→Option (Option (Nat×V))
 | [],_=>some none
 | e :: r,i=>match Instr.sameNow kind k e.1 with
  | some true=>some (some (i,e.2.2))
  | some false=>gi kind k r (i+1)
  | none=>none
def rA (P:Program) (T:TypeId) (k:Value):List (Value×Nat×V)→Nat→Option (Option (Nat×V))
 | [],_=>some none
 | e :: r,i=>match dv P (Op.equal T k e.1) with
  | some true=>some (some (i,e.2.2))
  | some false=>rA P T k r (i+1)
  | none=>none
def pe (P:Program) (T:TypeId) (k:Value) (dx:List (Value×Nat×V)):Option (Option (Nat×V)) :=
 match P.underlying T with
 | some d=>match gi d k dx 0 with
  | some r=>some r
  | none=>rA P T k dx 0
 | none=>none
def Found (E:Env) (dx:List (Value×Nat×V)) (es:List MapEntry):Option (Nat×V)→Option (Nat×Value)→Prop
 | none,none=>True
 | some (i,v),some (j,x)=>i=j∧cT E v x∧∃ kb e,dx[i]?=some kb∧es[i]?=some e∧kb.2.2=v∧e.val=x
 | _,_=>False
theorem fQ.get {E:Env} {dx:List (Value×Nat×V)} {es:List MapEntry} (h:fQ E dx es) {i:Nat} {kb:Value×Nat×V} (hk:dx[i]?=some kb):∃ e,es[i]?=some e∧e.key=kb.1∧e.born=kb.2.1∧cT E kb.2.2 e.val:=by
 have hi:i<es.length:=by rw [← h.1];exact (aA.1 hk).1
 exact⟨es[i],au hi,h.2 i kb _ hk (au hi)⟩
theorem fQ.drop {E:Env} {dx:List (Value×Nat×V)} {es:List MapEntry} (h:fQ E dx es) (n:Nat):fQ E (dx.drop n) (es.drop n) :=
 ⟨by simp [h.1],fun i k e hk he=>h.2 (n+i) k e (by simpa using hk) (by simpa using he)⟩
theorem fQ.of_nil {E:Env} {es:List MapEntry} (h:fQ E [] es):es=[]:=by have:=h.1;simp at this;exact cb.1 this.symm
theorem fQ.of_cons {E:Env} {k:Value×Nat×V} {r:List (Value×Nat×V)} {es:List MapEntry} (h:fQ E (k :: r) es):∃ e es',es=e :: es'∧e.key=k.1∧e.born=k.2.1∧cT E k.2.2 e.val∧fQ E r es':=by cases es with|nil=>have:=h.1;simp at this|cons e es' =>obtain⟨h1,h2,h3⟩:=h.2 0 k e rfl rfl;exact⟨e,es',rfl,h1,h2,h3,by have:=h.1;simpa using this,fun i k' e' hk he=>h.2 (i+1) k' e' (by simpa using hk) (by simpa using he)⟩
theorem zP {E:Env} {kind:TypeDesc} {k:Value} {dx:List (Value×Nat×V)} {es:List MapEntry} (h:fQ E dx es):∀ (n:Nat) {r:Option (Nat×V)},gi kind k (dx.drop n) n=some r →
  ∃ r',Instr.findNow kind k (es.drop n) n=some r'∧Found E dx es r r':=by intro n;generalize hl:dx.length-n=m;induction m generalizing n with|zero =>intro r hr;have h1:dx.drop n=[]:=eH (by omega);have h2:es.drop n=[]:=eH (by have:=h.1;omega);rw [h1] at hr;rw [h2];simp only [gi,aB] at hr;subst hr;exact⟨none,rfl,trivial⟩|succ m ih =>intro r hr;(have hn:n<dx.length:=by omega);(have WE:n<es.length:=by have:=h.1;omega);rw [dW hn] at hr;rw [dW WE];have hk:=au hn;have he:=au WE;obtain⟨h1,h2,h3⟩:=h.2 n _ _ hk he;simp only [gi] at hr;simp only [Instr.findNow,h1];split at hr;(·rename_i hs;rw [hs];simp only [aB] at hr;subst hr;exact⟨_,rfl,rfl,h3,_,_,hk,he,rfl,rfl⟩);(·rename_i hs;rw [hs];exact ih (n+1) (by omega) hr);cases hr
theorem B9 {E:Env} {kind:TypeDesc} {k:Value} {dx:List (Value×Nat×V)} {es:List MapEntry} (h:fQ E dx es):∀ (n:Nat),gi kind k (dx.drop n) n=none→Instr.findNow kind k (es.drop n) n=none:=by intro n;generalize hl:dx.length-n=m;induction m generalizing n with|zero =>intro hr;have h1:dx.drop n=[]:=eH (by omega);rw [h1] at hr;simp [gi] at hr|succ m ih =>intro hr;(have hn:n<dx.length:=by omega);(have WE:n<es.length:=by have:=h.1;omega);rw [dW hn] at hr;rw [dW WE];obtain⟨h1,h2,h3⟩:=h.2 n _ _ (au hn) (au WE);simp only [gi] at hr;simp only [Instr.findNow,h1];split at hr;(·cases hr);(·rename_i hs;rw [hs];exact ih (n+1) (by omega) hr);rename_i hs;rw [hs]
theorem zQ {P:Program} {E:Env} {T:TypeId} {k:Value} {dx:List (Value×Nat×V)} {es:List MapEntry} (h:fQ E dx es) (w:World):∀ (n:Nat) {r:Option (Nat×V)},rA P T k (dx.drop n) n=some r →
  ∃ r',(Instr.findAsking T k (es.drop n) n).run P w = .ok r' w∧Found E dx es r r':=by intro n;generalize hl:dx.length-n=m;induction m generalizing n with|zero =>intro r hr;have h1:dx.drop n=[]:=eH (by omega);have h2:es.drop n=[]:=eH (by have:=h.1;omega);rw [h1] at hr;rw [h2];simp only [rA,aB] at hr;subst hr;exact⟨none,rfl,trivial⟩|succ m ih =>intro r hr;(have hn:n<dx.length:=by omega);(have WE:n<es.length:=by have:=h.1;omega);rw [dW hn] at hr;rw [dW WE];have hk:=au hn;have he:=au WE;obtain⟨h1,h2,h3⟩:=h.2 n _ _ hk he;simp only [rA] at hr;simp only [Instr.findAsking,h1,Sem.run_bind];split at hr;(·rename_i hs;rw [fY _ hs w];simp only [aB] at hr;subst hr;exact⟨_,rfl,rfl,h3,_,_,hk,he,rfl,rfl⟩);(·rename_i hs;rw [fY _ hs w];simpa using ih (n+1) (by omega) hr);cases hr
theorem gO {P:Program} {E:Env} {T:TypeId} {k:Value} {dx:List (Value×Nat×V)} {es:Array MapEntry} (h:fQ E dx es.toList) (w:World) {r:Option (Nat×V)} (hr:pe P T k dx=some r) :
  ∃ r',(Instr.findKey T k es.toList).run P w = .ok r' w∧Found E dx es.toList r r':=by
 unfold pe at hr;split at hr;·rename_i d hd;simp only [Instr.findKey,Sem.run_bind,aZ hd,Result.andThen_ok];split at hr;(·rename_i r1 h1;simp only [aB] at hr;subst hr;obtain⟨r',h2,h3⟩:=zP h 0 (r:=r1) (by simpa using h1);simp only [xU] at h2;rw [h2];exact⟨r',rfl,h3⟩);rename_i h1;have h2:=B9 h 0 (by simpa using h1);simp only [xU] at h2;rw [h2];simpa using zQ h w 0 (r:=r) (by simpa using hr)
 cases hr
def tS (P:Program) (T:TypeId) (k:Value):Bool :=
 match P.underlying T with
 | some (.int _)=>true
 | some .string=>true
 | some .bool=>true
 | _=>match dv P (Instr.checkKey false 10000 T k),dv P (Instr.checkKey true 10000 T k) with
  | some _,some _=>true
  | _,_=>false
theorem oc {P:Program} {T:TypeId} {k:Value} (h:tS P T k=true) (b:Bool) (w:World):(Instr.checkKey b 10000 T k).run P w = .ok () w:=by
 unfold tS at h;have YD:∀ d,P.underlying T=some d→(∀ m,d ≠ .interface m)→(∀ n e,d ≠ .array n e)→(∀ fs,d ≠ .struct fs)→(Instr.checkKey b 10000 T k).run P w = .ok () w:=by intro d hd h1 h2 h3;show (Instr.checkKey b (9999+1) T k).run P w=_;rw [Instr.checkKey];simp only [Sem.run_bind,aZ hd,Result.andThen_ok];cases d <;> first|(cases k <;> rfl)|exact absurd rfl (h1 _)|exact absurd rfl (h2 _ _)|exact absurd rfl (h3 _)
 split at h;·rename_i hd;exact YD _ hd (by simp) (by simp) (by simp)
 ·rename_i hd;exact YD _ hd (by simp) (by simp) (by simp)
 ·rename_i hd;exact YD _ hd (by simp) (by simp) (by simp)
 split at h;·rename_i h1 h2;cases b;(·exact fY _ h1 w);exact fY _ h2 w
 cases h
def zeroV (P:Program) (T:TypeId):Option V :=
 match P.info? T with
 | some i=>match i.zero with|some z=>some (kf z)|none=>none
 | none=>none
theorem rB {P:Program} {T:TypeId} {v:V} (h:zeroV P T=some v) (E:Env) (w:World):∃ z,(zeroValue T).run P w = .ok z w∧cT E v z:=by
 unfold zeroV at h;split at h;·rename_i i hi;split at h;(·rename_i z hz;cases h;exact⟨z,by simp [zeroValue,eR hi,hz],kn E z⟩);cases h
 cases h
def iQ (P:Program) (T:TypeId):Option (TypeId×TypeId):=match P.underlying T with|some (.map k e)=>some (k,e)|_=>none
theorem kE {P:Program} {T kt et:TypeId} (h:iQ P T=some (kt,et)):P.underlying T=some (.map kt et):=by
 unfold iQ at h;split at h;·rename_i hd;cases h;exact hd
 cases h
def WH (ok b:Bool) (v:V):V:=if ok=true then .dR [v,.sc (.bool b)] else v
theorem DC {E:Env} {v:V} {x:Value} (h:cT E v x) (ok b:Bool):cT E (WH ok b v) (if ok=true then .tuple #[x,.bool b] else x):=by
 unfold WH;split;·refine .dR _ _ _ rfl fun i c y hc hy=>?_;match i with|0=>simp at hc hy;subst hc;subst hy;exact h|1=>simp at hc hy;subst hc;subst hy;exact .sc _ _|i+2=>simp at hc
 exact h
def pf (P:Program) (mem:List bf) (kt et:TypeId) (m:V) (key:Value) (ok:Bool):Option V :=
 match m with
 | .mp b=>match mem[b]? with
  | some (.map dx _)=>match pe P kt key dx with
   | some (some (_,v))=>some (WH ok true v)
   | some none=>match zeroV P et with|some z=>some (WH ok false z)|none=>none
   | none=>none
  | _=>none
 | .sc (.map none)=>match pe P kt key [] with
  | some none=>match zeroV P et with|some z=>some (WH ok false z)|none=>none
  | _=>none
 | _=>none
def j0 (P:Program) (mem:List bf) (T:TypeId) (m i:V) (ok:Bool):Option V :=
 match iQ P T with
 | some (kt,et)=>match fa i with
  | some key=>if tS P kt key=true then pf P mem kt et m key ok else none
  | none=>none
 | none=>none
theorem um {E:Env} {b:Nat} {x:Value} (h:cT E (.mp b) x):∃ g e c,x = .map (some g)∧E.cn b 0=some (g,e,c):=by cases h with|mp _ _ l e c hb=>exact⟨l,e,c,rfl,hb⟩
theorem me {E:Env} {w:World} {a:Act} {st:St} (hs:c5 E w a st) {b:Nat} {dx:List (Value×Nat×V)} {clock:Nat} (hm:st.mem[b]?=some (.map dx clock)) {g e c:Nat} (hb:E.cn b 0=some (g,e,c)) :
  ∃ es,w.heap[g]?=some (.map es clock)∧fQ E dx es.toList∧(∀ o,E.F ⟨g,o,none⟩=none)∧(e,c)=(0,0):=by obtain⟨g',es,h1,h2,h3,h4⟩:=hs.mem b _ hm;rw [hb] at h1;cases h1;exact⟨es,h2,h3,h4,rfl⟩
theorem fi {P:Program} {w:World} {g:Nat} {es:Array MapEntry} {clock:Nat} (h:w.heap[g]?=some (.map es clock)):(getObj g).run P w = .ok (.map es clock) w:=by simp [getObj,Sem.run,h]
theorem iR {P:Program} {w:World} {g:Nat} {o o':Obj} (h:w.heap[g]?=some o) (hc:∀ a b c,o ≠ .cells a b c):(setObj g o').run P w = .ok () { w with heap:=w.heap.setIfInBounds g o' }:=by unfold setObj;rw [Sem.run,h];cases o <;> first|rfl|exact absurd rfl (hc _ _ _)
theorem s4 {E:Env} {v y:Value} (h:cT E (.sc v) y):y=v:=by cases h;rfl
theorem Ca {P:Program} {E:Env} {w:World} {a:Act} {st:St} (hs:c5 E w a st) {T:TypeId} {m i v:V} {ok:Bool} {x y:Value} (hm:cT E m x) (hi:cT E i y) (h:j0 P st.mem T m i ok=some v) :
  ∃ z,(Instr.lookup T x y ok).run P w = .ok z w∧cT E v z:=by
 unfold j0 at h;split at h;·rename_i kt et hd;have hd:=kE hd;split at h;(·rename_i key eS;cases jY hi eS;split at h;(·rename_i jH;have OM:=fun b=>oc jH b w;unfold pf at h;split at h;(·rename_i b;obtain⟨g,e,c,rfl,hb⟩:=um hm;split at h;(·rename_i dx clock hB;obtain⟨es,hh,hr,-⟩:=me hs hB hb;split at h;(·rename_i j u hf;obtain⟨r',h1,h2⟩:=gO hr w hf;match r',h2 with|some (j',z),h2 =>cases h;exact⟨_,by simp [Instr.lookup,aZ hd,fi hh,OM,h1],DC h2.2.1 ok true⟩);(·rename_i hf;obtain⟨r',h1,h2⟩:=gO hr w hf;match r',h2 with|none,h2 =>split at h;(·rename_i z hz;cases h;obtain⟨z',h3,h4⟩:=rB hz E w;exact⟨_,by simp [Instr.lookup,aZ hd,fi hh,OM,h1,h3],DC h4 ok false⟩);cases h);cases h);cases h);(·obtain rfl:=s4 hm;split at h;(·rename_i hf;obtain⟨r',h1,h2⟩:=gO (E:=E) (es := #[]) ⟨rfl,fun i k e h=>by simp at h⟩ w hf;match r',h2 with|none,h2 =>split at h;(·rename_i z hz;cases h;obtain⟨z',h3,h4⟩:=rB hz E w;exact⟨_,by simp at h1;simp [Instr.lookup,aZ hd,OM,h1,h3],DC h4 ok false⟩);cases h);cases h);cases h);cases h);cases h
 cases h
def wZ (mem:List bf) (ts:Array TypeId) (P:Program):List V→Option V
 | [.mp b]=>match mem[b]? with
  | some (.map dx _)=>match ts[0]? with
   | some T=>match iQ P T with|some _=>some (.sc (.int .i64 dx.length))|none=>none
   | none=>none
  | _=>none
 | _=>none
theorem Ir {P:Program} {E:Env} {w:World} {a:Act} {st:St} (hs:c5 E w a st) {ts:Array TypeId} {ty:TypeId} {xs:List V} {v:V} {ys:Array Value} (hx:cU E xs ys.toList) (h:wZ st.mem ts P xs=some v) :
  ∃ z,(Builtin.len_ ts ty ys).run P w = .ok z w∧cT E v z:=by
 unfold wZ at h;split at h;·rename_i b;split at h;(·rename_i dx clock hB;split at h;(·rename_i T h0;split at h;(·rename_i p hp;cases h;obtain⟨kt,et⟩:=p;have hd:=kE hp;obtain⟨x,r,hy,h1,h2⟩:=hx.of_cons;have:=h2.of_nil;subst this;(obtain rfl:ys = #[x]:=by rw [← cr (xs:=ys),hy]);obtain⟨g,e,c,rfl,hb⟩:=um h1;obtain⟨es,hh,hr,-⟩:=me hs hB hb;refine⟨.int .i64 es.size,by simp [Builtin.len_,h0,aZ hd,fi hh,goInt],?_⟩;(have:dx.length=es.size:=by simpa using hr.1);rw [this];exact .sc _ _);cases h);cases h);cases h
 cases h
def Mv (mem:List bf) (it:V):Option V :=
 match it with
 | .ptr b 0=>match mem[b]? with
  | some (.jg m _ seen last)=>match mem[m]? with
   | some (.map dx clock)=>if clock=last then (match seen.getLast? with
    | some Fw=>match dx.find? (fun e=>e.2.1==Fw) with
     | some e=>some (.dR [kf e.1,e.2.2])
     | none=>none
    | none=>none) else none
   | _=>none
  | _=>none
 | _=>none
theorem fQ.find {E:Env} (p:Nat→Bool):∀ {dx:List (Value×Nat×V)} {es:List MapEntry} {k:Value×Nat×V},fQ E dx es→dx.find? (fun e=>p e.2.1)=some k→∃ e,es.find? (fun e=>p e.born)=some e∧e.key=k.1∧cT E k.2.2 e.val
 | [],es,k,h,hf=>by simp at hf
 | c :: r,es,k,h,hf=>by
  obtain⟨e,es',rfl,h1,h2,h3,h4⟩:=h.of_cons
  rw [List.find?_cons] at hf ⊢
  rw [h2]
  split at hf
  ·rename_i hp;cases hf;exact⟨e,rfl,h1,h3⟩
  exact fQ.find p h4 hf
theorem Is {P:Program} {E:Env} {w:World} {a:Act} {st:St} (hs:c5 E w a st) {it v:V} {x:Value} (hi:cT E it x) (h:Mv st.mem it=some v):∃ z,(Instr.entry x).run P w = .ok z w∧cT E v z:=by
 unfold Mv at h;split at h;·rename_i b;split at h;(·rename_i m since seen last hB;split at h;(·rename_i dx clock hM;split at h;(·rename_i mf;split at h;(·rename_i Fw uo;split at h;(·rename_i e he;cases h;obtain⟨g,gm,em,cm,hb,TV,hh,hf⟩:=hs.mem b _ hB;obtain⟨es,hhm,hr,hfm,h0⟩:=me hs hM TV;cases hi with|ptr _ _ _ g' e' c' fR =>rw [hb] at fR;cases fR;(have kV:(getObj g).run P w = .ok (.mapIter (some gm) since seen.toArray last) w:=by simp [getObj,Sem.run,hh]);obtain⟨en,h1,h2,h3⟩:=fQ.find (fun n=>n==Fw) hr he;(have adY:seen.toArray.back?=some Fw:=by simpa using uo);(have Fx:es.find? (fun e=>e.born==Fw)=some en:=by rw [← List.find?_toArray,cr] at h1;exact h1);refine⟨.tuple #[en.key,en.val],?_,?_⟩;(·subst mf;simp only [Instr.entry,Sem.run_bind,kV,Result.andThen_ok,adY,fi hhm,bne_self_eq_false,bu,if_false,Fx];rfl);refine .dR _ _ _ rfl fun i c y hc hy=>?_;match i with|0=>simp at hc hy;subst hc;subst hy;rw [h2];exact kn E _|1=>simp at hc hy;subst hc;subst hy;exact h3|i+2=>simp at hc);cases h);cases h);cases h);cases h);cases h
 cases h
end Go.Eng
end
section
namespace Go.Eng
variable [ba]
theorem eT {E:Env} {v y:Value} (h:cT E (.sc v) y):y=v:=by cases h;rfl
theorem It {P:Program} {tt:Table} (ht:TT P tt) {E:Env} {w:World} {a:Act} {st:St} (hs:c5 E w a st) {T:TypeId} {x v:V} {lo hi:Option Operand} {y:Value} (hx:cT E x y)
  (h:DA P tt st.mem T x (lo.map st.eval) (hi.map st.eval)=some v):∃ z,(Instr.sliceAt T y (lo.map a.eval) (hi.map a.eval) none).run P w = .ok z w∧cT E v z:=by
 unfold DA at h;split at h;·cases lo with|none =>(cases hi with|none=>exact ry hx h|some hi=>exact mq (f:=fun a h=>Instr.sliceAt T a none (some h) none) hx (hs.eval hi) h)|some lo =>cases hi with|none=>exact mq (f:=fun a l=>Instr.sliceAt T a (some l) none none) hx (hs.eval lo) h|some hi =>simp only [b9] at h ⊢;split at h;(·rename_i hv hhv;rw [jY (hs.eval hi) hhv];exact mq (f:=fun a l=>Instr.sliceAt T a (some l) (some hv) none) hx (hs.eval lo) h);simp at h
 split at h;·simp at h
 rename_i e he;split at h;·simp at h
 rename_i size hz;cases lo with|none =>(cases hi with|none =>obtain⟨aa,len,cap,rfl,h0,h1,h2,h3,hr⟩:=oa hs hx h;exact⟨_,ob ht he hz w aa len cap none none 0 none (.inl ⟨rfl,rfl⟩) (.inl ⟨rfl,rfl⟩) h0 h1 h2 h3,hr⟩|some hi =>simp only [b9,atX] at h ⊢;split at h;(·rename_i n hn;obtain⟨k,hk⟩:=rz (hs.eval hi) hn;obtain⟨aa,len,cap,rfl,h0,h1,h2,h3,hr⟩:=oa hs hx h;exact⟨_,ob ht he hz w aa len cap none _ 0 (some n) (.inl ⟨rfl,rfl⟩) (.inr ⟨k,n,by rw [hk],rfl⟩) h0 h1 h2 h3,hr⟩);simp at h)|some lo =>simp only [b9] at h ⊢;split at h;(·simp at h);rename_i l hl;obtain⟨k,hk⟩:=rz (hs.eval lo) hl;cases hi with|none =>simp only [atX] at h ⊢;obtain⟨aa,len,cap,rfl,h0,h1,h2,h3,hr⟩:=oa hs hx h;exact⟨_,ob ht he hz w aa len cap _ none l none (.inr ⟨k,by rw [hk]⟩) (.inl ⟨rfl,rfl⟩) h0 h1 h2 h3,hr⟩|some hi =>simp only [b9] at h ⊢;split at h;(·rename_i n hn;obtain⟨k',lj⟩:=rz (hs.eval hi) hn;obtain⟨aa,len,cap,rfl,h0,h1,h2,h3,hr⟩:=oa hs hx h;exact⟨_,ob ht he hz w aa len cap _ _ l (some n) (.inr ⟨k,by rw [hk]⟩) (.inr ⟨k',n,by rw [lj],rfl⟩) h0 h1 h2 h3,hr⟩);simp at h
def oK:List V→Option (List Value)
 | []=>some []
 | v :: r=>match fa v with
  | some x=>match oK r with|some l=>some (x :: l)|none=>none
  | none=>none
theorem qc {E:Env}:∀ {vs:List V} {xs l:List Value},cU E vs xs→oK vs=some l→xs=l
 | [],xs,l,h,hl=>by simp [oK] at hl;subst hl;exact h.of_nil
 | v :: vs,xs,l,h,hl=>by
  obtain⟨x,ys,rfl,h1,h2⟩:=h.of_cons
  simp only [oK] at hl
  split at hl
  ·rename_i x' TS
   split at hl
   ·rename_i l' hl'
    simp only [aB] at hl;subst hl
    rw [jY h1 TS,qc h2 hl']
   simp at hl
  simp at hl
def ko (P:Program) (f:Array Value→Sem Value) (xs:List V):Option V :=
 match oK xs with
 | some l=>match dv P (f l.toArray) with|some v=>some (kf v)|none=>none
 | none=>none
theorem c5.pg {E:Env} {w:World} {a:Act} {st:St} (hs:c5 E w a st) (xs:Array Operand):cU E (xs.toList.map st.eval) (xs.map a.eval).toList:=by refine⟨by simp,fun i v x hv hx=>?_⟩;simp only [aq,Array.toList_map,aY] at hv hx;obtain⟨o,ho,rfl⟩:=hv;obtain⟨o',WI,rfl⟩:=hx;rw [ho] at WI;cases WI;exact hs.eval o
def DD (P:Program) (tt:Table) (ts:Array TypeId) (ty:TypeId):List V→Option V
 | [.slice rows]=>match ts[0]? with
  | some t=>match jz tt t with|some _=>some (.sc (.int .i64 rows.length))|none=>none
  | none=>none
 | [.ms _ _ _ l]=>match ts[0]? with
  | some t=>match jz tt t with|some _=>some (.sc (.int .i64 l))|none=>none
  | none=>none
 | xs=>ko P (Builtin.len_ ts ty) xs
def anN (tt:Table) (S:TypeId) (f:Nat) (T:TypeId) (x:V):Option V :=
 match x with
 | .agg cs=>match Ui tt S f with
  | some off=>jl tt T (cs.drop off)
  | none=>none
 | _=>none
def Mw (k:Int):Bool:=match ba.κ k with|some b=>b|none=>decide (k≤ba.n)
theorem DE (k:Int):Mw k=decide (k≤ba.n):=by
 unfold Mw;split;·rename_i b h;exact (ba.ok k b h).symm
 rfl
def KF (op:BinOp) (x y:V):Option V :=
 match y with
 | .gn=>match op,x with
  | .leq,.sc (.int .i64 k)=>some (.sc (.bool (Mw k)))
  | .gtr,.sc (.int .i64 k)=>some (.sc (.bool (!Mw k)))
  | _,_=>none
 | _=>none
theorem Fy {P:Program} {E:Env} {w:World} {op:BinOp} {T:TypeId} {x y v:V} {a b:Value} (xo yo:Operand) (hx:cT E x a) (hy:cT E y b) (h:KF op x y=some v) :
  ∃ z,(do eqGuard op T xo yo a b;binOp op T a b:Sem Value).run P w = .ok z w∧cT E v z:=by
 unfold KF at h;split at h;·cases hy;split at h;(·rename_i k;cases h;cases hx;refine⟨.bool (decide (k≤ba.n)),by simp [binOp,Op.intCmp,eqGuard],by rw [DE];exact .sc _ _⟩);(·rename_i k;cases h;cases hx;refine⟨.bool (decide (k>ba.n)),by simp [binOp,Op.intCmp,eqGuard],?_⟩;(have:(!Mw k)=decide (k>ba.n):=by rw [DE];by_cases h:k≤ba.n;(·rw [decide_eq_true h,decide_eq_false (by omega)];rfl);rw [decide_eq_false h,decide_eq_true (by omega)];rfl);rw [this];exact .sc _ _);cases h
 cases h
def w4 (P:Program) (op:BinOp) (T:TypeId) (y:V):Option V :=
 match y with
 | .sc (.pointer none)=>match P.underlying T with
  | some (.pointer _)=>match op with
   | .eql=>some (.sc (.bool false))
   | .neq=>some (.sc (.bool true))
   | _=>none
  | _=>none
 | _=>none
def DF (P:Program) (op:BinOp) (T:TypeId) (x y:V):Option V :=
 match x with
 | .eY _=>w4 P op T y
 | .ptr _ _=>w4 P op T y
 | .gJ _ _ _ _=>w4 P op T y
 | _=>none
theorem DG {P:Program} {E:Env} {w:World} {op:BinOp} {T:TypeId} {x y v:V} {a b:Value} (xo yo:Operand) (hx:cT E x a) (hy:cT E y b) (h:DF P op T x y=some v) :
  ∃ z,(do eqGuard op T xo yo a b;binOp op T a b:Sem Value).run P w = .ok z w∧cT E v z:=by
 have key:∀ ad:Addr,a = .pointer (some ad)→w4 P op T y=some v→∃ z,(do eqGuard op T xo yo a b;binOp op T a b:Sem Value).run P w = .ok z w∧cT E v z:=by rintro ad rfl h;unfold w4 at h;split at h;(·split at h;(·rename_i e hT;cases hy;(have he:(Op.equal T (.pointer (some ad)) (.pointer none)).run P w = .ok false w:=by show (Op.equalIn (9999+1) T _ _).run P w=_;unfold Op.equalIn;simp [aZ hT]);split at h;(·cases h;exact⟨.bool false,by simp [binOp,eqGuard,he],.sc _ _⟩);(·cases h;exact⟨.bool true,by simp [binOp,eqGuard,he],.sc _ _⟩);cases h);cases h);cases h
 unfold DF at h;split at h;·cases hx with|eY _ _ ad xf hF hR=>exact key ad rfl h
 ·cases hx with|ptr _ _ _ g e c hb=>exact key _ rfl h
 ·cases hx with|gJ _ _ _ _ _ g e c hb=>exact key _ rfl h
 cases h
def mr:List V→Option (List Int)
 | []=>some []
 | .sc (.int .u8 n) :: r=>match mr r with|some l=>some (n :: l)|none=>none
 | _=>none
def rC (P:Program) (s d:TypeId) (rows:List V):Option V :=
 match P.underlying s with
 | some (.slice e)=>match P.underlying e with
  | some (.int .u8)=>match P.underlying d with
   | some .string=>match mr rows with|some ns=>some (.sc (.string (strOfNums ns)))|none=>none
   | _=>none
  | _=>none
 | _=>none
def zR (P:Program) (mem:List bf) (s d:TypeId):V→Option V
 | .slice rows=>rC P s d rows
 | .ms b v o l=>match mem[b]? with
  | some (.rows v' e rs)=>if v'=v∧e=1∧o+l≤rs.length then rC P s d ((rs.drop o).take l) else none
  | some (.rv v' e rs)=>if v'=v∧e=1∧o+l≤rs.length then rC P s d ((rs.drop o).take l) else none
  | _=>none
 | x=>tQ P (convert s d) x
theorem Pf (P:Program) (mem:List bf) (s d:TypeId) (x:Value):zR P mem s d (.sc x)=tQ P (convert s d) (.sc x):=rfl
theorem qN:∀ {rows:List V} {ns:List Int},mr rows=some ns→ns.length=rows.length
 | [],ns,h=>by simp [mr] at h;subst h;rfl
 | r :: rs,ns,h=>by
  unfold mr at h
  split at h
  ·rename_i heq;exact absurd heq (by simp)
  ·rename_i n l heq
   cases heq
   split at h
   ·rename_i l' hl
    cases h
    simp [qN hl]
   cases h
  cases h
theorem ng:∀ {rows:List V} {ns:List Int},mr rows=some ns→∀ (i:Nat) (r:V),rows[i]?=some r→r = .sc (.int .u8 (ns.getD i 0))
 | [],ns,h,i,r,hr=>by simp at hr
 | r0 :: rs,ns,h,i,r,hr=>by
  unfold mr at h
  split at h
  ·rename_i heq;exact absurd heq (by simp)
  ·rename_i n l heq
   cases heq
   split at h
   ·rename_i l' hl
    cases h
    cases i with
    | zero=>simp at hr;subst hr;rfl
    | succ i=>exact ng hl i r (by simpa using hr)
   cases h
  cases h
theorem qd {P:Program} {w:World} {E:Env} {s d:TypeId} {rows:List V} {v:V} {aa:Option Addr} {cap:Nat} (h:rC P s d rows=some v) (hn:rows≠[]→∃ g o,aa=some ⟨g,o,none⟩∧∀ (i:Nat) (r:V),rows[i]?=some r→∃ x,w.cell? ⟨g,o+i,none⟩=some x∧cT E r x) :
  ∃ y,(convert s d (.slice aa rows.length cap)).run P w = .ok y w∧cT E v y:=by
 unfold rC at h;split at h;·rename_i e hs;split at h;(·rename_i he;split at h;(·rename_i hd;split at h;(·rename_i ns hb;cases h;refine⟨_,?_,.sc _ _⟩;have hl:=qN hb;cases rows with|nil =>(have:ns=[]:=cb.1 hl;subst this;rw [run_convert_bytes_string w s d e aa _ cap hs he hd];cases aa with|none=>simp [Conv.bytesToString];rfl|some a0 =>have:=run_bytesToString (P:=P) w a0 0 cap [] (by simp [loadCells,loadCellsFrom]);have e0:strOfNums []=ByteArray.empty:=rfl;rw [e0];simpa using this)|cons r0 rr =>obtain⟨g,o,rfl,hc⟩:=hn (by simp);refine run_convert_bytes_arg w s e hs he g o _ cap ns hl (fun i hi=>?_) d hd;obtain⟨x,hx,hr⟩:=hc i _ (au hi);rw [hx,ng hb i _ (au hi)] at *;rw [eT hr]);cases h);cases h);cases h
 cases h
theorem xX {P:Program} {s d:TypeId} {rows:List V} {v:V} (h:rC P s d rows=some v):∃ ns,mr rows=some ns:=by
 unfold rC at h;split at h;·split at h;(·split at h;(·split at h;(·rename_i ns hb;exact⟨ns,hb⟩);cases h);cases h);cases h
 cases h
theorem Mx {w:World} {ad:Addr} {x:Value} (h:w.cell? ad=some x):ad.spot=none:=by
 unfold World.cell? at h;split at h;·split at h;(·simp at h);rename_i h1;cases hs:ad.spot with|none=>rfl|some s=>simp [hs] at h1
 simp at h
theorem Fz {P:Program} {E:Env} {w:World} {a:Act} {st:St} (hs:c5 E w a st) {s d:TypeId} {x v:V} {y:Value} (hx:cT E x y) (h:zR P st.mem s d x=some v):∃ z,(convert s d y).run P w = .ok z w∧cT E v z:=by
 have ms:∀ (b v' o l e:Nat) (rs:List V),cT E (.ms b v' o l) y→e=1→o+l≤rs.length→(∀ g e' c,E.cn b v'=some (g,e',c)→e'=e∧lY E.pure e rs (fun k=>w.cell? ⟨g,k,none⟩)) →
   rC P s d ((rs.drop o).take l)=some v→∃ z,(convert s d y).run P w = .ok z w∧cT E v z:=by
  intro b v' o l e rs hr he hl mu hb
  obtain⟨ns,hns⟩:=xX hb
  have hlen:((rs.drop o).take l).length=l:=by simp;omega
  cases hr with
  | iv =>
   have h0:(rs.drop o).take 0=[]:=xV
   rw [h0] at hb
   exact qd (aa:=none) (cap:=0) (w:=w) (E:=E) hb (fun dy=>absurd rfl dy)
  | ms _ _ _ _ _ g e' c aa cap fg uq TU u0 =>
   have fR:=hb
   rw [← hlen]
   refine qd hb fun dy=>?_
   have BU:0<l:=by
    rcases atC l with h0|h0
    ·subst h0;exact absurd xV dy
    exact h0
   obtain⟨YE,YF⟩:=mu g e' c fg
   subst he
   subst YE
   refine⟨g,o*1,uq BU,fun i r hi=>?_⟩
   have hi':rs[o+i]?=some r:=by
    rw [jV] at hi
    split at hi
    ·simpa using hi
    simp at hi
   obtain⟨-,h2⟩:=YF _ r hi'
   have Cb:=ng hns i r hi
   obtain⟨x,hx,-,Pg⟩:=h2 0 r (by rw [Cb];rfl)
   refine⟨x,?_,Pg.mono (Env.sY E)⟩
   have:(o+i)*1+0=o*1+i:=by omega
   rw [← this];exact hx
 unfold zR at h;split at h;·rename_i rows;obtain⟨ns,hns⟩:=xX h;cases hx with|slice _ _ aa cap uj ad xf ha lR hz hF qa hR =>refine qd h fun dy=>?_;(have key:∀ (i:Nat) (r:V),rows[i]?=some r→∃ x,w.cell? (ad.add i)=some x∧cT E r x:=fun i r hi=>by have Cb:=ng hns i r hi;(have hc:r.cells=[r]:=by rw [Cb];rfl);(have he:uj=1:=by rw [← hz i r hi,hc];rfl);have h1:=hF i r 0 r hi (by rw [hc];rfl);have h2:=hR i r 0 r hi (by rw [hc];rfl);rw [he,rq,jW] at h1;exact⟨_,hs.F _ _ h1,h2.mono (Env.sY E)⟩);(obtain⟨r0,h0⟩:∃ r0,rows[0]?=some r0:=by cases rows with|nil=>exact absurd rfl dy|cons r0 rr=>exact⟨r0,rfl⟩);obtain⟨x0,KG,-⟩:=key 0 r0 h0;(have adZ:ad.add 0=ad:=by simp [Addr.add]);have H9:=Mx KG;rw [adZ] at H9;obtain⟨g,o,sp⟩:=ad;obtain rfl:sp=none:=H9;refine⟨g,o,ha dy,fun i r hi=>?_⟩;obtain⟨x,hx,hr⟩:=key i r hi;exact⟨x,by rw [← hx];congr 1;unfold Addr.add;by_cases h0:i=0 <;> simp [h0],hr⟩
 ·rename_i b v' o l;split at h;(·rename_i v1 e rs hm;split at h;(·rename_i hc;obtain⟨rfl,rfl,hl⟩:=hc;refine ms b v1 o l 1 rs hx rfl hl (fun g e' c fg=>?_) h;(rcases hs.mem b _ hm with ⟨ajW,hn⟩|⟨g',T,xs,c',fR,hh,-,-,mu,-⟩);(·rw [hn] at fg;cases fg);rw [fR] at fg;cases fg;refine⟨rfl,fun i row hi=>?_⟩;obtain⟨h1,h2⟩:=mu i row hi;refine⟨h1,fun j cc hj=>?_⟩;obtain⟨x,hx,h3⟩:=h2 j cc hj;exact⟨x,(nd hh _).trans hx,h3⟩);cases h);(·rename_i v1 e rs hm;split at h;(·rename_i hc;obtain⟨rfl,rfl,hl⟩:=hc;refine ms b v1 o l 1 rs hx rfl hl (fun g e' c fg=>?_) h;(rcases hs.mem b _ hm with ⟨ajW,hn⟩|⟨g',c',fR,-,mu⟩);(·rw [hn] at fg;cases fg);rw [fR] at fg;cases fg;refine⟨rfl,fun i row hi=>?_⟩;obtain⟨h1,h2⟩:=mu i row hi;refine⟨h1,fun j cc hj=>?_⟩;obtain⟨x,hx,h3⟩:=h2 j cc hj;exact⟨x,hs.F _ _ hx,h3⟩);cases h);cases h
 exact ry hx h
def s7 (op:BinOp) (T:TypeId) (x y:Operand):Value→Value→Sem Value:=fun u v=>do eqGuard op T x y u v;binOp op T u v
def zS (P:Program) (tt:Table) (T:TypeId) (x i:V):Option V :=
 match x with
 | .ptr b o=>match i with
  | .sc (.int _ n)=>match P.underlying T with
   | some (.array len e)=>match n8 tt e with
    | some size=>if 0≤n∧n<len then some (.ptr b (o+n.toNat*size)) else none
    | none=>none
   | _=>none
  | _=>none
 | _=>none
theorem FA {P:Program} {tt:Table} (ht:TT P tt) {E:Env} {T:TypeId} {p i v:V} {x y:Value} (hp:cT E p x) (hi:cT E i y) (h:zS P tt T p i=some v) (w:World) :
  ∃ z,(Instr.indexAt T x y).run P w = .ok z w∧cT E v z:=by
 unfold zS n8 at h;split at h;·rename_i b o;split at h;(·rename_i k n;split at h;(·rename_i len e hd;cases hE:tt e with|none=>rw [hE] at h;simp at h|some ie =>rw [hE] at h;simp only at h;split at h;(·rename_i h0;cases h;cases hi with|sc =>cases hp with|ptr _ _ _ g e' c hb =>refine⟨.pointer (some ⟨g,o+n.toNat*ie.size,none⟩),?_,.ptr _ _ _ g e' c hb⟩;simp [Instr.indexAt,asIntOf,aZ hd,Instr.sureAddr,ht.sizeOf hE,h0,add_lit]);cases h);cases h);cases h
 cases h
def WJ (rows:List V):Bool→V
 | true=>.full rows
 | false=>.slice rows
def KH (tt:Table) (T:TypeId) (x h m:V):Option V :=
 match x with
 | .slice rows=>match Fu h with
  | some a=>match Fu m with
   | some b=>match jz tt T with
    | some e=>match n8 tt e with
     | some _=>if 0≤a∧a≤b∧b≤rows.length then some (WJ (rows.take a.toNat) (decide (a=b))) else none
     | none=>none
    | none=>none
   | none=>none
  | none=>none
 | _=>none
theorem FD {P:Program} {tt:Table} (ht:TT P tt) {E:Env} {T:TypeId} {x h m v:V} {y z u:Value} (hx:cT E x y) (hh:cT E h z) (hm:cT E m u) (hc:KH tt T x h m=some v) (w:World) :
  ∃ q,(Instr.sliceAt T y none (some z) (some u)).run P w = .ok q w∧cT E v q:=by
 unfold KH at hc;split at hc;·rename_i rows;split at hc;(·rename_i a ha;split at hc;(·rename_i b hb;obtain⟨k1,rfl⟩:=rz hh ha;obtain⟨k2,rfl⟩:=rz hm hb;unfold jz n8 at hc;cases hT:tt T with|none=>rw [hT] at hc;simp at hc|some iT =>rw [hT] at hc;simp only at hc;cases he:iT.elem with|none=>rw [he] at hc;simp at hc|some e =>rw [he] at hc;simp only at hc;cases hE:tt e with|none=>rw [hE] at hc;simp at hc|some ie =>rw [hE] at hc;simp only at hc;obtain⟨d,hd,-,uZ,-⟩:=ht.desc T iT hT;obtain rfl:=uZ e he;split at hc;(·rename_i ur;obtain⟨h0,h1,h2⟩:=ur;cases hc;cases hx with|slice _ _ aa cap uj ad xf haa lR hz hF qa hR =>(have hlen:(rows.take a.toNat).length=a.toNat:=by rw [lg];omega);(have eQ:(Instr.sliceAt T (.slice aa rows.length cap) none (some (.int k1 a)) (some (.int k2 b))).run P w = .ok (.slice aa a.toNat b.toNat) w:=by simp only [Instr.sliceAt,Instr.slice,Sem.run_bind,aZ hd,Result.andThen_ok,Instr.sliceBounds,Instr.sliceBound,asIntOf,Sem.run_pure,ht.sizeOf hE,Option.isSome_some];rw [if_pos ⟨by omega,by omega⟩];simp only [Sem.run_pure,Result.andThen_ok];rw [if_pos ⟨by omega,by omega⟩];simp [Addr.add]);refine⟨_,eQ,?_⟩;(have hg:∀ (i:Nat) (row:V),(rows.take a.toNat)[i]?=some row→rows[i]?=some row:=fun i row hi=>by rw [jV] at hi;split at hi;(·exact hi);cases hi);have:=cT.slice E (rows.take a.toNat) aa b.toNat uj ad xf (fun dy=>haa fun h=>dy (by rw [h,atS])) (by omega) (fun i row hi=>hz _ _ (hg i row hi)) (fun i row j c hi hj=>hF _ _ _ _ (hg i row hi) hj) (fun i row j c hi hj=>qa _ _ _ _ (hg i row hi) hj) fun i row j c hi hj=>hR _ _ _ _ (hg i row hi) hj;rw [hlen] at this;by_cases Uj:a=b;(·rw [decide_eq_true Uj];(have mY:b.toNat=(rows.take a.toNat).length:=by rw [hlen,Uj]);(have h4:(Value.slice aa a.toNat b.toNat) = .slice aa (rows.take a.toNat).length (rows.take a.toNat).length:=by rw [← mY,← Uj]);rw [h4];exact .full _ _ _ (by rw [← h4];exact this));rw [decide_eq_false Uj];exact this);cases hc);cases hc);cases hc
 cases hc
def DH (P:Program) (tt:Table) (S:TypeId) (f:Nat) (x:V):Option V :=
 match x with
 | .agg cs=>match P.underlying S with
  | some (.struct fs)=>match fs[f]? with
   | some fd=>jl tt fd.type (cs.drop fd.offset)
   | none=>none
  | _=>none
 | _=>none
theorem Cc {P:Program} {tt:Table} (ht:TT P tt) {E:Env} {S:TypeId} {f:Nat} {x v:V} {y:Value} (hx:cT E x y) (h:DH P tt S f x=some v) (w:World):∃ z,(Instr.field S y f).run P w = .ok z w∧cT E v z:=by
 unfold DH at h;split at h;·rename_i cs;split at h;(·rename_i fs hu;split at h;(·rename_i fd hf;cases hx with|agg _ _ xs hl hr =>simp only [Instr.field,Sem.run_bind,aZ hu,Result.andThen_ok,hf];unfold jl at h;cases hi:tt fd.type with|none=>rw [hi] at h;simp at h|some i =>rw [hi] at h;simp only at h;cases ha:i.agg with|false =>simp only [ha,bu,if_false] at h;(have h0:cs[fd.offset]?=some v:=by simpa [auT] using h);(have bQ:fd.offset<xs.size:=by rw [← hl];exact (aA.1 h0).1);refine⟨xs[fd.offset],?_,hr _ _ _ h0 (bP bQ)⟩;simp [part,asAgg,ht.isAgg hi,ha,bP bQ]|true =>simp only [ha,if_true] at h;split at h;(·rename_i hle;simp only [aB] at h;subst h;rw [e8] at hle;refine⟨.agg (xs.extract fd.offset (fd.offset+i.size)),?_,.agg _ _ _ (by simp;omega) fun j c z hc hz=>?_⟩;(·simp [part,asAgg,ht.isAgg hi,ha,ht.sizeOf hi]);(have hj:j<i.size:=by by_cases hj:j<i.size;(·exact hj);rw [jV] at hc;simp [hj] at hc);rw [jf hj,auG] at hc;refine hr (fd.offset+j) c z hc ?_;rw [Array.getElem?_extract] at hz;split at hz;(·exact hz);cases hz);cases h);cases h);cases h
 cases h
def iq (P:Program) (tt:Table) (st:St) (o:Oper):Option V :=
 match o.op with
 | .move x=>some (st.eval x)
 | .assign x=>some (st.eval x)
 | .pick c a b=>match st.eval c with|.sc (.bool t)=>some (if t=true then st.eval a else st.eval b)|_=>none
 | .load T x=>pd tt st.mem T (st.eval x)
 | .nilCheck x=>YC (st.eval x)
 | .binOp op T x y _=>match KF op (st.eval x) (st.eval y) with
  | some v=>some v
  | none=>match DF P op T (st.eval x) (st.eval y) with
   | some v=>some v
   | none=>dE P (s7 op T x y) (st.eval x) (st.eval y)
 | .unOp op _ x=>tQ P (Op.unary op) (st.eval x)
 | .convert s d x=>zR P st.mem s d (st.eval x)
 | .makeFunc fn first cap=>some (.ia fn (first.toList.map st.eval) (cap.toList.map st.eval))
 | .slice T x lo hi none=>DA P tt st.mem T (st.eval x) (lo.map st.eval) (hi.map st.eval)
 | .fieldAddr S x f=>Dx tt S f (st.eval x)
 | .field S x f=>DH P tt S f (st.eval x)
 | .slice T x none (some h) (some m)=>KH tt T (st.eval x) (st.eval h) (st.eval m)
 | .indexAddr T x i=>match nD tt st.mem T (st.eval x) (st.eval i) with
  | some v=>some v
  | none=>zS P tt T (st.eval x) (st.eval i)
 | .index T x i=>dE P (Instr.index T) (st.eval x) (st.eval i)
 | .extract t i=>match st.eval t with|.dR vs=>vs[i]?|_=>none
 | .lookup T x i ok=>j0 P st.mem T (st.eval x) (st.eval i) ok
 | .entry it=>Mv st.mem (st.eval it)
 | .call { callee:=.builtin .len,args:=xs,argTypes:=ts }=>match wZ st.mem ts P (xs.toList.map st.eval) with
  | some v=>some v
  | none=>DD P tt ts o.type (xs.toList.map st.eval)
 | .call { callee:=.builtin .max,args:=xs,argTypes:=ts }=>ko P (Builtin.max_ ts o.type) (xs.toList.map st.eval)
 | .call { callee:=.builtin .min,args:=xs,argTypes:=ts }=>ko P (Builtin.min_ ts o.type) (xs.toList.map st.eval)
 | _=>none
theorem rD {P:Program} {f:Array Value→Sem Value} {E:Env} {w:World} {xs:List V} {v:V} {ys:Array Value} (hx:cU E xs ys.toList) (h:ko P f xs=some v):∃ z,(f ys).run P w = .ok z w∧cT E v z:=by
 unfold ko at h;split at h;·rename_i l hl;have:=qc hx hl;split at h;(·rename_i z hz;simp only [aB] at h;subst h;subst this;exact⟨z,fY _ (by simpa using hz) w,kn E z⟩);simp at h
 simp at h
theorem DI {P:Program} {tt:Table} (ht:TT P tt) {ts:Array TypeId} {ty t e:TypeId} (h0:ts[0]?=some t) (he:jz tt t=some e) (w:World) (aa:Option Addr) (len cap:Nat) :
  (Builtin.len_ ts ty #[.slice aa len cap]).run P w = .ok (.int .i64 len) w:=by unfold jz at he;cases hT:tt t with|none=>rw [hT] at he;simp at he|some iT =>rw [hT] at he;simp only at he;obtain⟨d,hd,-,uZ,-⟩:=ht.desc t iT hT;obtain rfl:=uZ e he;simp [Builtin.len_,h0,aZ hd,goInt]
theorem Iu {P:Program} {tt:Table} (ht:TT P tt) {E:Env} {w:World} {ts:Array TypeId} {ty:TypeId} {xs:List V} {v:V} {ys:Array Value} (hx:cU E xs ys.toList) (h:DD P tt ts ty xs=some v) :
  ∃ z,(Builtin.len_ ts ty ys).run P w = .ok z w∧cT E v z:=by
 unfold DD at h;split at h;·split at h;(·rename_i t h0;split at h;(·rename_i e he;simp only [aB] at h;subst h;obtain⟨x,r,hy,h1,h2⟩:=hx.of_cons;have:=h2.of_nil;subst this;(obtain rfl:ys = #[x]:=by rw [← cr (xs:=ys),hy]);cases h1 with|slice _ _ aa cap uj ad xf ha lR hz hF qa hR=>exact⟨_,DI ht h0 he w aa _ cap,.sc _ _⟩);simp at h);simp at h
 ·split at h;(·rename_i t h0;split at h;(·rename_i e he;simp only [aB] at h;subst h;obtain⟨x,r,hy,h1,h2⟩:=hx.of_cons;have:=h2.of_nil;subst this;(obtain rfl:ys = #[x]:=by rw [← cr (xs:=ys),hy]);cases h1 with|iv=>exact⟨_,DI ht h0 he w none _ 0,.sc _ _⟩|ms _ _ _ _ _ g e' c aa cap hb hl TU u0=>exact⟨_,DI ht h0 he w aa _ cap,.sc _ _⟩);simp at h);simp at h
 exact rD hx h
theorem dp {P:Program} {s:Sem Value} {w:World} {x:Value} (h:s.run P w = .ok x w):(do pure (Next.value (← s)):Sem Next).run P w = .ok (.value x) w:=by simp [h]
theorem s8 {P:Program} {tt:Table} (ht:TT P tt) {E:Env} {w:World} {a:Act} {st:St} (hs:c5 E w a st) {o:Oper} {v:V} (h:iq P tt st o=some v) :
  ∃ x,(execOp a.eval o).run P w = .ok (.value x) w∧cT E v x:=by
 obtain⟨dst,op,type,pos,after,guard⟩:=o;unfold iq at h;dsimp only at h;split at h;·simp only [aB] at h;subst h;exact⟨_,rfl,hs.eval _⟩
 ·simp only [aB] at h;subst h;exact⟨_,rfl,hs.eval _⟩
 ·rename_i c x y;split at h;(·rename_i t hc;simp only [aB] at h;subst h;have:=hs.eval c;rw [hc] at this;refine⟨if t=true then a.eval x else a.eval y,?_,?_⟩;(·simp [execOp,eT this,asBool]);cases t <;> exact hs.eval _);simp at h
 ·obtain⟨y,h1,h2⟩:=xW ht hs (hs.eval _) h;exact⟨y,dp h1,h2⟩
 ·rename_i x;have hx:=hs.eval x;generalize hy:a.eval x=y at hx;(have eQ:∀ z,(∀ m f c,z ≠ .func (.method m) f c)→z ≠ .pointer none→z ≠ .nilIface→z ≠ .nilFunc→a.eval x=z→(execOp a.eval { dst,op:=.nilCheck x,type,pos,after,guard }).run P w = .ok (.value z) w:=by intro z h1 h2 h3 h4 he;simp only [execOp,he];rfl);unfold YC at h;split at h <;> simp only [aB,reduceCtorEq] at h <;> subst h <;> rename_i hv <;> rw [hv] at hx;(·cases hx with|ptr _ _ _ g e c hb=>exact⟨_,eQ _ (by simp) (by simp) (by simp) (by simp) hy,.ptr _ _ _ g e c hb⟩);(·cases hx with|gJ _ _ _ _ _ g e c hb=>exact⟨_,eQ _ (by simp) (by simp) (by simp) (by simp) hy,.gJ _ _ _ _ _ g e c hb⟩);(·cases hx with|eY _ _ ad xf hF hr=>exact⟨_,eQ _ (by simp) (by simp) (by simp) (by simp) hy,.eY _ _ _ xf hF hr⟩);(·cases hx with|ia _ f first cap xs ys h1 h2 h3 h4=>exact⟨_,eQ _ (by simp) (by simp) (by simp) (by simp) hy,.ia _ _ _ _ _ _ h1 h2 h3 h4⟩);have:=eT hx;subst this;exact⟨_,eQ _ (by simp) (by simp) (by simp) (by simp) hy,.sc _ _⟩
 ·rename_i op T x y _;split at h;(·rename_i hg;cases h;obtain⟨z,h1,h2⟩:=Fy (P:=P) (w:=w) (T:=T) x y (hs.eval x) (hs.eval y) hg;exact⟨z,dp h1,h2⟩);split at h;(·rename_i hg;cases h;obtain⟨z,h1,h2⟩:=DG (P:=P) (w:=w) (T:=T) x y (hs.eval x) (hs.eval y) hg;exact⟨z,dp h1,h2⟩);obtain⟨z,h1,h2⟩:=mq (w:=w) (hs.eval x) (hs.eval y) h;exact⟨z,dp h1,h2⟩
 ·obtain⟨z,h1,h2⟩:=ry (w:=w) (hs.eval _) h;exact⟨z,dp h1,h2⟩
 ·obtain⟨z,h1,h2⟩:=Fz (w:=w) hs (hs.eval _) h;exact⟨z,dp h1,h2⟩
 ·(rename_i fn first cap);simp only [aB] at h;subst h;(have h1:=hs.pg first);have h2:=hs.pg cap;exact⟨_,dp rfl,.ia _ _ _ _ _ _ (by simp) (by simp) (fun i c x hc hx=>h1.2 i c x hc (by simpa using hx)) fun i c x hc hx=>h2.2 i c x hc (by simpa using hx)⟩
 ·obtain⟨z,h1,h2⟩:=It ht hs (hs.eval _) h;exact⟨z,dp h1,h2⟩
 ·obtain⟨z,h1,h2⟩:=Dy ht (hs.eval _) h w;exact⟨z,dp h1,h2⟩
 ·obtain⟨z,h1,h2⟩:=Cc ht (hs.eval _) h w;exact⟨z,dp h1,h2⟩
 ·obtain⟨z,h1,h2⟩:=FD ht (hs.eval _) (hs.eval _) (hs.eval _) h w;exact⟨z,dp h1,h2⟩
 ·split at h;(·rename_i hv;cases h;obtain⟨z,h1,h2⟩:=Dz ht hs (hs.eval _) (hs.eval _) hv;exact⟨z,dp h1,h2⟩);obtain⟨z,h1,h2⟩:=FA ht (hs.eval _) (hs.eval _) h w;exact⟨z,dp h1,h2⟩
 ·obtain⟨z,h1,h2⟩:=mq (w:=w) (hs.eval _) (hs.eval _) h;exact⟨z,dp h1,h2⟩
 ·rename_i t i;split at h;(·rename_i vs hv;have:=hs.eval t;rw [hv] at this;generalize hy:a.eval t=y at this;cases this with|dR _ _ xs hl hr =>(have hi:i<xs.size:=by rw [← hl];exact (aA.1 h).1);exact⟨xs[i],dp (by simp [hy,Instr.extract,bP hi]),hr i v _ h (bP hi)⟩);simp at h
 ·obtain⟨z,h1,h2⟩:=Ca hs (hs.eval _) (hs.eval _) h;exact⟨z,dp h1,h2⟩
 ·obtain⟨z,h1,h2⟩:=Is hs (hs.eval _) h;exact⟨z,dp h1,h2⟩
 ·split at h;(·rename_i hl;cases h;obtain⟨z,h1,h2⟩:=Ir hs (hs.pg _) hl;exact⟨z,dp h1,h2⟩);obtain⟨z,h1,h2⟩:=Iu ht (w:=w) (hs.pg _) h;exact⟨z,dp h1,h2⟩
 ·obtain⟨z,h1,h2⟩:=rD (w:=w) (hs.pg _) h;exact⟨z,dp h1,h2⟩
 ·obtain⟨z,h1,h2⟩:=rD (w:=w) (hs.pg _) h;exact⟨z,dp h1,h2⟩
 simp at h
end Go.Eng
end
section
namespace Go.Eng
variable [ba]
open Go.RowKit (Below)
def da (mem:List bf) (key:Nat) (B:bf):List bf:=if key<mem.length then mem.set key B else mem++[B]
def ir (mem:List bf) (key:Nat):Prop:=mem[key]?=some .hole∨key=mem.length
def Env.with (E:Env) (key dI:Nat) (t:Nat×Nat×Nat):Env := { F:=E.F,cn:=fun k v=>if k=key∧v=dI then some t else E.cn k v,gl:=E.gl }
theorem qe {mem:List bf} {key:Nat} (h:key≤mem.length) (B:bf) (k:Nat):(da mem key B)[k]?=if k=key then some B else mem[k]?:=by
 unfold da;split;·rename_i bQ;rw [bR];by_cases hk:key=k;(·subst hk;simp [bQ]);rw [if_neg hk,if_neg (fun e=>hk e.symm)]
 rename_i jL;have eS:key=mem.length:=by omega
 by_cases hk:k=key;·subst hk;rw [if_pos rfl,eS];simp
 rw [if_neg hk,n6];split;·rfl
 rw [cH (by simp;omega),cH (by omega)]
theorem tT {mem:List bf} {key:Nat} (h:key≤mem.length) (B:bf):mem.length≤(da mem key B).length∧key<(da mem key B).length:=by unfold da;split <;> simp <;> omega
theorem ir.le {mem:List bf} {key:Nat} (h:ir mem key):key≤mem.length:=by
 rcases h with h|h
 ·exact Nat.le_of_lt (aA.1 h).1
 omega
theorem c5.free {E:Env} {w:World} {a:Act} {st:St} (hs:c5 E w a st) {key:Nat} (h:ir st.mem key):∀ v,E.cn key v=none:=by
 rcases h with h|h
 ·exact hs.mem _ _ h
 exact hs.top _ (by omega)
theorem Env.mg {E:Env} {key dI:Nat} (h:E.cn key dI=none) (t:Nat×Nat×Nat):E.le (E.with key dI t) :=
 ⟨fun _ _ h=>h,fun b v u hb=>by
  show (if b=key∧v=dI then some t else E.cn b v)=some u
  rw [if_neg (fun e=>by rw [e.1,e.2,h] at hb;cases hb)];exact hb⟩
theorem kc.mono {E E':Env} {w w':World} {k:Nat} {B:bf} (h:kc E w k B) (hle:E.le E') (KI:∀ v,E.cn k v=none→E'.cn k v=none)
  (u5:∀ g e c,E.cn k B.dI=some (g,e,c)→w'.heap[g]?=w.heap[g]?) (hF:∀ g e c o,E.cn k B.dI=some (g,e,c)→E.F ⟨g,o,none⟩=none→E'.F ⟨g,o,none⟩=none):kc E' w' k B:=by
 have mu:∀ {e rs} {f f':Nat→Option Value},(∀ o x,f o=some x→f' o=some x)→lY E.pure e rs f→lY E'.pure e rs f':=fun hf hr i row hi=>by obtain⟨h1,h2⟩:=hr i row hi;exact⟨h1,fun j c hj=>let ⟨x,hx,h1,hr⟩:=h2 j c hj;⟨x,hf _ _ hx,h1,hr.mono (Env.kC hle)⟩⟩
 cases B with|hole=>exact fun v=>KI v (h v)|dead=>trivial|box cs =>obtain⟨g,T,xs,hb,hh,hr,hf⟩:=h;exact⟨g,T,xs,hle.cn _ _ _ hb,(u5 _ _ _ hb).trans hh,hr.mono hle,fun o=>hF _ _ _ o hb (hf o)⟩|rows v e rs =>((rcases h with ⟨h1,h2⟩|⟨g,T,xs,c,hb,hh,iw,hl,hr,hf⟩);(·exact .inl ⟨h1,KI _ h2⟩);exact .inr ⟨g,T,xs,c,hle.cn _ _ _ hb,(u5 _ _ _ hb).trans hh,iw,hl,mu (fun _ _ h=>h) hr,fun o=>hF _ _ _ o hb (hf o)⟩)|loop s nc fr params assign body =>obtain⟨l,fn,tmps,db,hb,hh,hr,hf⟩:=h;exact⟨l,fn,tmps,db,hle.cn _ _ _ hb,(u5 _ _ _ hb).trans hh,hr.mono hle,fun o=>hF _ _ _ o hb (hf o)⟩|map dx clock =>obtain⟨g,es,hb,hh,hr,hf⟩:=h;exact⟨g,es,hle.cn _ _ _ hb,(u5 _ _ _ hb).trans hh,hr.mono hle,fun o=>hF _ _ _ o hb (hf o)⟩|jg m since seen last =>obtain⟨g,gm,e,c,hb,hm,hh,hf⟩:=h;exact⟨g,gm,e,c,hle.cn _ _ _ hb,hle.cn _ _ _ hm,(u5 _ _ _ hb).trans hh,fun o=>hF _ _ _ o hb (hf o)⟩|nk T kb v l =>obtain⟨g,T',p,s,hb,hh,hp,hr,hf⟩:=h;exact⟨g,T',p,s,hle.cn _ _ _ hb,(u5 _ _ _ hb).trans hh,hp,hr.mono hle,fun o=>hF _ _ _ o hb (hf o)⟩|n7 T v O =>((rcases h with ⟨h1,h2⟩|⟨g,cur,c,hb,hh,h3,h4,h5,hf⟩);(·exact .inl ⟨h1,KI _ h2⟩);exact .inr ⟨g,cur,c,hle.cn _ _ _ hb,(u5 _ _ _ hb).trans hh,h3,h4,h5,fun o=>hF _ _ _ o hb (hf o)⟩)|mX s pos =>obtain⟨g,hb,hh,hf⟩:=h;exact⟨g,hle.cn _ _ _ hb,(u5 _ _ _ hb).trans hh,fun o=>hF _ _ _ o hb (hf o)⟩|nC =>obtain⟨g,hb,hh,hf⟩:=h;exact⟨g,hle.cn _ _ _ hb,(u5 _ _ _ hb).trans hh,fun o=>hF _ _ _ o hb (hf o)⟩|rv v e rs =>(rcases h with ⟨h1,h2⟩|⟨g,c,hb,hl,hr⟩);(·exact .inl ⟨h1,KI _ h2⟩);exact .inr ⟨g,c,hle.cn _ _ _ hb,hl,mu (fun _ _ h=>hle.F _ _ h) hr⟩
theorem c5.new {E:Env} {w:World} {a:Act} {st:St} (hs:c5 E w a st) {key:Nat} (hk:ir st.mem key) {obj:Obj} {B:bf} {e c:Nat} (Iv:B.dI=0)
  (hB:kc (E.with key 0 (w.heap.size,e,c)) (w.alloc obj) key B) :
  c5 (E.with key 0 (w.heap.size,e,c)) (w.alloc obj) a { st with mem:=da st.mem key B }∧gK E w (E.with key 0 (w.heap.size,e,c)) (w.alloc obj):=by
 have CC:=hs.free hk;have hle:=Env.mg (CC 0) (w.heap.size,e,c);have gj:∀ k v,¬ (k=key∧v=0)→(E.with key 0 (w.heap.size,e,c)).cn k v=E.cn k v:=fun k v dy=>if_neg dy;have eS:(E.with key 0 (w.heap.size,e,c)).cn key 0=some (w.heap.size,e,c):=if_pos ⟨rfl,rfl⟩;have tU:∀ k v,k≠key→(E.with key 0 (w.heap.size,e,c)).cn k v=E.cn k v:=fun k v dy=>gj k v fun h=>dy h.1;refine⟨⟨fun ad x hx=>?_,fun k v g e' c' hb=>?_,fun k B' tV=>?_,fun k lj v=>?_,fun k B' tV v hv=>?_,?_,hs.fr.mono hle⟩,hle,fun k v g e' c' hb=>?_,fun ad x hx=>.inl hx,rfl,rfl,rfl,by simp,fun b hb _=>dP w _ b hb⟩;·rw [World.cell?_alloc_lt w _ ad (World.block_lt_of_cell? w ad (hs.F ad x hx))];exact hs.F ad x hx
 ·by_cases fe:k=key∧v=0;(·obtain⟨rfl,rfl⟩:=fe;rw [eS] at hb;cases hb;simp);rw [gj k v fe] at hb;have:=hs.lt _ _ _ _ _ hb;simp;omega
 ·rw [qe hk.le] at tV;split at tV;(·rename_i fe;subst fe;cases tV;exact hB);rename_i fe;exact (hs.mem k B' tV).mono hle (fun v h=>by rw [tU k v fe];exact h) (fun g e' c' hb=>dP w _ g (hs.lt _ _ _ _ _ hb)) fun _ _ _ o _ h=>h
 ·have:=tT hk.le B;dsimp only at lj;rw [tU k v (by omega)];exact hs.top k (by omega) v
 ·dsimp only at tV;rw [qe hk.le] at tV;split at tV;(·rename_i fe;subst fe;cases tV;rw [gj k v (by omega)];exact CC v);rename_i fe;rw [tU k v fe];exact hs.dI k B' tV v hv
 ·intro k k' v v' g e1 c1 e2 c2 h5 h6;by_cases fe:k=key∧v=0 <;> by_cases DJ:k'=key∧v'=0;(·rw [fe.1,DJ.1]);(·obtain⟨rfl,rfl⟩:=fe;rw [eS] at h5;cases h5;rw [gj k' _ DJ] at h6;have:=hs.lt _ _ _ _ _ h6;omega);(·obtain⟨rfl,rfl⟩:=DJ;rw [eS] at h6;cases h6;rw [gj k _ fe] at h5;have:=hs.lt _ _ _ _ _ h5;omega);rw [gj k _ fe] at h5;rw [gj k' _ DJ] at h6;exact hs.apart _ _ _ _ _ _ _ _ _ h5 h6
 by_cases fe:k=key∧v=0;·obtain⟨rfl,rfl⟩:=fe;rw [eS] at hb;cases hb;exact .inr (ay _)
 rw [gj k v fe] at hb;exact .inl ⟨_,_,_,_,hb⟩
theorem c5.Ph {E:Env} {w:World} {a:Act} {st:St} (hs:c5 E w a st) {key:Nat} (hk:ir st.mem key) {xs:Array Value} {cs:List V} (hr:cU E cs xs.toList) (T:TypeId) :
  ∃ E',c5 E' (w.alloc (.cells xs T (0,0))) a { st with mem:=da st.mem key (.box cs) }∧gK E w E' (w.alloc (.cells xs T (0,0)))∧cT E' (.ptr key 0) (.pointer (some ⟨w.heap.size,0,none⟩)):=by
 have hle:=Env.mg (hs.free hk 0) (w.heap.size,0,0);have:=hs.new (obj:=.cells xs T (0,0)) (B:=.box cs) (e:=0) (c:=0) hk rfl ⟨w.heap.size,T,xs,if_pos ⟨rfl,rfl⟩,heap_alloc_new w _,hr.mono hle,fun o=>?_⟩;·exact⟨_,this.1,this.2,.ptr _ _ _ _ 0 0 (if_pos ⟨rfl,rfl⟩)⟩
 show E.F _=none;cases hx:E.F ⟨w.heap.size,o,none⟩ with|none=>rfl|some x=>have:=World.block_lt_of_cell? w _ (hs.F _ _ hx);simp at this
theorem c5.u6 {E:Env} {w:World} {a:Act} {st:St} (hs:c5 E w a st) {key:Nat} (hk:ir st.mem key) {xs:Array Value} {rs:List V} {e c:Nat} (T:TypeId) (iw:xs.size=c*e) (hl:rs.length≤c)
  (hr:lY E.pure e rs (fun o=>xs[o]?)) :
  ∃ E',c5 E' (w.alloc (.cells xs T (0,0))) a { st with mem:=da st.mem key (.rows 0 e rs) }∧gK E w E' (w.alloc (.cells xs T (0,0)))∧cT E' (.ms key 0 0 rs.length) (.slice (some ⟨w.heap.size,0,none⟩) rs.length c):=by
 have hle:=Env.mg (hs.free hk 0) (w.heap.size,e,c);have:=hs.new (obj:=.cells xs T (0,0)) (B:=.rows 0 e rs) (e:=e) (c:=c) hk rfl (.inr ⟨w.heap.size,T,xs,c,if_pos ⟨rfl,rfl⟩,heap_alloc_new w _,iw,hl,fun i row hi=>?_,fun o=>?_⟩);·exact⟨_,this.1,this.2,.ms _ _ _ _ _ w.heap.size e c _ _ (if_pos ⟨rfl,rfl⟩) (fun _=>by simp) (fun _=>⟨rfl,rfl⟩) ⟨hl,dL _,fun _=>by simp⟩⟩
 ·obtain⟨h1,h2⟩:=hr i row hi;exact⟨h1,fun j c' hj=>let ⟨x,hx,h1,hr⟩:=h2 j c' hj;⟨x,hx,h1,hr.mono (Env.kC hle)⟩⟩
 show E.F _=none;cases hx:E.F ⟨w.heap.size,o,none⟩ with|none=>rfl|some x=>have:=World.block_lt_of_cell? w _ (hs.F _ _ hx);simp at this
theorem c5.Uk {E:Env} {w:World} {a:Act} {st:St} (hs:c5 E w a st) {key:Nat} (hk:ir st.mem key) (e:Nat):c5 E w a { st with mem:=da st.mem key (.rows 0 e []) }:=by
 have hn:=hs.free hk;refine⟨hs.F,hs.lt,fun k B hB=>?_,fun k lj=>hs.top k ?_,fun k B hB v hv=>?_,hs.apart,hs.fr⟩;·rw [qe hk.le] at hB;split at hB;(·rename_i fe;subst fe;cases hB;exact .inl ⟨rfl,hn 0⟩);exact hs.mem k B hB
 ·have:=tT hk.le (.rows 0 e []);dsimp only at lj;omega
 dsimp only at hB;rw [qe hk.le] at hB;split at hB;·rename_i fe;subst fe;exact hn v
 exact hs.dI k B hB v hv
end Go.Eng
end
section
namespace Go.Eng
variable [ba]
open Go.RowKit (Below)
def jA (xs:Array Value) (o:Nat):List Value→Array Value
 | []=>xs
 | v :: r=>jA (xs.setIfInBounds o v) (o+1) r
def j1 (cs:List V) (o:Nat):List V→List V
 | []=>cs
 | v :: r=>j1 (cs.set o v) (o+1) r
theorem lq (vs:List Value):∀ (xs:Array Value) (o:Nat),(jA xs o vs).size=xs.size:=by induction vs with|nil=>intro xs o;rfl|cons v r ih=>intro xs o;simp [jA,ih]
theorem zT (vs:List V):∀ (cs:List V) (o:Nat),(j1 cs o vs).length=cs.length:=by induction vs with|nil=>intro cs o;rfl|cons v r ih=>intro cs o;simp [j1,ih]
theorem xY {E:Env} (vs:List V):∀ (ys:List Value) (cs:List V) (xs:Array Value) (o:Nat),cU E vs ys→cU E cs xs.toList→cU E (j1 cs o vs) (jA xs o ys).toList:=by induction vs with|nil=>intro ys cs xs o h k;have:=h.of_nil;subst this;exact k|cons v r ih =>intro ys cs xs o h k;obtain⟨y,ys,rfl,h1,h2⟩:=h.of_cons;exact ih ys _ _ _ h2 (by simpa using k.set o h1)
theorem jM (vs:List Value):∀ (xs:Array Value) (o k:Nat),o+vs.length≤xs.size→(jA xs o vs)[k]?=if o≤k∧k<o+vs.length then vs[k-o]? else xs[k]?:=by induction vs with|nil=>intro xs o k _;simp [jA];intro h1 h2;omega|cons v r ih =>intro xs o k h;simp only [af] at h;rw [jA,ih _ _ _ (by simp;omega)];by_cases h1:o+1≤k∧k<o+1+r.length;(·rw [if_pos h1,if_pos ⟨by omega,by simp;omega⟩];(have:k-o=(k-(o+1))+1:=by omega);rw [this,cO]);rw [if_neg h1];by_cases h2:k=o;(·subst h2;rw [if_pos ⟨ay _,by simp⟩];simp only [eI,aF];rw [Array.getElem?_setIfInBounds_self_of_lt (by omega)]);rw [if_neg (by simp only [af];omega),Du (fun e=>h2 e.symm)]
theorem FE (vs:List V):∀ (cs:List V) (o k:Nat),o+vs.length≤cs.length→(j1 cs o vs)[k]?=if o≤k∧k<o+vs.length then vs[k-o]? else cs[k]?:=by induction vs with|nil=>intro xs o k _;simp [j1];intro h1 h2;omega|cons v r ih =>intro xs o k h;simp only [af] at h;rw [j1,ih _ _ _ (by simp;omega)];by_cases h1:o+1≤k∧k<o+1+r.length;(·rw [if_pos h1,if_pos ⟨by omega,by simp;omega⟩];(have:k-o=(k-(o+1))+1:=by omega);rw [this,cO]);rw [if_neg h1];by_cases h2:k=o;(·subst h2;rw [if_pos ⟨ay _,by simp⟩];simp only [eI,aF];rw [bR];simp;omega);rw [if_neg (by simp only [af];omega),cD (fun e=>h2 e.symm)]
structure od (w w':World) (g:Nat):Prop where
 os:w'.os=w.os
 tape:w'.tape=w.tape
 output:w'.output=w.output
 size:w'.heap.size=w.heap.size
 heap:∀ b,b≠g→w'.heap[b]?=w.heap[b]?
theorem kF {P:Program} {g:Nat} {T:TypeId} (o:Nat):∀ (vs:List Value) (i:Nat) (w:World) (xs:Array Value),w.heap[g]?=some (.cells xs T (0,0))→o+i+vs.length≤xs.size →
  (∀ v∈vs,v.oneCell'=true)→∃ w',(storeCells ⟨g,o,none⟩ vs i).run P w = .ok () w'∧w'.heap[g]?=some (.cells (jA xs (o+i) vs) T (0,0))∧od w w' g:=by intro vs;induction vs with|nil=>intro i w xs hh _ _;exact⟨w,rfl,hh,rfl,rfl,rfl,rfl,fun _ _=>rfl⟩|cons v r ih =>intro i w xs hh hl h1;simp only [af] at hl;(have hc:w.cell? ⟨g,o+i,none⟩=some (xs[o+i]'(by omega)):=by rw [nd hh,bP]);(have hf:w.frozen? ⟨g,o+i,none⟩=false:=by simp [World.frozen?,hh]);(have Ia:(w.setCell ⟨g,o+i,none⟩ v).heap[g]?=some (.cells (xs.setIfInBounds (o+i) v) T (0,0)):=by simp [World.setCell,atD,hh]);obtain⟨w',h2,h3,h4⟩:=ih (i+1) _ _ Ia (by simp;omega) (fun v hv=>h1 v (bj _ hv));refine⟨w',?_,by rw [jA];exact h3,h4.os,h4.tape,h4.output,by rw [h4.size];simp,fun b hb=>(h4.heap b hb).trans (Go.RowKit.Below.heap_setCell w _ v b hb)⟩;rw [storeCells];simp only [Sem.run_bind,add_lit];rw [run_store P w _ v .plain (h1 v (cV ..))];simp [stored,hc,hf,h2]
def DK:V→Bool
 | .sc v=>v.oneCell'
 | .undef=>false
 | .agg _=>false
 | .dR _=>false
 | _=>true
def lr:V→Option (List V)
 | .agg cs=>if cs.all DK then some cs else none
 | v=>if DK v then some [v] else none
theorem FF {E:Env} {c:V} {x:Value} (h:cT E c x) (ho:DK c=true):x.oneCell'=true:=by cases h <;> first|rfl|exact ho|simp [DK] at ho
theorem qf {E:Env} {v:V} {x:Value} {cs:List V} (h:cT E v x) (hc:lr v=some cs):cU E cs x.cells.toList∧∀ y∈x.cells.toList,y.oneCell'=true:=by
 have key:∀ (cs:List V) (xs:List Value),cU E cs xs→cs.all DK=true→∀ y∈xs,y.oneCell'=true:=by intro cs;induction cs with|nil=>intro xs h _ y hy;rw [h.of_nil] at hy;simp at hy|cons c r ih =>intro xs h ha y hy;obtain⟨x,ys,rfl,h1,h2⟩:=h.of_cons;simp only [cI,aJ] at ha;(rcases b8.1 hy with rfl|hy);(·exact FF h1 ha.1);exact ih ys h2 ha.2 y hy
 unfold lr at hc;split at hc;·split at hc;(·rename_i tW ff;simp only [aB] at hc;subst hc;have:=h.cells (by simp) (by simp);exact⟨this,key _ _ this ff⟩);simp at hc
 split at hc;·rename_i dy qa;simp only [aB] at hc;subst hc;have h1:x.oneCell'=true:=FF h qa;(have hx:x.cells = #[x]:=by cases x <;> first|rfl|simp [Value.oneCell'] at h1);rw [hx];exact⟨.cons h (.nil _),fun y hy=>by simp at hy;subst hy;exact h1⟩
 simp at hc
theorem c5.DL {E:Env} {w:World} {a:Act} {st:St} (hs:c5 E w a st) {g:Nat} (hf:∀ o,E.F ⟨g,o,none⟩=none) {ad:Addr} {x:Value} (hx:E.F ad=some x):ad.block≠g:=by
 intro he;have hc:=hs.F ad x hx;have H9:ad.spot=none:=by unfold World.cell? at hc;split at hc;(·split at hc;(·simp at hc);rename_i h;cases H9:ad.spot with|none=>rfl|some s=>simp [H9] at h);simp at hc
 have:ad=⟨g,ad.off,none⟩:=by cases ad;simp_all
 rw [this,hf] at hx;cases hx
theorem c5.zU {E:Env} {w w':World} {a:Act} {st:St} (hs:c5 E w a st) {b g e c:Nat} {B B':bf} (hm:st.mem[b]?=some B) (hh:B.held=true) (Ul:B'.dI=B.dI) (hb:E.cn b B.dI=some (g,e,c)) (hf:∀ o,E.F ⟨g,o,none⟩=none)
  (ho:od w w' g) (hB:kc E w' b B'):c5 E w' a { st with mem:=st.mem.set b B' }∧gK E w E w':=by
 have bQ:b<st.mem.length:=(aA.1 hm).1
 refine⟨⟨fun ad x hx=>?_,fun k v g' e' c' hk=>by rw [ho.size];exact hs.lt _ _ _ _ _ hk,fun k B1 hk=>?_,fun k hk=>hs.top k (by simpa using hk),fun k B1 hk v hv=>?_,hs.apart,hs.fr⟩,
  E.le_refl,fun k v g e c h=>.inl ⟨k,v,e,c,h⟩,fun _ _ h=>.inl h,ho.os,ho.tape,ho.output,by rw [ho.size];exact ay _,fun b' fR dy=>ho.heap b' fun e=>by subst e;exact dy _ _ _ _ hb⟩
 ·have dy:=hs.DL hf hx;have:w'.heap[ad.block]?=w.heap[ad.block]?:=ho.heap _ dy;rw [← hs.F ad x hx];simp [World.cell?,this]
 ·rw [bR] at hk;by_cases j2:b=k;(·subst j2;simp only [if_true,bQ] at hk;cases hk;exact hB);rw [if_neg j2] at hk;cases ON:B1.held with|false=>(cases B1 <;> first|exact hs.mem k _ hk|trivial|simp [bf.held] at ON)|true =>refine (hs.mem k B1 hk).mono E.le_refl (fun _ h=>h) (fun g' e' c' fg=>ho.heap _ fun e=>?_) fun _ _ _ _ _ h=>h;subst e;exact j2 (hs.apart _ _ _ _ _ _ _ _ _ hb fg)
 dsimp only at hk;rw [bR] at hk;by_cases hqb:b=k;·subst hqb;simp only [if_true,bQ] at hk;cases hk;exact hs.dI b B hm v (by omega)
 rw [if_neg hqb] at hk;exact hs.dI k B1 hk v hv
def lu:V→Bool
 | .gn=>true
 | .sc _=>true
 | .slice _=>true
 | .eY _=>true
 | .undef=>true
 | _=>false
theorem DN {E:Env} {v:V} {x:Value} (h:cT E v x) (hp:lu v=true):cT E.pure v x:=by cases h with|undef=>exact .undef _ _|gn=>exact .gn _|sc=>exact .sc _ _|slice _ rows a cap uj ad xf ha lR hz hF h1 hR=>exact .slice _ _ _ _ uj ad xf ha lR hz hF h1 hR|eY _ cs ad xf hF hR=>exact .eY _ _ _ xf hF hR|_=>simp [lu] at hp
def setRow (row:V) (o:Nat) (new:List V):V :=
 match row with
 | .agg cs=>.agg (j1 cs o new)
 | r=>match o,new with
  | 0,[c]=>c
  | _,_=>r
theorem DO {row:V} {o:Nat} {new:List V} (ho:o+new.length≤row.cells.length) (qa:new.all DK=true) (dy:new≠[]):(setRow row o new).cells=j1 row.cells o new:=by cases row with|agg cs=>rfl|_ =>simp only [V.cells,af,ai] at ho ⊢;match new,dy with|[c],_ =>((obtain rfl:o=0:=by simp at ho;omega);simp only [cI,dM,aU] at qa;cases c <;> first|rfl|simp [DK] at qa)|_ :: _ :: _,_=>simp at ho;omega
def mJ (tt:Table) (mem:List bf) (T:TypeId) (p v:V):Option (List bf) :=
 match lr v with
 | none=>none
 | some new =>
  if n8 tt T=some new.length then
   match p with
   | .ptr b o=>match mem[b]? with
    | some (.box cs)=>if o+new.length≤cs.length then some (mem.set b (.box (j1 cs o new))) else none
    | _=>none
   | .gJ b v i o=>match mem[b]? with
    | some (.rows v' e rs)=>match rs[i]? with
     | some row=>if v'=v∧o+new.length≤row.cells.length∧new≠[]∧new.all lu=true∧new.all DK=true then some (mem.set b (.rows v' e (rs.set i (setRow row o new)))) else none
     | none=>none
    | _=>none
   | _=>none
  else none
instance (new:List V):Decidable (new≠[]):=match new with|[]=>.isFalse (by simp)|_ :: _=>.isTrue (by simp)
theorem cU.pure {E:Env}:∀ {vs:List V} {xs:List Value},cU E vs xs→vs.all lu=true→cU E.pure vs xs
 | [],xs,h,_=>by rw [h.of_nil];exact .nil _
 | v :: vs,xs,h,hp=>by
  obtain⟨x,ys,rfl,h1,h2⟩:=h.of_cons
  simp only [cI,aJ] at hp
  exact .cons (DN h1 hp.1) (cU.pure h2 hp.2)
theorem u9 {P:Program} {tt:Table} (ht:TT P tt) {E:Env} {w:World} {a:Act} {st:St} (hs:c5 E w a st) {T:TypeId} {p v:V} {x y:Value} {bI:List bf} (hp:cT E p x) (hv:cT E v y)
  (h:mJ tt st.mem T p v=some bI):∃ w',(Instr.storeAt T x y).run P w = .ok () w'∧c5 E w' a { st with mem:=bI }∧gK E w E w':=by
 unfold mJ at h;split at h;·simp at h
 rename_i new oL;obtain⟨hr,qa⟩:=qf hv oL;split at h
 ·rename_i iw;have hlen:y.cells.size=new.length:=by have:=hr.1;simp at this;exact this.symm
  have eQ:∀ {g o:Nat} {xs:Array Value} {T':TypeId},w.heap[g]?=some (.cells xs T' (0,0))→o+new.length≤xs.size →
    ∃ w',(Instr.storeAt T (.pointer (some ⟨g,o,none⟩)) y).run P w = .ok () w'∧w'.heap[g]?=some (.cells (jA xs o y.cells.toList) T' (0,0))∧od w w' g:=fun {g o xs T'} hh hle=>by
   obtain⟨w',h1,h2,h3⟩:=kF (P:=P) o y.cells.toList 0 w xs hh (by have:=hr.1;simp at this ⊢;omega) qa
   refine⟨w',?_,by simpa using h2,h3⟩
   unfold n8 at iw
   split at iw
   ·rename_i i hi
    simp only [aB] at iw
    simp only [Instr.storeAt,Instr.sureAddr,Sem.run_bind,Sem.run_pure,Result.andThen_ok,storeVar,ht.sizeOf hi,hlen,iw,ne_eq,not_true_eq_false,if_false]
    exact h1
   simp at iw
  split at h;·rename_i b o;split at h;(·rename_i cs hm;split at h;(·rename_i hle;simp only [aB] at h;subst h;cases hp with|ptr _ _ _ g e c hb =>obtain⟨g',T',xs,fR,hh,CD,hf⟩:=hs.mem b _ hm;rw [hb] at fR;cases fR;obtain⟨w',h1,h2,h3⟩:=eQ (o:=o) hh (by have:=CD.1;simp at this;omega);exact⟨w',h1,hs.zU hm rfl rfl hb hf h3 ⟨g,T',_,hb,h2,xY _ _ _ _ _ hr CD,hf⟩⟩);simp at h);simp at h
  ·rename_i b vv i o;split at h;(·rename_i v' e rs hm;split at h;(·rename_i row oJ;split at h;(·rename_i rE;obtain⟨rfl,hle,dy,CE,ad0⟩:=rE;simp only [aB] at h;subst h;cases hp with|gJ _ _ _ _ _ g e' c hb =>(rcases hs.mem b _ hm with ⟨rfl,-⟩|⟨g',T',xs,c',fR,hh,rj,mf,CD,hf⟩);(·simp at oJ);rw [hb] at fR;cases fR;obtain⟨KJ,hrc⟩:=CD i row oJ;have hi:i<rs.length:=(aA.1 oJ).1;(have hmul:i*e+e≤xs.size:=by rw [rj,← mW];exact kL e (by omega));obtain⟨w',h1,h2,h3⟩:=eQ (o:=i*e+o) hh (by omega);refine⟨w',h1,hs.zU hm rfl rfl hb hf h3 (.inr ⟨g,T',_,c,hb,h2,by rw [lq];exact rj,by simpa using mf,?_,hf⟩)⟩;have hyl:y.cells.toList.length=new.length:=hr.1.symm;intro i' ajX FG;rw [bR] at FG;by_cases hii:i=i';(·subst hii;simp only [if_true,hi] at FG;cases FG;have hc:=DO hle ad0 dy;refine⟨by rw [hc,zT];exact KJ,fun j cc hj=>?_⟩;rw [hc,FE _ _ _ _ hle] at hj;dsimp only;rw [jM _ _ _ _ (by rw [hyl];omega),hyl];by_cases oI:o≤j∧j<o+new.length;(·rw [if_pos oI] at hj;rw [if_pos ⟨by omega,by omega⟩];obtain⟨z,hz,hzr⟩:=(hr.pure CE).get hj;exact⟨z,by rw [← hz];congr 1;omega,qa z (aE hz),hzr⟩);rw [if_neg oI] at hj;rw [if_neg (by omega)];exact hrc j cc hj);rw [if_neg hii] at FG;obtain⟨h5,h6⟩:=CD i' ajX FG;refine⟨h5,fun j cc hj=>?_⟩;obtain⟨z,hz,hz1,hzr⟩:=h6 j cc hj;(have H8:j<e:=by rw [← h5];exact (aA.1 hj).1);refine⟨z,?_,hz1,hzr⟩;dsimp only;rw [jM _ _ _ _ (by rw [hyl];omega),hyl,if_neg ?_];(·exact hz);intro oI;(rcases Nat.lt_or_gt_of_ne hii with bQ|hgt);(·have:(i+1)*e≤i'*e:=kL e bQ;rw [mW] at this;omega);have:(i'+1)*e≤i*e:=kL e hgt;rw [mW] at this;omega);simp at h);simp at h);simp at h
  simp at h
 simp at h
end Go.Eng
end
section
namespace Go.Eng
variable [ba]
open Go.RowKit (Below)
def ve (E:Env) (e:Nat) (rs:List V) (ys:Array Value):Prop:=ys.size=rs.length*e∧lY E e rs (fun o=>ys[o]?)
theorem zV {i n j e:Nat} (hi:i<n) (hj:j<e):i*e+j<n*e:=by have:(i+1)*e≤n*e:=kL e hi;rw [mW] at this;omega
theorem CF {P:Program} {E:Env} {w:World} {ad:Addr} {rows:List V} {size:Nat} (hz:∀ (i:Nat) (row:V),rows[i]?=some row→row.cells.length=size)
  (h:∀ (i:Nat) (row:V) (j:Nat) (c:V),rows[i]?=some row→row.cells[j]?=some c→∃ x,w.cell? (ad.add (i*size+j))=some x∧x.oneCell'=true∧cT E c x) :
  ∃ ys:Array Value,(loadCells ad (rows.length*size)).run P w = .ok ys w∧ve E size rows ys:=by
 let f:Nat→Value:=fun k=>(w.cell? (ad.add k)).getD default;have hf:∀ k,k<rows.length*size→w.cell? (ad.add k)=some (f k):=fun k hk=>by (have hs:0<size:=auH fun e=>by subst e;simp at hk);(have hi:k / size<rows.length:=by rwa [auR hs]);have hj:k % size<size:=atE _ hs;have oJ:=au hi;have mf:=hz _ _ oJ;obtain⟨x,hx,-⟩:=h _ _ (k % size) _ oJ (au (by rw [mf];exact hj));rw [Nat.mul_comm,auq] at hx;simp [f,hx]
 refine⟨((List.range (rows.length*size)).map f).toArray,run_loadCells w ad _ f hf,by simp,fun i row hi=>⟨hz i row hi,fun j c hj=>?_⟩⟩;obtain⟨x,hx,h1,hr⟩:=h i row j c hi hj;have Um:i<rows.length:=(aA.1 hi).1;have H8:j<size:=by rw [← hz i row hi];exact (aA.1 hj).1
 refine⟨x,?_,h1,hr⟩;have:=zV Um H8;simp [this,f,hx]
def rowsOf (mem:List bf) (size:Nat):V→Option (List V)
 | .slice rows=>if jZ rows 0 size=true then some rows else none
 | .ms b v s l=>match mem[b]? with
  | some (.rows v' e rs)=>if v'=v∧e=size∧s+l≤rs.length then some ((rs.drop s).take l) else none
  | some (.rv v' e rs)=>if v'=v∧e=size∧s+l≤rs.length then some ((rs.drop s).take l) else none
  | _=>none
 | .sc (.slice none 0 0)=>some []
 | _=>none
theorem y7 {rs:List V} {s l i:Nat} {row:V} (h:((rs.drop s).take l)[i]?=some row):rs[s+i]?=some row:=by
 rw [jV] at h;split at h;·simpa using h
 simp at h
theorem j3 {P:Program} {E:Env} {w:World} {a:Act} {st:St} (hs:c5 E w a st) {size:Nat} {v:V} {x:Value} {rows:List V} (hr:cT E v x) (h:rowsOf st.mem size v=some rows) :
  ∃ aa cap,x = .slice aa rows.length cap∧rows.length≤cap∧∃ ys:Array Value,(Builtin.firstCells size rows.length x).run P w = .ok ys w∧ve E.pure size rows ys:=by
 have DP:∀ n,n=0→∃ ys:Array Value,(Builtin.firstCells size n (.slice none n 0)).run P w = .ok ys w∧ve E.pure size [] ys:=fun n hn=>by subst hn;exact⟨#[],rfl,by simp,fun i row hi=>by simp at hi⟩
 unfold rowsOf at h;split at h;·rename_i nE;split at h;(·rename_i w5;simp only [aB] at h;subst h;cases hr with|slice _ _ aa cap uj ad xf ha lR hz hF qa hR =>refine⟨aa,cap,rfl,lR,?_⟩;cases mu:nE with|nil =>(subst mu;cases aa with|none=>exact DP 0 rfl|some a0=>exact⟨#[],by simp [Builtin.firstCells,loadCells,loadCellsFrom],by simp,fun i row hi=>by simp at hi⟩)|cons r0 rr =>(have dy:nE≠[]:=by simp [mu]);(have he:uj=size:=by unfold jZ at w5;(have h0:nE[0]?=some r0:=by simp [mu]);rw [h0] at w5;simp only [beq_iff_eq] at w5;rw [← w5,hz 0 _ h0]);subst he;obtain rfl:=ha dy;rw [← mu];exact CF (P:=P) hz fun i row j c hi hj=>⟨_,hs.F _ _ (hF i row j c hi hj),qa i row j c hi hj,hR i row j c hi hj⟩);simp at h
 ·rename_i b v s l
  have WK:∀ (rs:List V),s+l≤rs.length→rows=(rs.drop s).take l→(∀ g e c,E.cn b v=some (g,e,c)→e=size∧lY E.pure size rs (fun o=>w.cell? ⟨g,o,none⟩)) →
    ∃ aa cap,x = .slice aa rows.length cap∧rows.length≤cap∧∃ ys:Array Value,(Builtin.firstCells size rows.length x).run P w = .ok ys w∧ve E.pure size rows ys:=by
   intro rs hl mu hb
   have hlen:rows.length=l:=by rw [mu];simp;omega
   cases hr with
   | iv =>
    have:rows=[]:=cb.1 hlen
    subst this
    exact⟨none,0,rfl,ay _,DP 0 rfl⟩
   | ms _ _ _ _ _ g e c aa cap fg uq TU u0 =>
    obtain⟨rfl,hrk⟩:=hb g e c fg
    rw [← hlen]
    refine⟨aa,cap,rfl,by omega,?_⟩
    by_cases BU:0<l
    ·obtain rfl:=uq BU
     refine CF (P:=P) (fun i row hi=>?_) fun i row j c hi hj=>?_
     ·rw [mu] at hi;exact (hrk _ _ (y7 hi)).1
     rw [mu] at hi
     obtain⟨x,hx,h1,h2⟩:=(hrk _ _ (y7 hi)).2 j c hj
     exact⟨x,by rw [add_lit,← hx];congr 2;rw [iJ];omega,h1,h2⟩
    have:rows=[]:=cb.1 (by omega)
    subst this
    cases aa with
    | none=>exact⟨#[],rfl,by simp,fun i row hi=>by simp at hi⟩
    | some a0=>exact⟨#[],by simp [Builtin.firstCells,loadCells,loadCellsFrom],by simp,fun i row hi=>by simp at hi⟩
  split at h;·rename_i v' e rs hm;split at h;(·rename_i hc;obtain⟨rfl,hc⟩:=hc;simp only [aB] at h;refine WK rs hc.2 h.symm fun g e' c hb=>?_;(rcases hs.mem b _ hm with ⟨-,hn⟩|⟨g',T',xs,c',fR,hh,-,-,CD,-⟩);(·rw [hb] at hn;cases hn);rw [hb] at fR;cases fR;refine⟨hc.1,?_⟩;rw [hc.1] at CD;intro i row hi;obtain⟨h1,h2⟩:=CD i row hi;exact⟨h1,fun j c hj=>by dsimp only;rw [nd hh];exact h2 j c hj⟩);simp at h
  ·rename_i v' e rs hm;split at h;(·rename_i hc;obtain⟨rfl,hc⟩:=hc;simp only [aB] at h;refine WK rs hc.2 h.symm fun g e' c hb=>?_;(rcases hs.mem b _ hm with ⟨-,hn⟩|⟨g',c',fR,-,CD⟩);(·rw [hb] at hn;cases hn);rw [hb] at fR;cases fR;refine⟨hc.1,?_⟩;rw [hc.1] at CD;intro i row hi;obtain⟨h1,h2⟩:=CD i row hi;exact⟨h1,fun j c hj=>let ⟨x,hx,h⟩:=h2 j c hj;⟨x,hs.F _ _ hx,h⟩⟩);simp at h
  simp at h
 ·simp only [aB] at h;subst h;obtain rfl:=eT hr;exact⟨none,0,rfl,ay _,DP 0 rfl⟩
 simp at h
def ph:V→V
 | .sc (.slice none 0 0)=>.slice []
 | v=>v
theorem vf {E:Env} {v:V} {x:Value} (h:cT E v x):cT E (ph v) x:=by
 unfold ph;split;·obtain rfl:=eT h;exact .slice _ [] none 0 0 default (fun _ _=>default) (by simp) (by simp) (by simp) (by simp) (by simp) (by simp)
 exact h
def Un:V→V
 | .agg cs=>.agg (cs.map ph)
 | v=>ph v
theorem Iw {v:V} {cs:List V} (h:lr v=some cs):(Un v).cells=cs.map ph:=by
 unfold lr at h;split at h;·split at h;(·simp only [aB] at h;subst h;rfl);simp at h
 rename_i dy;split at h;·simp only [aB] at h;subst h;(cases v <;> first|exact absurd rfl (dy _)|rfl|skip);rename_i v;simp only [Un,ph,bm,iK];split <;> rfl
 simp at h
theorem cU.ph {E:Env}:∀ {vs:List V} {xs:List Value},cU E vs xs→cU E (vs.map ph) xs
 | [],xs,h=>h
 | v :: vs,xs,h=>by
  obtain⟨x,ys,rfl,h1,h2⟩:=h.of_cons
  exact .cons (vf h1) (cU.ph h2)
def s9 (size:Nat):List V→Option (List V)
 | []=>some []
 | v :: r=>match lr v with
  | some cs=>if cs.length=size∧cs.all lu=true then (match s9 size r with|some rs=>some (Un v :: rs)|none=>none) else none
  | none=>none
def rF:Nat→List (Nat×Operand)→Bool
 | _,[]=>true
 | k,(i,_) :: r=>i==k&&rF (k+1) r
theorem xZ (off:Nat):∀ (l:List Value) (n:Nat) (cs:Array Value),(l.zipIdx n).foldl (fun cs (x:Value×Nat)=>cs.setIfInBounds (off+x.2) x.1) cs=jA cs (off+n) l:=by intro l;induction l with|nil=>intro n cs;rfl|cons v r ih=>intro n cs;rw [List.zipIdx_cons,o3,ih,jA,lT]
theorem Pj {E:Env} {size:Nat}:∀ (parts:List (Nat×Operand)) (k:Nat) (ev:Operand→V) (av:Operand→Value) (Z:Array Value) (rs:List V),(∀ p∈parts,cT E (ev p.2) (av p.2))→rF k parts=true →
  s9 size (parts.map fun p=>ev p.2)=some rs→(k+parts.length)*size≤Z.size →
  ∃ Z',Instr.fill (fun i=>some (i*size,size)) Z (parts.map fun p=>(p.1,av p.2))=some Z'∧Z'.size=Z.size∧rs.length=parts.length∧(∀ o,o<k*size→Z'[o]?=Z[o]?) ∧
   lY E.pure size rs (fun o=>Z'[k*size+o]?):=by intro parts;induction parts with|nil =>intro k ev av Z rs _ _ hl _;simp only [iK,s9,aB] at hl;subst hl;exact⟨Z,rfl,rfl,rfl,fun _ _=>rfl,fun i row hi=>by simp at hi⟩|cons p r ih =>intro k ev av Z rs j4 My hl iw;obtain⟨i,o⟩:=p;simp only [rF,aJ,beq_iff_eq] at My;obtain⟨rfl,My⟩:=My;simp only [bm,s9] at hl;split at hl;(·rename_i cs mc;split at hl;(·rename_i hc;split at hl;(·rename_i mv YG;simp only [aB] at hl;subst hl;obtain⟨hr,qa⟩:=qf (j4 (i,o) (cV ..)) mc;(have WL:(av o).cells.size=size:=by have:=hr.1;simp at this;omega);simp only [af] at iw;(have hmul:i*size+size≤Z.size:=by have:(i+1)*size≤(i+(r.length+1))*size:=kL _ (by omega);rw [mW] at this;omega);obtain⟨Z',h1,h2,h3,h4,h5⟩:=ih (i+1) ev av (jA Z (i*size) (av o).cells.toList) mv (fun p hp=>j4 p (bj _ hp)) My YG (by rw [lq];rw [show i+1+r.length=i+(r.length+1) from by omega];exact iw);(have hlen:(av o).cells.toList.length=size:=by simpa using WL);(have H9:∀ q,(jA Z (i*size) (av o).cells.toList)[q]?=if i*size≤q∧q<i*size+size then (av o).cells.toList[q-i*size]? else Z[q]?:=fun q=>by rw [jM _ _ _ _ (by rw [hlen];exact hmul),hlen]);refine⟨Z',?_,by rw [h2,lq],by simp [h3],fun q hq=>?_,fun q row hq=>?_⟩;(·simp only [bm,Instr.fill,WL];rw [if_neg (by simp;omega)];rw [← h1];congr 1;rw [← at6,auO];exact xZ (i*size) (av o).cells.toList 0 Z);(·rw [h4 q (by rw [mW];omega),H9,if_neg (by omega)]);cases q with|zero =>simp only [aF,aB] at hq;subst hq;rw [Iw mc];refine⟨by simpa using hc.1,fun j c hj=>?_⟩;(have H8:j<size:=by rw [← hc.1];simpa using (aA.1 hj).1);obtain⟨x,hx,Pg⟩:=(hr.pure hc.2).ph.get hj;refine⟨x,?_,qa x (aE hx),Pg⟩;dsimp only;rw [Nat.zero_mul,dL,h4 _ (by rw [mW];omega),H9,if_pos ⟨by omega,by omega⟩,← hx];congr 1;omega|succ q =>simp only [cO] at hq;obtain⟨h6,h7⟩:=h5 q row hq;refine⟨h6,fun j c hj=>?_⟩;obtain⟨x,hx,qO,Pg⟩:=h7 j c hj;refine⟨x,?_,qO,Pg⟩;dsimp only at hx ⊢;rw [← hx];congr 1;rw [mW,mW];omega);simp at hl);simp at hl);simp at hl
def w6 (tt:Table) (T:TypeId) (len:Nat) (parts:List (Nat×Operand)) (ev:Operand→V):Option (Nat×List V) :=
 match jz tt T with
 | some e=>match n8 tt e with
  | some size=>if rF 0 parts=true∧parts.length=len∧len*size≤65536 then (match s9 size (parts.map fun p=>ev p.2) with|some rs=>some (size,rs)|none=>none) else none
  | none=>none
 | none=>none
theorem DQ {P:Program} {tt:Table} (ht:TT P tt) {E:Env} {w:World} {a:Act} {ev:Operand→V} {T:TypeId} {len size:Nat} {parts:Array (Nat×Operand)} {rs:List V} (fK:∀ p∈parts.toList,cT E (ev p.2) (a.eval p.2))
  (h:w6 tt T len parts.toList ev=some (size,rs)) :
  ∃ (Z:Array Value) (e:TypeId),(Instr.buildSlice T len (parts.map fun (i,x)=>(i,a.eval x))).run P w = .ok (.slice (some ⟨w.heap.size,0,none⟩) len len) (w.alloc (.cells Z e (0,0)))∧Z.size=len*size∧rs.length=len∧lY E.pure size rs (fun o=>Z[o]?):=by unfold w6 jz n8 at h;cases hT:tt T with|none=>rw [hT] at h;simp at h|some iT =>rw [hT] at h;simp only at h;cases he:iT.elem with|none=>rw [he] at h;simp at h|some e =>rw [he] at h;simp only at h;cases hE:tt e with|none=>rw [hE] at h;simp at h|some ie =>rw [hE] at h;simp only at h;split at h;(·rename_i hc;obtain⟨My,hlen,apy⟩:=hc;split at h;(·rename_i mv wV;simp only [aB,dn] at h;obtain⟨rfl,rfl⟩:=h;obtain⟨d,hd,-,uZ,-⟩:=ht.desc T iT hT;obtain rfl:=uZ e he;obtain⟨info,wW,OO,-,z,hz,CG⟩:=ht.size e ie hE;(have hzero:∀ w':World,(zeroValue e).run P w' = .ok z w':=fun w'=>by simp [zeroValue,eR wW,hz]);obtain⟨zc,hzc⟩:∃ zc:Array Value,zc=if len*ie.size=0 then #[] else z.cells:=⟨_,rfl⟩;obtain⟨Z',h1,h2,h3,-,h5⟩:=Pj (size:=ie.size) parts.toList 0 ev a.eval ((Array.range (len*ie.size)).map (zc[· % zc.size]!)) mv fK My wV (by simp [hlen]);refine⟨Z',e,?_,by simpa using h2,by omega,by simpa using h5⟩;(have uu:(parts.map fun (i,x)=>(i,a.eval x)).toList=parts.toList.map fun p=>(p.1,a.eval p.2):=by simp);unfold Instr.buildSlice;simp only [Sem.run_bind,aZ hd,Result.andThen_ok,ht.sizeOf hE];rw [if_neg (by omega)];by_cases h0:len*ie.size=0;(·simp only [h0,if_true,Sem.run_pure,Result.andThen_ok,uu];rw [if_pos h0] at hzc;subst hzc;rw [h0] at h1;simp only [Sem.run_bind,Sem.run_pure,Result.andThen_ok,uu];simp only [h1];simp [newRow]);simp only [h0,if_false,Sem.run_bind,hzero,Sem.run_pure,Result.andThen_ok,uu];rw [if_neg h0] at hzc;subst hzc;simp only [h1];simp [newRow]);simp at h);simp at h
end Go.Eng
end
section
namespace Go.Eng
variable [ba]
open Go.RowKit (Below)
section
variable {P:Program} {w:World}
theorem og {t u ty e e':TypeId} {i:TypeInfo} (ht:P.underlying t=some (.slice e)) (hu:P.underlying u=some (.slice e')) (hi:P.info? e=some i) (c:Nat) (aa:Option Addr) (news:Array Value)
  (hf:(Builtin.firstCells i.size 0 (.slice aa 0 c)).run P w = .ok news w) :
  (Builtin.append_ #[t,u] ty #[.slice none 0 0,.slice aa 0 c]).run P w = .ok (.slice none 0 0) w:=by simp [Builtin.append_,aZ ht,aZ hu,fG hi,Builtin.lenOf,hf]
theorem zW {t u ty e e':TypeId} {i:TypeInfo} {z:Value} (ht:P.underlying t=some (.slice e)) (hu:P.underlying u=some (.slice e')) (hi:P.info? e=some i) (hz:i.zero=some z) (base:Option Addr) (kp gp n c:Nat)
  (aa:Option Addr) (Pk news:Array Value) (YH:(Builtin.firstCells i.size kp (.slice base kp gp)).run P w.drew = .ok Pk w.drew) (hf:(Builtin.firstCells i.size n (.slice aa n c)).run P w.drew = .ok news w.drew)
  (hg:gp<kp+n) (h63:((kp+n:Nat):Int)≤9223372036854775807) (Ix:Builtin.nextslicecap (kp+n) gp*i.bytes≤281474976710656) :
  (Builtin.append_ #[t,u] ty #[.slice base kp gp,.slice aa n c]).run P w =
   .ok (.slice (some ⟨w.heap.size,0,none⟩) (kp+n) (grownCap w (kp+n) gp e))
    (w.drew.alloc (.cells (Pk++news++Builtin.zeroCells z.cells (grownCap w (kp+n) gp e-(kp+n))) e)):=by
 have hn:¬ (kp+n≤gp):=by omega
 have YI:¬ (9223372036854775807<((kp:Int)+(n:Int))):=by omega
 have YJ:¬ (281474976710656<Builtin.nextslicecap (kp+n) gp*i.bytes):=by omega
 simp [Builtin.append_,aZ ht,aZ hu,eR hi,fG hi,zeroValue,hz,Builtin.lenOf,hn,YI,YJ,Question.forced,hf,YH,newRow,grownCap]
end
structure DR (P:Program) (u:TypeId) (z:Value) (n:Nat):Prop where
 len:Builtin.lenOf z=pure n
 ty:P.underlying u=some .string∨∃ e,P.underlying u=some (.slice e)
section
variable {P:Program} {w:World}
theorem yM {t u ty e:TypeId} {i:TypeInfo} (ht:P.underlying t=some (.slice e)) (hi:P.info? e=some i) (g kp gp n:Nat) {z:Value} (hu:DR P u z n) (news:Array Value)
  (hf:(Builtin.firstCells i.size n z).run P w = .ok news w) (vg:kp+n≤gp) {w':World} (uo:(storeCells ⟨g,kp*i.size,none⟩ news.toList).run P w = .ok () w') :
  (Builtin.append_ #[t,u] ty #[.slice (some ⟨g,0,none⟩) kp gp,z]).run P w = .ok (.slice (some ⟨g,0,none⟩) (kp+n) gp) w':=by obtain⟨hl,hu⟩:=hu;rcases hu with hu|⟨_,hu⟩ <;> simp [Builtin.append_,aZ ht,aZ hu,fG hi,hl,vg,hf,add_lit,uo]
theorem nF {t u ty e:TypeId} {i:TypeInfo} (ht:P.underlying t=some (.slice e)) (hi:P.info? e=some i) {z:Value} (hu:DR P u z 0) (news:Array Value)
  (hf:(Builtin.firstCells i.size 0 z).run P w = .ok news w) :
  (Builtin.append_ #[t,u] ty #[.slice none 0 0,z]).run P w = .ok (.slice none 0 0) w:=by obtain⟨hl,hu⟩:=hu;rcases hu with hu|⟨_,hu⟩ <;> simp [Builtin.append_,aZ ht,aZ hu,fG hi,hl,hf]
theorem mK {t u ty e:TypeId} {i:TypeInfo} {zz:Value} (ht:P.underlying t=some (.slice e)) (hi:P.info? e=some i) (hz:i.zero=some zz) (base:Option Addr) (kp gp n:Nat)
  {z:Value} (hu:DR P u z n) (Pk news:Array Value) (YH:(Builtin.firstCells i.size kp (.slice base kp gp)).run P w.drew = .ok Pk w.drew) (hf:(Builtin.firstCells i.size n z).run P w.drew = .ok news w.drew)
  (hg:gp<kp+n) (h63:((kp+n:Nat):Int)≤9223372036854775807) (Ix:Builtin.nextslicecap (kp+n) gp*i.bytes≤281474976710656) :
  (Builtin.append_ #[t,u] ty #[.slice base kp gp,z]).run P w =
   .ok (.slice (some ⟨w.heap.size,0,none⟩) (kp+n) (grownCap w (kp+n) gp e))
    (w.drew.alloc (.cells (Pk++news++Builtin.zeroCells zz.cells (grownCap w (kp+n) gp e-(kp+n))) e)):=by
 have hn:¬ (kp+n≤gp):=by omega
 have YI:¬ (9223372036854775807<((kp:Int)+(n:Int))):=by omega
 have YJ:¬ (281474976710656<Builtin.nextslicecap (kp+n) gp*i.bytes):=by omega
 obtain⟨hl,hu⟩:=hu;rcases hu with hu|⟨_,hu⟩ <;> simp [Builtin.append_,aZ ht,aZ hu,eR hi,fG hi,zeroValue,hz,hl,hn,YI,YJ,Question.forced,hf,YH,newRow,grownCap]
end
def jB (s:ByteArray):List V:=s.data.toList.map fun b=>.sc (.int .u8 (b.toNat:Int))
def rG (tt:Table) (mem:List bf) (u:TypeId) (size:Nat) (x:V):Option (List V) :=
 match tt u with
 | some iu=>match iu.elem with
  | some _=>rowsOf mem size x
  | none=>match x with
   | .sc (.string s)=>if uk iu.zero=true∧iu.agg=false∧size=1 then some (jB s) else none
   | _=>none
 | none=>none
theorem x4 {P:Program} {tt:Table} (ht:TT P tt) {E:Env} {w:World} {a:Act} {st:St} (hs:c5 E w a st) {u:TypeId} {size:Nat} {x:V} {z:Value} {rows:List V} (hr:cT E x z) (h:rG tt st.mem u size x=some rows) :
  DR P u z rows.length∧∃ ys:Array Value,(Builtin.firstCells size rows.length z).run P w = .ok ys w∧ve E.pure size rows ys:=by
 unfold rG at h;split at h;·rename_i iu hU;split at h;(·rename_i e' he;obtain⟨aa,cap,rfl,-,ys,h1,h2⟩:=j3 (P:=P) hs hr h;obtain⟨d,hd,-,uZ,-⟩:=ht.desc u iu hU;exact⟨⟨rfl,.inr ⟨e',by rw [hd,uZ e' he]⟩⟩,ys,h1,h2⟩);split at h;(·rename_i s;split at h;(·rename_i hc;obtain⟨hz,hag,rfl⟩:=hc;simp only [aB] at h;subst h;obtain rfl:=eT hr;(have iw:(jB s).length=s.size:=by unfold jB;rw [ax,fA];rfl);refine⟨⟨by rw [iw];rfl,.inl (ht.str u iu hU hz hag)⟩,s.data.map fun b=>.int .u8 b.toNat,?_,?_,?_⟩;(·rw [iw];simp only [Builtin.firstCells];rw [show s.extract 0 s.size=s from ByteArray.extract_zero_size];rfl);(·simp [jB]);intro i row hi;unfold jB at hi;rw [aq,dJ] at hi;cases hb:s.data[i]? with|none=>rw [hb] at hi;simp at hi|some b =>rw [hb] at hi;simp only [b9,aB] at hi;subst hi;refine⟨rfl,fun j c hj=>?_⟩;cases j with|succ j=>simp [V.cells] at hj|zero =>simp only [V.cells,aF,aB] at hj;subst hj;refine⟨.int .u8 (b.toNat:Int),?_,rfl,.sc _ _⟩;dsimp only;rw [rq,jW,at7,hb];rfl);cases h);cases h
 cases h
def ix (mem:List bf) (size:Nat):V→Option (Option (Nat×Nat)×List V)
 | .sc (.slice none 0 0)=>some (none,[])
 | .full rows=>if jZ rows 0 size=true then some (none,rows) else none
 | .ms b v 0 l=>match mem[b]? with
  | some (.rows v' e rs)=>if v'=v∧e=size∧rs.length=l then some (some (b,v),rs) else none
  | _=>none
 | _=>none
def FH:V→List V→Bool
 | .full _,[]=>false
 | _,_=>true
theorem zX (b v s l:Nat) (xs:List V):FH (.ms b v s l) xs=true:=rfl
theorem Pn (v:Value) (xs:List V):FH (.sc v) xs=true:=rfl
theorem Iy (v x:V) (xs:List V):FH v (x :: xs)=true:=by cases v <;> rfl
def eM (tt:Table) (mem:List bf) (ts:List TypeId) (s x:V):Option (Nat×Option (Nat×Nat)×List V) :=
 match ts with
 | [t,u]=>match tt t with
  | some it=>match it.elem with
   | some e=>match tt e with
     | some i =>
      if 0<i.size∧i.bytes≤4096∧i.zero.length=i.size then
       match ix mem i.size s with
       | some (rH,rs)=>match rG tt mem u i.size x with
        | some xs=>if rs.length+xs.length≤34359738368 then (if FH s xs=true then some (i.size,rH,rs++xs) else none) else none
        | none=>none
       | none=>none
      else none
     | none=>none
   | none=>none
  | none=>none
 | _=>none
def ew (mem:List bf) (key size:Nat) (rows:List V):Option (Nat×Nat)→List bf×V
 | none=>(da mem key (.rows 0 size rows),.ms key 0 0 rows.length)
 | some (b,v)=>(mem.set b (.rows (v+1) size rows),.ms b (v+1) 0 rows.length)
theorem c5.renew {E:Env} {w w':World} {a:Act} {st:St} (hs:c5 E w a st) {b v e0 g e c:Nat} {rs rows:List V} (hm:st.mem[b]?=some (.rows v e0 rs)) (hF:∀ ad x,E.F ad=some x→w'.cell? ad=some x) (iw:w.heap.size≤w'.heap.size)
  (hg:g<w'.heap.size) (YK:∀ k B',k≠b→st.mem[k]?=some B'→B'.held=true→∀ g' e' c',E.cn k B'.dI=some (g',e',c')→w'.heap[g']?=w.heap[g']?∧g'≠g)
  (hB:kc (E.with b (v+1) (g,e,c)) w' b (.rows (v+1) e rows)) (y8:∀ k v' e' c',E.cn k v'=some (g,e',c')→k=b):c5 (E.with b (v+1) (g,e,c)) w' a { st with mem:=st.mem.set b (.rows (v+1) e rows) }:=by
 have hn:∀ v',v<v'→E.cn b v'=none:=fun v' zO=>hs.dI b _ hm v' zO;have hle:E.le (E.with b (v+1) (g,e,c)):=Env.mg (hn _ (nU v)) _;have eS:(E.with b (v+1) (g,e,c)).cn b (v+1)=some (g,e,c):=if_pos ⟨rfl,rfl⟩;have gj:∀ k v',¬ (k=b∧v'=v+1)→(E.with b (v+1) (g,e,c)).cn k v'=E.cn k v':=fun k v' dy=>if_neg dy;have tU:∀ k v',k≠b→(E.with b (v+1) (g,e,c)).cn k v'=E.cn k v':=fun k v' dy=>gj k v' fun h=>dy h.1;have bQ:b<st.mem.length:=(aA.1 hm).1;have kV:∀ (k:Nat) (B:bf),(st.mem.set b (.rows (v+1) e rows))[k]?=some B→(k=b∧B = .rows (v+1) e rows)∨(k≠b∧st.mem[k]?=some B):=fun k B hk=>by rw [bR] at hk;by_cases j2:b=k;(·subst j2;simp only [if_true,bQ] at hk;cases hk;exact .inl ⟨rfl,rfl⟩);rw [if_neg j2] at hk;exact .inr ⟨fun e=>j2 e.symm,hk⟩
 refine⟨hF,fun k v' g' e' c' hb=>?_,fun k B hk=>?_,fun k hk v'=>?_,fun k B hk v' zO=>?_,fun k k' v1 v2 g' e1 c1 e2 c2 h5 h6=>?_,hs.fr.mono hle⟩;·by_cases hq:k=b∧v'=v+1;(·obtain⟨rfl,rfl⟩:=hq;rw [eS] at hb;cases hb;exact hg);rw [gj k v' hq] at hb;exact qJ (hs.lt _ _ _ _ _ hb) iw
 ·(rcases kV k B hk with ⟨rfl,rfl⟩|⟨j2,lj⟩);(·exact hB);cases ON:B.held with|false =>(have:=hs.mem k B lj;cases B with|hole=>(exact fun v'=>by rw [tU k v' j2];exact this v')|dead=>trivial|_=>simp [bf.held] at ON)|true=>exact (hs.mem k B lj).mono hle (fun v' h=>by rw [tU k v' j2];exact h) (fun g' e' c' fg=>(YK k B j2 lj ON g' e' c' fg).1) fun _ _ _ _ _ h=>h
 ·(have lj:st.mem.length≤k:=by simpa using hk);rw [tU k v' (by omega)];exact hs.top k lj v'
 ·(rcases kV k B hk with ⟨rfl,rfl⟩|⟨j2,lj⟩);(·have:v+1<v':=zO;rw [gj k v' (by omega)];exact hn v' (by omega));rw [tU k v' j2];exact hs.dI k B lj v' zO
 by_cases hq:k=b∧v1=v+1 <;> by_cases TW:k'=b∧v2=v+1;·rw [hq.1,TW.1]
 ·obtain⟨rfl,rfl⟩:=hq;rw [eS] at h5;cases h5;rw [gj k' _ TW] at h6;exact (y8 _ _ _ _ h6).symm
 ·obtain⟨rfl,rfl⟩:=TW;rw [eS] at h6;cases h6;rw [gj k _ hq] at h5;exact y8 _ _ _ _ h5
 rw [gj k _ hq] at h5;rw [gj k' _ TW] at h6;exact hs.apart _ _ _ _ _ _ _ _ _ h5 h6
theorem c5.FI {E:Env} {w:World} {a:Act} {st:St} (hs:c5 E w a st) {b v e0 e:Nat} {rs:List V} (hm:st.mem[b]?=some (.rows v e0 rs)):c5 E w a { st with mem:=st.mem.set b (.rows (v+1) e []) }:=by
 have hn:∀ v',v<v'→E.cn b v'=none:=fun v' zO=>hs.dI b _ hm v' zO;have bQ:b<st.mem.length:=(aA.1 hm).1;have kV:∀ (k:Nat) (B:bf),(st.mem.set b (.rows (v+1) e []))[k]?=some B→(k=b∧B = .rows (v+1) e [])∨(k≠b∧st.mem[k]?=some B):=fun k B hk=>by rw [bR] at hk;by_cases j2:b=k;(·subst j2;simp only [if_true,bQ] at hk;cases hk;exact .inl ⟨rfl,rfl⟩);rw [if_neg j2] at hk;exact .inr ⟨fun e=>j2 e.symm,hk⟩
 refine⟨hs.F,hs.lt,fun k B hk=>?_,fun k hk v'=>hs.top k (by simpa using hk) v',fun k B hk v' zO=>?_,hs.apart,hs.fr⟩;·(rcases kV k B hk with ⟨rfl,rfl⟩|⟨j2,lj⟩);(·exact .inl ⟨rfl,hn _ (nU v)⟩);exact hs.mem k B lj
 rcases kV k B hk with ⟨rfl,rfl⟩|⟨j2,lj⟩
 ·exact hn v' (Nat.lt_of_succ_lt zO)
 exact hs.dI k B lj v' zO
theorem mh {E:Env} {e:Nat} {rs xs:List V} {A B C:Array Value} (h1:ve E e rs A) (h2:ve E e xs B):lY E e (rs++xs) (fun o=>(A++B++C)[o]?):=by
 intro i row hi;rw [n6] at hi;split at hi;·rename_i bQ;obtain⟨h3,h4⟩:=h1.2 i row hi;refine⟨h3,fun j c hj=>?_⟩;obtain⟨x,hx,hr⟩:=h4 j c hj;dsimp only at hx;have YL:i*e+j<A.size:=(dw.1 hx).1;refine⟨x,?_,hr⟩;dsimp only;rw [auI,aum YL,hx]
 rename_i jL;obtain⟨h3,h4⟩:=h2.2 (i-rs.length) row hi;refine⟨h3,fun j c hj=>?_⟩;obtain⟨x,hx,hr⟩:=h4 j c hj;dsimp only at hx;have YL:(i-rs.length)*e+j<B.size:=(dw.1 hx).1;refine⟨x,?_,hr⟩;dsimp only;have hmul:i*e=A.size+(i-rs.length)*e:=by rw [h1.1,← iJ];congr 1;omega
 rw [auI,auZ (by omega),aum (by omega),← hx];congr 1;omega
theorem DS {E:Env} {b v s l:Nat} {x:Value} (h:cT E (.ms b v s l) x):(l=0∧x = .slice none 0 0) ∨
  ∃ g e c a cap,x = .slice a l cap∧E.cn b v=some (g,e,c)∧(0<l→a=some ⟨g,s*e,none⟩)∧(s=0→a=some ⟨g,0,none⟩∧cap=c)∧(l≤cap∧s+cap=c∧(0<cap→a=some ⟨g,s*e,none⟩)):=by cases h with|iv=>exact .inl ⟨rfl,rfl⟩|ms _ _ _ _ _ g e c a cap hb hl h0 hc=>exact .inr ⟨g,e,c,a,cap,rfl,hb,hl,h0,hc⟩
theorem x5 {E:Env} {e:Nat} {xs:List V} {A:Array Value} (zY:0<e) (h:ve E e xs A):∀ v∈A.toList,v.oneCell'=true:=by
 intro v hv;obtain⟨q,hq,rfl⟩:=List.mem_iff_getElem.1 hv;have TW:q<xs.length*e:=by rw [← h.1];simpa using hq
 have hiq:q / e<xs.length:=by rwa [auR zY]
 have oJ:=au hiq;obtain⟨aj1,pj⟩:=h.2 _ _ oJ;obtain⟨vv,YM,Ib,-⟩:=pj (q % e) _ (au (by rw [aj1];exact atE _ zY));dsimp only at YM;rw [Nat.mul_comm,auq] at YM;have:A.toList[q]=vv:=by (have mi:q<A.size:=by simpa using hq);rw [bP mi] at YM;simpa using YM
 rw [this];exact Ib
theorem oM {P:Program} {tt:Table} (ht:TT P tt) {E:Env} {w:World} {a:Act} {st:St} (hs:c5 E w a st) {ts:Array TypeId} {ty:TypeId} {s x:V} {y z:Value} {size:Nat} {rH:Option (Nat×Nat)} {rows:List V} {key:Nat}
  (hk:ir st.mem key) (uv:cT E s y) (Pg:cT E x z) (h:eM tt st.mem ts.toList s x=some (size,rH,rows)) :
  ∃ v w' E',(Builtin.append_ ts ty #[y,z]).run P w = .ok v w'∧c5 E' w' a { st with mem:=(ew st.mem key size rows rH).1 }∧gK E w E' w'∧cT E' (ew st.mem key size rows rH).2 v:=by
 unfold eM at h;split at h
 ·rename_i t u BV;obtain rfl:ts = #[t,u]:=by rw [← cr (xs:=ts),BV]
  split at h
  ·rename_i it hT;split at h
   ·rename_i e he
    first
    |skip
     split at h
     ·rename_i i hE
      split at h
      ·rename_i hc
       obtain⟨zY,zZ,CG⟩:=hc
       split at h
       ·rename_i apC rs mZ
        split at h
        ·rename_i xs rj
         split at h
         ·rename_i hlen
          split at h
          case isFalse=>cases h
          rename_i aj2
          simp only [aB,dn] at h
          obtain⟨rfl,rfl,rfl⟩:=h
          obtain⟨d,hd,-,uZ,-⟩:=ht.desc t it hT
          obtain rfl:=uZ e he
          obtain⟨info,wW,OO,Uo,z0,YN,hz1⟩:=ht.size e i hE
          have Po:z0.cells.size=info.size:=by rw [OO,← CG,← hz1];simp
          rw [← OO] at rj mZ zY ⊢
          rw [← Uo] at zZ
          have WM:c5 E w.drew a st:=hs.drew
          obtain⟨Ic,xA,qO,rk⟩:=x4 ht hs Pg rj
          obtain⟨-,xB,YO,YP⟩:=x4 ht WM Pg rj
          have Ix:∀ gp,gp<rs.length+xs.length→Builtin.nextslicecap (rs.length+xs.length) gp*info.bytes≤281474976710656:=fun gp bQ =>
           growslice_fits bQ (fU (aun hlen zZ) (by decide))
          have KJ:(rs++xs).length=rs.length+xs.length:=by simp
          have jL:∀ gp,rs.length+xs.length≤grownCap w (rs.length+xs.length) gp e:=fun gp=>grownCap_ge w (rs.length+xs.length) gp e
          have rI:∀ (gp:Nat) (A:Array Value),ve E.pure info.size rs A→(A++xB++Builtin.zeroCells z0.cells (grownCap w (rs.length+xs.length) gp e-(rs.length+xs.length))).size=grownCap w (rs.length+xs.length) gp e*info.size:=fun gp A hrA=>by
           simp only [adV,size_zeroCells,Po,hrA.1,YP.1,← iJ]
           congr 1;have:=jL gp;omega
          unfold ix at mZ
          split at mZ
          ·
           simp only [aB,dn] at mZ
           obtain⟨rfl,rfl⟩:=mZ
           obtain rfl:=eT uv
           by_cases h0:xs.length=0
           ·have ad3:xs=[]:=cb.1 h0
            subst ad3
            exact⟨_,w,E,nF (ty:=ty) hd wW Ic xA qO,hs.Uk hk info.size,gK.refl E w,.iv _ _ _ _⟩
           have eQ:=mK (ty:=ty) hd wW YN none 0 0 xs.length Ic #[] xB rfl YO (by omega) (by omega) (Ix 0 (by simp;omega))
           obtain⟨E',h5,h6,h7⟩:=c5.u6 WM (key:=key) hk (xs := #[]++xB++Builtin.zeroCells z0.cells (grownCap w (([]:List V).length+xs.length) 0 e-(([]:List V).length+xs.length))) (rs:=[]++xs) (e:=info.size)
            (c:=grownCap w (([]:List V).length+xs.length) 0 e) e (rI 0 #[] ⟨by simp,fun i row hi=>by simp at hi⟩) (by rw [KJ];exact jL 0) (mh ⟨by simp,fun i row hi=>by simp at hi⟩ YP)
           refine⟨_,_,E',eQ,h5,(gK.drew E w).trans h6,?_⟩
           simp only [ew]
           rw [KJ] at h7 ⊢
           exact h7
          ·
           rename_i nE
           split at mZ
           case isFalse=>cases mZ
           rename_i w5
           simp only [aB,dn] at mZ
           obtain⟨rfl,rfl⟩:=mZ
           have KG:0<xs.length:=by
            cases xs with
            | nil=>simp [FH] at aj2
            | cons _ _=>simp
           cases uv with
           | full _ _ sa uv =>
           have YF:rowsOf st.mem info.size (.slice nE)=some nE:=by simp only [rowsOf];rw [if_pos w5]
           obtain⟨sa',sc,heq,hsc,A,Fh,FJ⟩:=j3 (P:=P) WM uv YF
           simp only [Value.slice.injEq] at heq
           obtain⟨rfl,-,rfl⟩:=heq
           have eQ:=mK (ty:=ty) hd wW YN sa nE.length nE.length xs.length Ic A xB Fh YO (by omega) (by omega) (Ix _ (by omega))
           obtain⟨E',h5,h6,h7⟩:=c5.u6 WM (key:=key) hk (xs:=A++xB++Builtin.zeroCells z0.cells (grownCap w (nE.length+xs.length) nE.length e-(nE.length+xs.length))) (rs:=nE++xs) (e:=info.size)
            (c:=grownCap w (nE.length+xs.length) nE.length e) e (rI nE.length A FJ) (by rw [KJ];exact jL _) (mh FJ YP)
           refine⟨_,_,E',eQ,h5,(gK.drew E w).trans h6,?_⟩
           simp only [ew]
           rw [KJ] at h7 ⊢
           exact h7
          ·rename_i b v l
           split at mZ
           ·rename_i v' eb mv hm
            split at mZ
            ·rename_i KK
             obtain⟨rfl,rfl,TX⟩:=KK
             simp only [aB,dn] at mZ
             obtain⟨rfl,rfl⟩:=mZ
             have YF:rowsOf st.mem info.size (.ms b v' 0 l)=some mv:=by
              simp [rowsOf,hm,TX]
              rw [← TX];simp
             obtain⟨sa,sc,rfl,hsc,A,Fh,FJ⟩:=j3 (P:=P) WM uv YF
             simp only [ew]
             by_cases vg:mv.length+xs.length≤sc
             ·
              rcases DS uv with ⟨BU,Pp⟩|⟨g,eb',c,sa',sc',Pp,hb,hl,TU,u0⟩
              ·simp only [Value.slice.injEq] at Pp
               obtain⟨rfl,aj3,rfl⟩:=Pp
               have KG:xs=[]:=cb.1 (by omega)
               have vh:mv=[]:=cb.1 (by omega)
               subst KG;subst vh
               exact⟨_,w,E,nF (ty:=ty) hd wW Ic xA qO,hs.FI hm,gK.refl E w,.iv _ _ _ _⟩
              simp only [Value.slice.injEq] at Pp
              obtain⟨rfl,-,rfl⟩:=Pp
              obtain⟨rfl,hce⟩:=TU rfl
              have aj4:=hce.symm
              subst aj4
              rcases hs.mem b _ hm with ⟨-,hn⟩|⟨g',T',cur,c',fR,hh,mc,mf,CD,hf⟩
              ·rw [hb] at hn;cases hn
              rw [hb] at fR;cases fR
              have z1:mv.length*info.size+xA.toList.length≤cur.size:=by
               have:=rk.1
               simp only [fA]
               rw [this,mc,← iJ];exact kL _ vg
              obtain⟨w',uo,Ia,Cd⟩:=kF (P:=P) (g:=g) (T:=T') (mv.length*info.size) xA.toList 0 w cur hh (by simpa using z1) (x5 zY rk)
              have eQ:=yM (ty:=ty) hd wW g mv.length c xs.length Ic xA qO vg uo
              have hle:E.le (E.with b (v'+1) (g,info.size,c)):=Env.mg (hs.dI b _ hm _ (nU v')) _
              have eS:(E.with b (v'+1) (g,info.size,c)).cn b (v'+1)=some (g,info.size,c):=if_pos ⟨rfl,rfl⟩
              refine⟨_,w',E.with b (v'+1) (g,info.size,c),eQ,hs.renew hm (fun ad y hy=>?_) (by rw [Cd.size];exact ay _) (by rw [Cd.size];exact hs.lt _ _ _ _ _ hb) (fun k B' j2 lj Ie g' e' c' fg=>?_) ?_ (fun k v2 e2 c2 h=>hs.apart _ _ _ _ _ _ _ _ _ h hb),
               ⟨hle,fun k q g' e' c' j2=>?_,fun ad y hy=>.inl hy,Cd.os,Cd.tape,Cd.output,by rw [Cd.size];exact ay _,fun b' fR dy=>Cd.heap b' fun e=>by subst e;exact dy _ _ _ _ hb⟩,?_⟩
              ·have dy:=hs.DL hf hy
               rw [← hs.F ad y hy];simp [World.cell?,Cd.heap _ dy]
              ·have hgg:g'≠g:=fun e=>by
                subst e
                exact j2 (hs.apart _ _ _ _ _ _ _ _ _ fg hb)
               exact⟨Cd.heap _ hgg,hgg⟩
              ·refine .inr ⟨g,T',_,c,eS,Ia,by rw [lq];exact mc,by rw [KJ];exact vg,?_,hf⟩
               intro q row hq
               simp only [jW]
               have hxl:xA.toList.length=xs.length*info.size:=by simpa using rk.1
               rw [n6] at hq
               split at hq
               ·rename_i bQ
                obtain⟨h3,h4⟩:=CD q row hq
                refine⟨h3,fun j cc hj=>?_⟩
                obtain⟨v,hv,Ib,FK⟩:=h4 j cc hj
                have H8:j<info.size:=by rw [← h3];exact (aA.1 hj).1
                refine⟨v,?_,Ib,FK⟩
                rw [jM _ _ _ _ z1,if_neg (by have:=zV bQ H8;omega)]
                exact hv
               rename_i aj6
               obtain⟨h3,h4⟩:=rk.2 _ row hq
               refine⟨h3,fun j cc hj=>?_⟩
               obtain⟨v,hv,Ib,FK⟩:=h4 j cc hj
               have H8:j<info.size:=by rw [← h3];exact (aA.1 hj).1
               have BW:q-mv.length<xs.length:=(aA.1 hq).1
               have hmul:q*info.size=mv.length*info.size+(q-mv.length)*info.size:=by rw [← iJ];congr 1;omega
               refine⟨v,?_,Ib,FK⟩
               rw [jM _ _ _ _ z1,if_pos (by have:=zV BW H8;omega)]
               dsimp only at hv
               rw [← hv,dJ]
               congr 1;omega
              ·by_cases hq:k=b∧q=v'+1
               ·obtain⟨rfl,rfl⟩:=hq;rw [eS] at j2;cases j2;exact .inl ⟨_,_,_,_,hb⟩
               have:(E.with b (v'+1) (g,info.size,c)).cn k q=E.cn k q:=if_neg hq
               rw [this] at j2;exact .inl ⟨_,_,_,_,j2⟩
              rw [KJ]
              exact .ms _ _ _ _ _ g info.size c _ _ eS (fun _=>by simp) (fun _=>⟨rfl,rfl⟩) ⟨vg,dL _,fun _=>by simp⟩
             have bQ:sc<mv.length+xs.length:=by omega
             have eQ:=mK (ty:=ty) hd wW YN sa mv.length sc xs.length Ic A xB Fh YO bQ (by omega) (Ix sc bQ)
             have hle:E.le (E.with b (v'+1) (w.heap.size,info.size,grownCap w (mv.length+xs.length) sc e)):=Env.mg (hs.dI b _ hm _ (nU v')) _
             have eS:(E.with b (v'+1) (w.heap.size,info.size,grownCap w (mv.length+xs.length) sc e)).cn b (v'+1)=some (w.heap.size,info.size,grownCap w (mv.length+xs.length) sc e):=if_pos ⟨rfl,rfl⟩
             refine⟨_,_,E.with b (v'+1) (w.heap.size,info.size,grownCap w (mv.length+xs.length) sc e),eQ,hs.renew hm (fun ad y hy=>?_) (by simp) (by simp) (fun k B' j2 lj Ie g' e' c' fg=>?_) ?_ (fun k v2 e2 c2 h=>absurd (hs.lt _ _ _ _ _ h) (apq _)),
              ⟨hle,fun k q g' e' c' j2=>?_,fun ad y hy=>.inl hy,rfl,rfl,rfl,by simp,fun b' fR dy=>dP w.drew _ b' fR⟩,?_⟩
             ·rw [World.cell?_alloc_lt w.drew _ ad (World.block_lt_of_cell? w ad (hs.F ad y hy))];exact hs.F ad y hy
             ·have:=hs.lt _ _ _ _ _ fg
              exact⟨dP w.drew _ g' this,by omega⟩
             ·refine .inr ⟨w.heap.size,e,_,_,eS,heap_alloc_new w.drew _,rI sc A FJ,by rw [KJ];exact jL sc,?_,fun o=>?_⟩
              ·intro q row hq
               obtain⟨h3,h4⟩:=mh (C:=Builtin.zeroCells z0.cells (grownCap w (mv.length+xs.length) sc e-(mv.length+xs.length))) FJ YP q row hq
               exact⟨h3,fun j cc hj=>let ⟨v,hv,Ib,FK⟩:=h4 j cc hj;⟨v,hv,Ib,FK.mono (Env.kC hle)⟩⟩
              show E.F _=none
              cases hx:E.F ⟨w.heap.size,o,none⟩ with
              | none=>rfl
              | some x=>have:=World.block_lt_of_cell? w _ (hs.F _ _ hx);simp at this
             ·by_cases hq:k=b∧q=v'+1
              ·obtain⟨rfl,rfl⟩:=hq;rw [eS] at j2;cases j2;exact .inr (ay _)
              have:(E.with b (v'+1) (w.heap.size,info.size,grownCap w (mv.length+xs.length) sc e)).cn k q=E.cn k q:=if_neg hq
              rw [this] at j2;exact .inl ⟨_,_,_,_,j2⟩
             rw [KJ]
             exact .ms _ _ _ _ _ w.heap.size info.size _ _ _ eS (fun _=>by simp) (fun _=>⟨rfl,rfl⟩) ⟨jL sc,dL _,fun _=>by simp⟩
            simp at mZ
           simp at mZ
          simp at mZ
         simp at h
        simp at h
       simp at h
      simp at h
     simp at h
   simp at h
  simp at h
 simp at h
end Go.Eng
end
section
namespace Go.Eng
variable [ba]
theorem fQ.set {E:Env} {dx:List (Value×Nat×V)} {es:List MapEntry} (h:fQ E dx es) (i:Nat) {kb:Value×Nat×V} {e:MapEntry} (h1:e.key=kb.1) (h2:e.born=kb.2.1) (h3:cT E kb.2.2 e.val):fQ E (dx.set i kb) (es.set i e):=by
  refine⟨by simp [h.1],fun j k e' hk he=>?_⟩;by_cases Ig:i=j;·subst Ig;rw [bR] at hk he;simp only [if_true] at hk he;split at hk;(·split at he;(·cases hk;cases he;exact⟨h1,h2,h3⟩);·cases he);·cases hk
  ·rw [cD Ig] at hk he;exact h.2 j k e' hk he
theorem fQ.push {E:Env} {dx:List (Value×Nat×V)} {es:List MapEntry} (h:fQ E dx es) {kb:Value×Nat×V} {e:MapEntry} (h1:e.key=kb.1) (h2:e.born=kb.2.1) (h3:cT E kb.2.2 e.val):fQ E (dx++[kb]) (es++[e]):=by
  refine⟨by simp [h.1],fun j k e' hk he=>?_⟩;by_cases hj:j<dx.length;·rw [bh hj] at hk;rw [bh (by have:=h.1;omega)] at he;exact h.2 j k e' hk he
  ·rw [aX (by omega)] at hk;rw [aX (by have:=h.1;omega)] at he;rw [h.1] at hk;cases hd:j-es.length with|zero=>rw [hd] at hk he;simp at hk he;subst hk;subst he;exact⟨h1,h2,h3⟩|succ n=>rw [hd] at hk;simp at hk
theorem fQ.erase {E:Env}:∀ {dx:List (Value×Nat×V)} {es:List MapEntry},fQ E dx es→∀ (i:Nat),fQ E (dx.eraseIdx i) (es.eraseIdx i)
  | [],es,h,i=>by rw [h.of_nil];exact⟨rfl,fun j k e hk=>by simp at hk⟩
  | k :: r,es,h,i=>by
    obtain⟨e,es',rfl,h1,h2,h3,h4⟩:=h.of_cons
    cases i with
    | zero=>exact h4
    | succ i =>
      have h5:=fQ.erase h4 i
      simp only [List.eraseIdx_cons_succ]
      refine⟨by simp [h5.1],fun j k' e' hk he=>?_⟩
      cases j with
      | zero=>simp at hk he;subst hk;subst he;exact⟨h1,h2,h3⟩
      | succ j=>exact h5.2 j k' e' (by simpa using hk) (by simpa using he)
def insertAt (P:Program) (kt:TypeId) (key:Value) (v:V) (dx:List (Value×Nat×V)) (clock:Nat):Option (List (Value×Nat×V)×Nat) :=
  match pe P kt key dx with
  | some (some (i,_))=>match dx[i]? with
    | some e=>if Instr.sameBits 10000 e.1 key=true then some (dx.set i (key,e.2.1,v),clock) else none
    | none=>none
  | some none=>some (dx++[(key,clock,v)],clock+1)
  | none=>none
def dB (P:Program) (mem:List bf) (T:TypeId) (m k v:V):Option (List bf) :=
  match iQ P T with
  | some (kt,_)=>match fa k with
    | some key=>if tS P kt key=true then
        match m with
        | .mp b=>match mem[b]? with
          | some (.map dx clock)=>match insertAt P kt key v dx clock with
            | some (kvs',clock')=>some (mem.set b (.map kvs' clock'))
            | none=>none
          | _=>none
        | _=>none
      else none
    | none=>none
  | none=>none
def KL (P:Program) (kt et:TypeId) (key:Value) (dx:List (Value×Nat×V)) (clock:Nat):Option (List (Value×Nat×V)×Nat×V) :=
  match pe P kt key dx with
  | some (some (i,v))=>match dx[i]? with
    | some e=>if Instr.sameBits 10000 e.1 key=true then some (dx.set i (key,e.2.1,e.2.2),clock,.dR [v,.sc (.int .i64 e.2.1)]) else none
    | none=>none
  | some none=>match zeroV P et with
    | some z=>some (dx++[(key,clock,z)],clock+1,.dR [z,.sc (.int .i64 clock)])
    | none=>none
  | none=>none
def w7 (P:Program) (mem:List bf) (T:TypeId) (m k:V):Option (List bf×V) :=
  match iQ P T with
  | some (kt,et)=>match fa k with
    | some key=>if tS P kt key=true then
        match m with
        | .mp b=>match mem[b]? with
          | some (.map dx clock)=>match KL P kt et key dx clock with
            | some (kvs',clock',v)=>some (mem.set b (.map kvs' clock'),v)
            | none=>none
          | _=>none
        | _=>none
      else none
    | none=>none
  | none=>none
def w8 (mem:List bf) (m s v:V):Option (List bf) :=
  match m,s with
  | .mp b,.sc (.int _ n)=>match mem[b]? with
    | some (.map dx clock)=>match dx.findIdx? (fun e=>(e.2.1:Int)==n) with
      | some i=>match dx[i]? with
        | some e=>some (mem.set b (.map (dx.set i (e.1,e.2.1,v)) clock))
        | none=>none
      | none=>none
    | _=>none
  | _,_=>none
def tb (P:Program) (mem:List bf) (ts:Array TypeId):List V→Option (List bf)
  | [.mp b,k]=>match ts[0]? with
    | some T=>match iQ P T with
      | some (kt,_)=>match fa k with
        | some key=>if tS P kt key=true then
            match mem[b]? with
            | some (.map dx clock)=>match pe P kt key dx with
              | some (some (i,_))=>some (mem.set b (.map (dx.eraseIdx i) clock))
              | some none=>some (mem.set b (.map dx clock))
              | none=>none
            | _=>none
          else none
        | none=>none
      | none=>none
    | none=>none
  | _=>none
theorem rJ {w:World} {g:Nat} {o:Obj}:od w { w with heap:=w.heap.setIfInBounds g o } g :=
  ⟨rfl,rfl,rfl,by simp,fun b hb=>Du (fun e=>hb e.symm)⟩
theorem heap_set {w:World} {g:Nat} {o o':Obj} (h:w.heap[g]?=some o):({ w with heap:=w.heap.setIfInBounds g o' }:World).heap[g]?=some o':=by
  have:g<w.heap.size:=by (rcases bS g w.heap.size with h1|h1);(·exact h1);·rw [atF h1] at h;cases h
  simp [this]
theorem c5.qg {E:Env} {w:World} {a:Act} {st:St} (hs:c5 E w a st) {b g e c:Nat} {dx kvs':List (Value×Nat×V)} {clock clock':Nat} {es es':Array MapEntry} (hm:st.mem[b]?=some (.map dx clock)) (hb:E.cn b 0=some (g,e,c)) (hh:w.heap[g]?=some (.map es clock))
    (hf:∀ o,E.F ⟨g,o,none⟩=none) (hr:fQ E kvs' es'.toList) :
    c5 E { w with heap:=w.heap.setIfInBounds g (.map es' clock') } a { st with mem:=st.mem.set b (.map kvs' clock') }∧gK E w E { w with heap:=w.heap.setIfInBounds g (.map es' clock') }:=by obtain⟨-,-,-,-,h0⟩:=me hs hm hb;cases h0;exact hs.zU hm rfl (B':=.map kvs' clock') rfl hb hf rJ ⟨g,es',hb,heap_set hh,hr,hf⟩
theorem uw {es:Array MapEntry} {i:Nat} {e:MapEntry} (h:es[i]?=some e) (f:MapEntry→MapEntry):(es.modify i f).toList=es.toList.set i (f e):=by
  apply dC;intro j;rw [dJ,atD,bR];by_cases Ig:i=j;·subst Ig;have:i<es.size:=(dw.1 h).1;have he:es[i]=e:=(dw.1 h).2;simp [this,he]
  ·simp [Ig]
theorem CH {P:Program} {w:World} {rH new:Value} (h:Instr.sameBits 10000 rH new=true):(Instr.keyThatStays rH new).run P w = .ok new w:=by simp [Instr.keyThatStays,h]
theorem tY {P:Program} {E:Env} {w:World} {a:Act} {st:St} (hs:c5 E w a st) {T:TypeId} {m k v:V} {x y z:Value} {bI:List bf} (hm:cT E m x) (hk:cT E k y) (hv:cT E v z) (h:dB P st.mem T m k v=some bI) :
    ∃ w',(Instr.mapUpdate T x y z).run P w = .ok () w'∧c5 E w' a { st with mem:=bI }∧gK E w E w':=by
  unfold dB at h;split at h;·rename_i kt et hd;have hd:=kE hd;split at h;(·rename_i key eS;cases jY hk eS;split at h;(·rename_i jH;have OM:=fun b=>oc jH b w;split at h;(·rename_i b;obtain⟨g,e,c,rfl,hb⟩:=um hm;split at h;(·rename_i dx clock hB;obtain⟨es,hh,hr,hf,-⟩:=me hs hB hb;split at h;(·rename_i kvs' clock' hi;cases h;unfold insertAt at hi;split at hi;(·rename_i i u Pq;obtain⟨r',h1,h2⟩:=gO hr w Pq;match r',h2 with|some (j',z'),h2 =>obtain⟨rfl,h3,kb,en,h4,h5,h6,h7⟩:=h2;(have YQ:es[i]?=some en:=by simpa using h5);split at hi;(·rename_i kb' j2;rw [j2] at h4;cases h4;split at hi;(·rename_i Pr;cases hi;obtain⟨p1,p2,p3⟩:=hr.2 i _ _ j2 h5;(have eQ:(Instr.mapUpdate T (.map (some g)) y z).run P w = .ok () { w with heap:=w.heap.setIfInBounds g (.map (es.modify i fun e => { e with key:=y,val:=z }) clock) }:=by have:=iR (P:=P) (o':=.map (es.modify i fun e => { e with key:=y,val:=z }) clock) hh (by simp);simp [Instr.mapUpdate,aZ hd,fi hh,OM,h1,YQ,p1,CH Pr,this]);obtain⟨q1,q2⟩:=hs.qg hB hb hh hf (clock':=clock) (kvs':=dx.set i (y,kb.2.1,v)) (es':=es.modify i fun e => { e with key:=y,val:=z }) (by rw [uw YQ];exact hr.set i rfl p2 hv);exact⟨_,eQ,q1,q2⟩);·cases hi);·cases hi);(·rename_i Pq;obtain⟨r',h1,h2⟩:=gO hr w Pq;match r',h2 with|none,h2 =>cases hi;(have eQ:(Instr.mapUpdate T (.map (some g)) y z).run P w = .ok () { w with heap:=w.heap.setIfInBounds g (.map (es.push { key:=y,val:=z,born:=clock }) (clock+1)) }:=by have:=iR (P:=P) (o':=.map (es.push { key:=y,val:=z,born:=clock }) (clock+1)) hh (by simp);simp [Instr.mapUpdate,aZ hd,fi hh,OM,h1,this]);obtain⟨q1,q2⟩:=hs.qg hB hb hh hf (clock':=clock+1) (kvs':=dx++[(y,clock,v)]) (es':=es.push { key:=y,val:=z,born:=clock }) (by rw [auD];exact hr.push rfl rfl hv);exact⟨_,eQ,q1,q2⟩);·cases hi);·cases h);·cases h);·cases h);·cases h);·cases h
  ·cases h
theorem FL {E:Env} {v:V} {x:Value} (h:cT E v x) (n:Nat):cT E (.dR [v,.sc (.int .i64 n)]) (.tuple #[x,goInt n]):=by refine .dR _ _ _ rfl fun i c y hc hy=>?_;match i with|0=>simp at hc hy;subst hc;subst hy;exact h|1=>simp at hc hy;subst hc;subst hy;exact .sc _ _|i+2=>simp at hc
theorem DU {P:Program} {E:Env} {w:World} {a:Act} {st:St} (hs:c5 E w a st) {T:TypeId} {m k v:V} {x y:Value} {bI:List bf} (hm:cT E m x) (hk:cT E k y) (h:w7 P st.mem T m k=some (bI,v)) :
    ∃ z w',(Instr.mapEntry T x y).run P w = .ok z w'∧c5 E w' a { st with mem:=bI }∧gK E w E w'∧cT E v z:=by
  unfold w7 at h;split at h;·rename_i kt et hd;have hd:=kE hd;split at h;(·rename_i key eS;cases jY hk eS;split at h;(·rename_i jH;have OM:=fun b=>oc jH b w;split at h;(·rename_i b;obtain⟨g,e,c,rfl,hb⟩:=um hm;split at h;(·rename_i dx clock hB;obtain⟨es,hh,hr,hf,-⟩:=me hs hB hb;split at h;(·rename_i kvs' clock' v' hi;cases h;unfold KL at hi;split at hi;(·rename_i i u Pq;obtain⟨r',h1,h2⟩:=gO hr w Pq;match r',h2 with|some (j',z'),h2 =>obtain⟨rfl,h3,kb,en,h4,h5,h6,h7⟩:=h2;(have YQ:es[i]?=some en:=by simpa using h5);split at hi;(·rename_i kb' j2;rw [j2] at h4;cases h4;split at hi;(·rename_i Pr;cases hi;obtain⟨p1,p2,p3⟩:=hr.2 i _ _ j2 h5;(have eQ:(Instr.mapEntry T (.map (some g)) y).run P w = .ok (.tuple #[z',goInt en.born]) { w with heap:=w.heap.setIfInBounds g (.map (es.modify i fun e => { e with key:=y }) clock) }:=by have:=iR (P:=P) (o':=.map (es.modify i fun e => { e with key:=y }) clock) hh (by simp);simp [Instr.mapEntry,aZ hd,fi hh,OM,h1,YQ,p1,CH Pr,this]);obtain⟨q1,q2⟩:=hs.qg hB hb hh hf (clock':=clock) (kvs':=dx.set i (y,kb.2.1,kb.2.2)) (es':=es.modify i fun e => { e with key:=y }) (by rw [uw YQ];exact hr.set i rfl p2 p3);exact⟨_,_,eQ,q1,q2,by rw [p2];exact FL h3 _⟩);·cases hi);·cases hi);(·rename_i Pq;obtain⟨r',h1,h2⟩:=gO hr w Pq;match r',h2 with|none,h2 =>split at hi;(·rename_i z0 YN;cases hi;obtain⟨zz,h3,h4⟩:=rB YN E w;(have eQ:(Instr.mapEntry T (.map (some g)) y).run P w = .ok (.tuple #[zz,goInt clock]) { w with heap:=w.heap.setIfInBounds g (.map (es.push { key:=y,val:=zz,born:=clock }) (clock+1)) }:=by have:=iR (P:=P) (o':=.map (es.push { key:=y,val:=zz,born:=clock }) (clock+1)) hh (by simp);simp [Instr.mapEntry,aZ hd,fi hh,OM,h1,h3,this]);obtain⟨q1,q2⟩:=hs.qg hB hb hh hf (clock':=clock+1) (kvs':=dx++[(y,clock,z0)]) (es':=es.push { key:=y,val:=zz,born:=clock }) (by rw [auD];exact hr.push rfl rfl h4);exact⟨_,_,eQ,q1,q2,FL h4 _⟩);·cases hi);·cases hi);·cases h);·cases h);·cases h);·cases h);·cases h
  ·cases h
theorem x6 {E:Env} (n:Int):∀ {dx:List (Value×Nat×V)} {es:List MapEntry},fQ E dx es→dx.findIdx? (fun e=>(e.2.1:Int)==n)=es.findIdx? (fun e=>(e.born:Int)==n)
  | [],es,h=>by rw [h.of_nil];rfl
  | k :: r,es,h=>by
    obtain⟨e,es',rfl,h1,h2,h3,h4⟩:=h.of_cons
    rw [auJ,auJ,h2,x6 n h4]
theorem DV {P:Program} {E:Env} {w:World} {a:Act} {st:St} (hs:c5 E w a st) {T:TypeId} {m s v:V} {x y z:Value} {bI:List bf} (hm:cT E m x) (hk:cT E s y) (hv:cT E v z) (h:w8 st.mem m s v=some bI) :
    ∃ w',(Instr.entryStore T x y z).run P w = .ok () w'∧c5 E w' a { st with mem:=bI }∧gK E w E w':=by
  unfold w8 at h;split at h;·rename_i b k n;obtain⟨g,e,c,rfl,hb⟩:=um hm;obtain rfl:=s4 hk;split at h;(·rename_i dx clock hB;obtain⟨es,hh,hr,hf,-⟩:=me hs hB hb;split at h;(·rename_i i hi;split at h;(·rename_i kb j2;cases h;obtain⟨en,h5,p1,p2,p3⟩:=hr.get j2;(have YQ:es[i]?=some en:=by simpa using h5);(have YR:es.findIdx? (fun e=>(e.born:Int)==n)=some i:=by rw [x6 n hr,← List.findIdx?_toArray,cr] at hi;exact hi);(have eQ:(Instr.entryStore T (.map (some g)) (.int k n) z).run P w = .ok () { w with heap:=w.heap.setIfInBounds g (.map (es.modify i fun e => { e with val:=z }) clock) }:=by have:=iR (P:=P) (o':=.map (es.modify i fun e => { e with val:=z }) clock) hh (by simp);simp [Instr.entryStore,fi hh,asInt,asIntOf,YR,this]);obtain⟨q1,q2⟩:=hs.qg hB hb hh hf (clock':=clock) (kvs':=dx.set i (kb.1,kb.2.1,v)) (es':=es.modify i fun e => { e with val:=z }) (by rw [uw YQ];exact hr.set i p1 p2 hv);exact⟨_,eQ,q1,q2⟩);·cases h);·cases h);·cases h
  ·cases h
theorem Ce {P:Program} {E:Env} {w:World} {a:Act} {st:St} (hs:c5 E w a st) {ts:Array TypeId} {ty:TypeId} {xs:List V} {ys:Array Value} {bI:List bf} (hx:cU E xs ys.toList) (h:tb P st.mem ts xs=some bI) :
    ∃ w',(Builtin.delete_ ts ty ys).run P w = .ok (.tuple #[]) w'∧c5 E w' a { st with mem:=bI }∧gK E w E w':=by
  unfold tb at h;split at h;·rename_i b k;obtain⟨x,r,hy,Cb,hx⟩:=hx.of_cons;obtain⟨y,r2,hz,FM,hx⟩:=hx.of_cons;have:=hx.of_nil;subst this;subst hz;(obtain rfl:ys = #[x,y]:=by rw [← cr (xs:=ys),hy]);obtain⟨g,e,c,rfl,hb⟩:=um Cb;split at h;(·rename_i T h0;split at h;(·rename_i kt et hd;have hd:=kE hd;split at h;(·rename_i key eS;cases jY FM eS;split at h;(·rename_i jH;have OM:=fun b=>oc jH b w;split at h;(·rename_i dx clock hB;obtain⟨es,hh,hr,hf,-⟩:=me hs hB hb;split at h;(·rename_i i u Pq;cases h;obtain⟨r',h1,h2⟩:=gO hr w Pq;match r',h2 with|some (j',z'),h2 =>obtain⟨rfl,h3,kb,en,h4,h5,h6,h7⟩:=h2;(have eQ:(Builtin.delete_ ts ty #[.map (some g),y]).run P w = .ok (.tuple #[]) { w with heap:=w.heap.setIfInBounds g (.map (es.eraseIdxIfInBounds i) clock) }:=by have:=iR (P:=P) (o':=.map (es.eraseIdxIfInBounds i) clock) hh (by simp);simp [Builtin.delete_,h0,aZ hd,fi hh,OM,h1,this]);obtain⟨q1,q2⟩:=hs.qg hB hb hh hf (clock':=clock) (kvs':=dx.eraseIdx i) (es':=es.eraseIdxIfInBounds i) (by rw [Array.toList_eraseIdxIfInBounds];exact hr.erase i);exact⟨_,eQ,q1,q2⟩);(·rename_i Pq;cases h;obtain⟨r',h1,h2⟩:=gO hr w Pq;match r',h2 with|none,h2 =>(have eQ:(Builtin.delete_ ts ty #[.map (some g),y]).run P w = .ok (.tuple #[]) { w with heap:=w.heap.setIfInBounds g (.map es clock) }:=by have:=iR (P:=P) (o':=.map es clock) hh (by simp);simp [Builtin.delete_,h0,aZ hd,fi hh,OM,h1,this]);obtain⟨q1,q2⟩:=hs.qg hB hb hh hf (clock':=clock) (kvs':=dx) (es':=es) hr;exact⟨_,eQ,q1,q2⟩);·cases h);·cases h);·cases h);·cases h);·cases h);·cases h
  ·cases h
def leftOf (dx:List (Value×Nat×V)) (seen:List Nat):List (Value×Nat×V):=dx.filter fun e=>!seen.contains e.2.1
def z6 (dx:List (Value×Nat×V)) (seen:List Nat) (since:Nat):List (Value×Nat×V):=(leftOf dx seen).filter fun e=>e.2.1<since
def Ps (dx:List (Value×Nat×V)) (seen:List Nat) (since:Nat):List (Value×Nat×V):=(leftOf dx seen).filter fun e=>e.2.1≥since
def DW (dx:List (Value×Nat×V)) (seen:List Nat) (last:Nat):Bool:=!seen.isEmpty && !dx.isEmpty&&dx.all fun e=>e.2.1≥last
def z7:V:=.dR [.sc (.bool false)]
def Pt (e:Value×Nat×V):V:=.dR [.sc (.bool true),kf e.1,e.2.2]
def WN (s:ByteArray) (pos:Nat):V:=.dR [.sc (.bool true),.sc (.int .i64 pos),.sc (.int .i32 (Utf8.decode s pos).1)]
def vi (st:St) (dst:Option Tmp) (it:V) (str:Bool) (Q:St→Prop):Prop :=
  match it with
  | .ptr b 0=>match st.mem[b]? with
    | some (.jg m since seen last)=>match st.mem[m]? with
      | some (.map dx clock)=>str=false∧DW dx seen last=false∧(z6 dx seen since=[]→Q (st.put dst z7)) ∧
          ∀ e∈z6 dx seen since++Ps dx seen since,Q ({ st with mem:=st.mem.set b (.jg m since (seen++[e.2.1]) clock) }.put dst (Pt e))
      | _=>False
    | some (.mX s pos)=>str=true∧if pos<s.size then Q ({ st with mem:=st.mem.set b (.mX s (pos+(Utf8.decode s pos).2)) }.put dst (WN s pos)) else Q (st.put dst z7)
    | some .nC=>str=false∧Q (st.put dst z7)
    | _=>False
  | _=>False
theorem fQ.filter {E:Env} (p:Nat→Bool):∀ {dx:List (Value×Nat×V)} {es:List MapEntry},fQ E dx es→fQ E (dx.filter fun e=>p e.2.1) (es.filter fun e=>p e.born)
  | [],es,h=>by rw [h.of_nil];exact⟨rfl,fun j k e hk=>by simp at hk⟩
  | k :: r,es,h=>by
    obtain⟨e,es',rfl,h1,h2,h3,h4⟩:=h.of_cons
    have h5:=fQ.filter p h4
    simp only [List.filter_cons,h2]
    split
    · refine⟨by simp [h5.1],fun j k' e' hk he=>?_⟩
      cases j with
      | zero=>simp at hk he;subst hk;subst he;exact⟨h1,h2,h3⟩
      | succ j=>exact h5.2 j k' e' (by simpa using hk) (by simpa using he)
    · exact h5
theorem fQ.all {E:Env} (p:Nat→Bool):∀ {dx:List (Value×Nat×V)} {es:List MapEntry},fQ E dx es→(dx.all fun e=>p e.2.1)=es.all fun e=>p e.born
  | [],es,h=>by rw [h.of_nil];rfl
  | k :: r,es,h=>by
    obtain⟨e,es',rfl,h1,h2,h3,h4⟩:=h.of_cons
    simp only [cI,h2,fQ.all p h4]
theorem fQ.append {E:Env} {a b:List (Value×Nat×V)} {x y:List MapEntry} (h:fQ E a x) (k:fQ E b y):fQ E (a++b) (x++y):=by
  refine⟨by simp [h.1,k.1],fun j kk e hk he=>?_⟩;by_cases hj:j<a.length;·rw [bh hj] at hk;rw [bh (by have:=h.1;omega)] at he;exact h.2 j kk e hk he
  ·rw [aX (by omega)] at hk;rw [aX (by have:=h.1;omega)] at he;rw [h.1] at hk;exact k.2 _ kk e hk he
theorem Mz {E:Env} {k:Value×Nat×V} {e:MapEntry} (h1:e.key=k.1) (h3:cT E k.2.2 e.val):cT E (Pt k) (.tuple #[.bool true,e.key,e.val]):=by refine .dR _ _ _ rfl fun i c y hc hy=>?_;match i with|0=>simp at hc hy;subst hc;subst hy;exact .sc _ _|1=>simp at hc hy;subst hc;subst hy;rw [h1];exact kn E _|2=>simp at hc hy;subst hc;subst hy;exact h3|i+3=>simp at hc
theorem z8 {P:Program} {w:World} {n:Nat} (hn:0<n):∃ i w',(choose (.mapNext n)).run P w = .ok i w'∧i<n∧(w'=w∨w'=w.drew):=by
  unfold choose;rw [Sem.run];split;·exact⟨0,w,rfl,hn,.inl rfl⟩
  ·exact⟨_,_,rfl,atE _ hn,.inr rfl⟩
theorem c5.YS {E:Env} {w w':World} {a:Act} {st:St} (hs:c5 E w a st) (h:w'=w∨w'=w.drew):c5 E w' a st∧gK E w E w'∧w'.heap=w.heap:=by
  rcases h with rfl|rfl
  ·exact⟨hs,gK.refl _ _,rfl⟩
  ·exact⟨hs.drew,gK.drew _ _,rfl⟩
theorem FN {P:Program} {E:Env} {w:World} {a:Act} {st:St} (hs:c5 E w a st) {dst:Option Tmp} {it:V} {x:Value} {str:Bool} {ty:TypeId} {Q:St→Prop} (hi:cT E it x) (h:vi st dst it str Q) :
    ∃ z w' st',(Instr.next x str ty).run P w = .ok z w'∧c5 E w' (a.put dst z) st'∧gK E w E w'∧Q st':=by
  unfold vi at h;split at h
  · rename_i b;split at h
    · rename_i m since seen last hB;split at h
      · rename_i dx clock hM;obtain⟨rfl,uo,ad5,ff⟩:=h;obtain⟨g,gm,em,cm,hb,TV,hh,hf⟩:=hs.mem b _ hB;obtain⟨es,hhm,hr,hfm,h0⟩:=me hs hM TV;cases h0
        cases hi with
        | ptr _ _ _ g' e' c' fR =>
        rw [hb] at fR;cases fR
        have kV:(getObj g).run P w = .ok (.mapIter (some gm) since seen.toArray last) w:=by simp [getObj,Sem.run,hh]
        have YT:(!seen.toArray.isEmpty && !es.isEmpty&&es.all (fun e=>decide (e.born≥last)))=false:=by
          rw [← uo]
          unfold DW
          have e1:seen.toArray.isEmpty=seen.isEmpty:=by simp
          have e2:es.isEmpty=dx.isEmpty:=by
            have h1:=hr.1
            rw [ajO,auz,at1,← cb,h1,fA]
          rw [e1,e2,← Array.all_toList,← fQ.all (fun n=>decide (n≥last)) hr]
        have WO:(es.filter fun e=>!seen.toArray.contains e.born).toList=es.toList.filter fun e=>!seen.contains e.born:=by
          rw [aub];simp
        have hl:=fQ.filter (fun n=>!seen.contains n) hr
        have ho:=fQ.filter (fun n=>decide (n<since)) hl
        have hw:=fQ.filter (fun n=>decide (n≥since)) hl
        have hon:=ho.append hw
        obtain⟨L,hL⟩:∃ L,L=es.filter fun e=>!seen.toArray.contains e.born:=⟨_,rfl⟩
        have hO:(L.filter fun e=>decide (e.born<since)).toList=(es.toList.filter fun e=>!seen.contains e.born).filter fun e=>decide (e.born<since):=by rw [aub,hL,WO]
        have hN:(L.filter fun e=>decide (e.born≥since)).toList=(es.toList.filter fun e=>!seen.contains e.born).filter fun e=>decide (e.born≥since):=by rw [aub,hL,WO]
        rw [← hO] at ho
        rw [← hO,← hN] at hon
        generalize hOO:L.filter (fun e=>decide (e.born<since))=O at ho hon
        generalize hNN:L.filter (fun e=>decide (e.born≥since))=N at hon
        have aj7:O.isEmpty=(z6 dx seen since).isEmpty:=by
          have h1:=ho.1
          rw [ajO,auz,at1,← cb,← fA,← h1];rfl
        have ad7:0<((if O.isEmpty then #[none] else #[])++(O++N).map some:Array (Option MapEntry)).size:=by
          by_cases Pu:O.isEmpty=true
          · rw [if_pos Pu];simp;omega
          · rw [if_neg Pu]
            have:O.size≠0:=fun h=>Pu (auz.2 h)
            simp;omega
        obtain⟨i,w1,OP,KK,TX⟩:=z8 (P:=P) (w:=w) ad7
        obtain⟨s1,v1,KM⟩:=hs.YS TX
        have eQ:∀ {R},(match ((if O.isEmpty then #[none] else #[])++(O++N).map some:Array (Option MapEntry))[i]? with
            | some (some e)=>do setObj g (.mapIter (some gm) since (seen.toArray.push e.born) clock);pure (Value.tuple #[.bool true,e.key,e.val])
            | some none=>(pure (Value.tuple #[.bool false]):Sem Value)
            | none=>stuck "Next: no such candidate").run P w1=R→(Instr.next (.pointer (some ⟨g,0,none⟩)) false ty).run P w=R:=fun hR=>by
          rw [← hR]
          simp only [Instr.next,Sem.run_bind,kV,Result.andThen_ok,fi hhm,YT,bu,if_false,← hL,hOO,hNN,OP]
          rfl
        have hci:=bP KK
        by_cases oI:i<(if O.isEmpty then #[none] else #[]:Array (Option MapEntry)).size
        · have Pu:O.isEmpty=true:=by
            by_cases Pu:O.isEmpty=true
            · exact Pu
            · rw [if_neg Pu] at oI;simp at oI
          rw [if_pos Pu] at oI
          have Pv:i=0:=by simp at oI;omega
          subst Pv
          have hold:z6 dx seen since=[]:=by rw [aj7] at Pu;exact at1.1 Pu
          refine⟨_,w1,_,eQ (R:=Result.ok (Value.tuple #[.bool false]) w1) ?_,s1.put dst (.dR _ _ _ rfl fun i c y hc hy=>?_),v1,ad5 hold⟩
          · rw [if_pos Pu,aum (by simp)];rfl
          · match i with
            | 0=>simp at hc hy;subst hc;subst hy;exact .sc _ _
            | i+1=>simp at hc
        · obtain⟨j,hj,Up⟩:∃ j,j<(O++N).size∧((if O.isEmpty then #[none] else #[])++(O++N).map some:Array (Option MapEntry))[i]?=some (some ((O++N)[j]!)):=by
            refine⟨i-(if O.isEmpty then #[none] else #[]:Array (Option MapEntry)).size,?_,?_⟩
            · have:=KK;simp only [adV,auo] at this ⊢;omega
            · rw [auZ (by omega),at7]
              have bQ:i-(if O.isEmpty then #[none] else #[]:Array (Option MapEntry)).size<(O++N).size:=by have:=KK;simp only [adV,auo] at this ⊢;omega
              rw [bP bQ,getElem!_pos (O++N) _ bQ];rfl
          rw [getElem!_pos (O++N) _ hj] at Up
          obtain⟨kb,j2⟩:∃ kb,(z6 dx seen since++Ps dx seen since)[j]?=some kb:=⟨_,au (by have h1:=hon.1;simp only [ae,fA] at h1;simp only [ae];simp only [adV] at hj;exact Nat.lt_of_lt_of_eq hj h1.symm)⟩
          obtain⟨en,Cf,p1,p2,p3⟩:=hon.get j2
          have aj8:(O++N)[j]=en:=by
            have:(O++N).toList[j]?=some en:=by rw [y4];exact Cf
            rw [dJ,bP hj] at this
            simpa using this
          rw [aj8] at Up
          have MA:w1.heap[g]?=some (.mapIter (some gm) since seen.toArray last):=by rw [KM];exact hh
          have tV:kc E { w1 with heap:=w1.heap.setIfInBounds g (.mapIter (some gm) since (seen.toArray.push en.born) clock) } b (.jg m since (seen++[kb.2.1]) clock):=by
            refine⟨g,gm,0,0,hb,TV,?_,hf⟩
            rw [heap_set MA,p2];simp
          obtain⟨q1,q2⟩:=s1.zU hB rfl (B':=.jg m since (seen++[kb.2.1]) clock) rfl hb hf rJ tV
          refine⟨.tuple #[.bool true,en.key,en.val],_,_,eQ ?_,q1.put dst (Mz p1 p3),v1.trans q2,ff kb (aE j2)⟩
          rw [Up]
          have:=iR (P:=P) (o':=.mapIter (some gm) since (seen.toArray.push en.born) clock) MA (by simp)
          dsimp only
          rw [Sem.run_bind,this];rfl
      ·exact h.elim
    ·rename_i s pos hB;obtain⟨rfl,Aa⟩:=h;obtain⟨g,hb,hh,hf⟩:=hs.mem b _ hB;cases hi with|ptr _ _ _ g' e' c' fR =>rw [hb] at fR;cases fR;(have kV:(getObj g).run P w = .ok (.stringIter s pos) w:=by simp [getObj,Sem.run,hh]);split at Aa;(·rename_i bQ;obtain⟨q1,q2⟩:=hs.zU hB rfl (B':=.mX s (pos+(Utf8.decode s pos).2)) rfl hb hf (rJ (o:=.stringIter s (pos+(Utf8.decode s pos).2))) ⟨g,hb,heap_set hh,hf⟩;refine⟨.tuple #[.bool true,goInt pos,.int .i32 (Utf8.decode s pos).1],_,_,?_,q1.put dst (.dR _ _ _ rfl fun i c y hc hy=>?_),q2,Aa⟩;(·have:=iR (P:=P) (o':=.stringIter s (pos+(Utf8.decode s pos).2)) hh (by simp);simp [Instr.next,kV,bQ,this]);·match i with|0=>simp at hc hy;subst hc;subst hy;exact .sc _ _|1=>simp at hc hy;subst hc;subst hy;exact .sc _ _|2=>simp at hc hy;subst hc;subst hy;exact .sc _ _|i+3=>simp at hc);·rename_i bQ;refine⟨.tuple #[.bool false],w,_,by simp [Instr.next,kV,bQ],hs.put dst (.dR _ _ _ rfl fun i c y hc hy=>?_),gK.refl _ _,Aa⟩;match i with|0=>simp at hc hy;subst hc;subst hy;exact .sc _ _|i+1=>simp at hc
    ·rename_i hB;obtain⟨rfl,Aa⟩:=h;obtain⟨g,hb,hh,hf⟩:=hs.mem b _ hB;cases hi with|ptr _ _ _ g' e' c' fR =>rw [hb] at fR;cases fR;(have kV:(getObj g).run P w = .ok (.mapIter none 0 #[] 0) w:=by simp [getObj,Sem.run,hh]);refine⟨.tuple #[.bool false],w,_,by simp [Instr.next,kV],hs.put dst (.dR _ _ _ rfl fun i c y hc hy=>?_),gK.refl _ _,Aa⟩;match i with|0=>simp at hc hy;subst hc;subst hy;exact .sc _ _|i+1=>simp at hc
    ·exact h.elim
  ·exact h.elim
def pn (P:Program) (mem:List bf) (T:TypeId) (x:V):Option bf :=
  match x with
  | .mp b=>match mem[b]? with
    | some (.map _ clock)=>match iQ P T with|some _=>some (.jg b clock [] clock)|none=>none
    | _=>none
  | .sc (.map none)=>match iQ P T with|some _=>some .nC|none=>none
  | .sc (.string s)=>match P.underlying T with|some .string=>some (.mX s 0)|_=>none
  | _=>none
theorem KN {E:Env} {w:World} {a:Act} {st:St} (hs:c5 E w a st) (o:Nat):E.F ⟨w.heap.size,o,none⟩=none:=by cases hx:E.F ⟨w.heap.size,o,none⟩ with|none=>rfl|some x=>have:=World.block_lt_of_cell? w _ (hs.F _ _ hx);simp at this
theorem c5.newObj {E:Env} {w:World} {a:Act} {st:St} (hs:c5 E w a st) {key:Nat} (hk:ir st.mem key) {obj:Obj} {B:bf} (hv:B.dI=0) (hB:kc (E.with key 0 (w.heap.size,0,0)) (w.alloc obj) key B) :
    ∃ E',c5 E' (w.alloc obj) a { st with mem:=da st.mem key B }∧gK E w E' (w.alloc obj)∧E'.cn key 0=some (w.heap.size,0,0):=by have:=hs.new (obj:=obj) (B:=B) (e:=0) (c:=0) hk hv hB;exact⟨_,this.1,this.2,if_pos ⟨rfl,rfl⟩⟩
theorem Ab {P:Program} {E:Env} {w:World} {a:Act} {st:St} (hs:c5 E w a st) {key:Nat} (hk:ir st.mem key) {T:TypeId} {x:V} {y:Value} {B:bf} (hx:cT E x y) (h:pn P st.mem T x=some B) :
    ∃ E' w',(Instr.range T y).run P w = .ok (.pointer (some ⟨w.heap.size,0,none⟩)) w'∧c5 E' w' a { st with mem:=da st.mem key B }∧gK E w E' w'∧cT E' (.ptr key 0) (.pointer (some ⟨w.heap.size,0,none⟩)):=by
  have eS:(E.with key 0 (w.heap.size,0,0)).cn key 0=some (w.heap.size,0,0):=if_pos ⟨rfl,rfl⟩;unfold pn at h;split at h;·rename_i b;split at h;(·rename_i dx clock hB;split at h;(·rename_i p hp;cases h;obtain⟨kt,et⟩:=p;have hd:=kE hp;obtain⟨g,e,c,rfl,hb⟩:=um hx;obtain⟨es,hh,hr,-⟩:=me hs hB hb;(have dy:b≠key:=fun e=>by subst e;rw [hs.free hk 0] at hb;cases hb);obtain⟨E',h1,h2,h3⟩:=hs.newObj hk (obj:=.mapIter (some g) clock #[] clock) (B:=.jg b clock [] clock) rfl ⟨w.heap.size,g,e,c,eS,(if_neg fun h=>dy h.1).trans hb,heap_alloc_new w _,fun o=>KN (E:=E) hs o⟩;exact⟨E',_,by simp [Instr.range,aZ hd,fi hh,newObj,Sem.run],h1,h2,.ptr _ _ _ _ 0 0 h3⟩);·cases h);·cases h
  ·obtain rfl:=s4 hx;split at h;(·rename_i p hp;cases h;obtain⟨kt,et⟩:=p;have hd:=kE hp;obtain⟨E',h1,h2,h3⟩:=hs.newObj hk (obj:=.mapIter none 0 #[] 0) (B:=.nC) rfl ⟨w.heap.size,eS,heap_alloc_new w _,fun o=>KN (E:=E) hs o⟩;exact⟨E',_,by simp [Instr.range,aZ hd,newObj,Sem.run],h1,h2,.ptr _ _ _ _ 0 0 h3⟩);·cases h
  ·rename_i s;obtain rfl:=s4 hx;split at h;(·rename_i hd;cases h;obtain⟨E',h1,h2,h3⟩:=hs.newObj hk (obj:=.stringIter s 0) (B:=.mX s 0) rfl ⟨w.heap.size,eS,heap_alloc_new w _,fun o=>KN (E:=E) hs o⟩;exact⟨E',_,by simp [Instr.range,aZ hd,newObj,Sem.run],h1,h2,.ptr _ _ _ _ 0 0 h3⟩);·cases h
  ·cases h
theorem Cg {P:Program} {E:Env} {w:World} {a:Act} {st:St} (hs:c5 E w a st) {key:Nat} (hk:ir st.mem key) (T:TypeId) :
    ∃ E' w',(Instr.makeMap T none).run P w = .ok (.map (some w.heap.size)) w'∧c5 E' w' a { st with mem:=da st.mem key (.map [] 0) }∧gK E w E' w'∧cT E' (.mp key) (.map (some w.heap.size)):=by have eS:(E.with key 0 (w.heap.size,0,0)).cn key 0=some (w.heap.size,0,0):=if_pos ⟨rfl,rfl⟩;obtain⟨E',h1,h2,h3⟩:=hs.newObj hk (obj:=.map #[] 0) (B:=.map [] 0) rfl ⟨w.heap.size,#[],eS,heap_alloc_new w _,⟨rfl,fun i k e h=>by simp at h⟩,fun o=>KN (E:=E) hs o⟩;exact⟨E',_,by simp [Instr.makeMap,newObj,Sem.run],h1,h2,.mp _ _ _ 0 0 h3⟩
def y9 (i:Ti):V:=if i.agg=true then .agg (i.zero.map fun z=>ph (.sc z)) else match i.zero with|z :: _=>ph (.sc z)|[]=>.undef
def x7 (tt:Table) (T:TypeId) (l c:V):Option (Nat×List V×Nat) :=
  match l,c with
  | .sc (.int _ l),.sc (.int _ c)=>match jz tt T with
    | some e=>match tt e with
      | some i=>if 0≤l∧l≤c∧i.bytes*c≤281474976710656∧c≤1152921504606846976∧0<i.size∧i.zero.length=i.size∧i.zero.all Value.oneCell'=true∧(i.agg=true∨i.size=1) then some (i.size,List.replicate l.toNat (y9 i),c.toNat) else none
      | none=>none
    | none=>none
  | _,_=>none
theorem Ch {i:Ti} (h:i.agg=true∨i.size=1) (hz:i.zero.length=i.size):(y9 i).cells=i.zero.map fun z=>ph (.sc z):=by
  unfold y9;split;·rfl
  · rename_i hn
    have h1 : i.size = 1 := by rcases h with h|h
                               · exact absurd h hn
                               · exact h
    match YU:i.zero with|[]=>rw [YU] at hz;simp at hz;omega|[z]=>simp only [bm,iK];unfold ph;split <;> rfl|_ :: _ :: _=>rw [YU] at hz;simp at hz;omega
theorem FO {P:Program} {tt:Table} (ht:TT P tt) {E:Env} {w:World} {a:Act} {st:St} (hs:c5 E w a st) {key:Nat} (hk:ir st.mem key) {T:TypeId} {l c:V} {x y:Value} {size cap:Nat} {rs:List V} (hl:cT E l x) (hc:cT E c y)
    (h:x7 tt T l c=some (size,rs,cap)) :
    ∃ E' w',(Instr.makeSlice T x y).run P w = .ok (.slice (some ⟨w.heap.size,0,none⟩) rs.length cap) w'∧c5 E' w' a { st with mem:=da st.mem key (.rows 0 size rs) }∧gK E w E' w'∧cT E' (.ms key 0 0 rs.length) (.slice (some ⟨w.heap.size,0,none⟩) rs.length cap):=by
  unfold x7 at h;split at h;·rename_i k1 l k2 c;obtain rfl:=s4 hl;obtain rfl:=s4 hc;unfold jz at h;cases hT:tt T with|none=>rw [hT] at h;simp at h|some iT =>rw [hT] at h;simp only at h;cases he:iT.elem with|none=>rw [he] at h;simp at h|some e =>rw [he] at h;simp only at h;cases hE:tt e with|none=>rw [hE] at h;simp at h|some i =>rw [hE] at h;simp only at h;split at h;(·rename_i rE;obtain⟨h0,h1,hb,tZ,zY,CG,qa,Uq⟩:=rE;cases h;obtain⟨d,hd,-,uZ,-⟩:=ht.desc T iT hT;obtain rfl:=uZ e he;obtain⟨info,wW,OO,Uo,z,hz,YU⟩:=ht.size e i hE;(have Po:z.cells.size=i.size:=by rw [← CG,← YU];simp);(have hwl:IntKind.i64.wrap l=l:=by rw [IntWalk.i64_in _ (by omega)]);(have hwc:IntKind.i64.wrap c=c:=by rw [IntWalk.i64_in _ (by omega)]);obtain⟨xs,rj⟩:∃ xs:Array Value,xs=(Array.range (c.toNat*i.size)).map (z.cells[· % z.cells.size]!):=⟨_,rfl⟩;(have eQ:(Instr.makeSlice T (.int k1 l) (.int k2 c)).run P w = .ok (.slice (some ⟨w.heap.size,0,none⟩) l.toNat c.toNat) (w.alloc (.cells xs e (0,0))):=by (have e0:(decide (c<0)||decide ((info.bytes:Int)*c>2 ^ 48))=false:=by rw [Uo];simp only [ez,decide_eq_false_iff_not];exact⟨by omega,by omega⟩);(have e1:(decide (l<0))=false:=by simp;omega);(have e2:(decide (l>c))=false:=by simp;omega);(have YV:(zeroValue e).run P (w) = .ok z w:=by simp [zeroValue,eR wW,hz]);simp only [Instr.makeSlice,Sem.run_bind,aZ hd,Result.andThen_ok,asInt,asIntOf,Sem.run_pure,eR wW,hwl,hwc,e0,e1,e2,cE,bu,if_false,run_askRoom,fG wW,OO];by_cases hn:c.toNat*i.size=0;(·(have KG:xs = #[]:=by rw [rj,hn];simp);have vh:∀ f:Nat→Value,Array.map f (Array.range 0) = #[]:=fun f=>au1 (by simp);simp only [hn,if_true,Sem.run_pure,Result.andThen_ok,vh,KG];rfl);·simp only [hn,if_false,Sem.run_bind,YV,Result.andThen_ok,Sem.run_pure];simp [newRow,rj]);obtain⟨E',g1,g2,g3⟩:=hs.u6 hk (xs:=xs) (rs:=List.replicate l.toNat (y9 i)) (e:=i.size) (c:=c.toNat) e (by rw [rj];simp) (by simp;omega) (fun q row hq=>by rw [aui] at hq;split at hq;(·rename_i BW;cases hq;have rI:=Ch Uq CG;refine⟨by rw [rI];simpa using CG,fun j cc hj=>?_⟩;rw [rI,aq,aY] at hj;obtain⟨v,hv,rfl⟩:=hj;(have H8:j<i.size:=by rw [← CG];exact (aA.1 hv).1);(have bQ:q*i.size+j<c.toNat*i.size:=by have:(q+1)*i.size≤c.toNat*i.size:=kL _ (by omega);rw [mW] at this;omega);(have aj9:(q*i.size+j) % i.size=j:=by rw [atG,Nat.add_mul_mod_self_right,Nat.mod_eq_of_lt H8]);refine⟨v,?_,aN.1 qa v (aE hv),vf (.sc _ _)⟩;rw [rj];(have hzj:z.cells[j]?=some v:=by rw [← dJ,YU];exact hv);(have hjz:j<z.cells.size:=by omega);simp only [at7,Array.getElem?_range,bQ,if_true,b9,Po,aj9];rw [getElem!_pos z.cells j hjz];rw [bP hjz] at hzj;exact hzj);·cases hq);refine⟨E',_,?_,g1,g2,?_⟩;(·simpa using eQ);·simpa using g3);·cases h
  ·cases h
end Go.Eng
end
section
namespace Go.Eng
variable [ba]
open Go.RowKit (Below)
def oh (tt:Table) (mem:List bf) (ts:List TypeId) (s x:V):Option (Nat×Nat×Nat×Nat×List V×List V) :=
 match s with
 | .ms b v o l=>match mem[b]? with
  | some (.rows v' eb rs)=>match ts with
   | [t,u]=>match jz tt t with
    | some e=>match jz tt u with
     | some _=>match tt e with
      | some i =>
       if v'=v∧eb=i.size∧o+l=rs.length∧0<i.size∧i.bytes≤4096∧i.zero.length=i.size then
        match rowsOf mem i.size x with
        | some xs=>if l+xs.length≤34359738368 then some (i.size,b,v,l,rs.drop o,xs) else none
        | none=>none
       else none
      | none=>none
     | none=>none
    | none=>none
   | _=>none
  | _=>none
 | _=>none
theorem Ci {P:Program} {tt:Table} (ht:TT P tt) {E:Env} {w:World} {a:Act} {st:St} (hs:c5 E w a st) {ts:Array TypeId} {ty:TypeId} {s x:V} {y z:Value} {size b v l:Nat} {rs0 xs:List V}
  (uv:cT E s y) (Pg:cT E x z) (h:oh tt st.mem ts.toList s x=some (size,b,v,l,rs0,xs)) :
  ∃ u w' E' o' mv,(Builtin.append_ ts ty #[y,z]).run P w = .ok u w'∧mv.drop o'=rs0++xs∧o'+(l+xs.length)=mv.length∧c5 E' w' a { st with mem:=st.mem.set b (.rows (v+1) size mv) }∧gK E w E' w'∧cT E' (.ms b (v+1) o' (l+xs.length)) u:=by
 unfold oh at h;split at h
 ·rename_i b1 v1 o l1;split at h
  ·rename_i v' eb rs hm;split at h
   ·rename_i t u BV;obtain rfl:ts = #[t,u]:=by rw [← cr (xs:=ts),BV]
    split at h
    ·rename_i e he;split at h
     ·rename_i e' heu;split at h
      ·rename_i i hE;split at h
       ·rename_i hc;obtain⟨rfl,rfl,WQ,zY,zZ,CG⟩:=hc;split at h
        ·rename_i vj rj;split at h
         ·rename_i hlen;simp only [aB,dn] at h;obtain⟨rfl,rfl,rfl,rfl,rfl,rfl⟩:=h;have und:∀ {t e:TypeId},jz tt t=some e→P.underlying t=some (.slice e):=fun {t e} he=>by unfold jz at he;split at he;(·rename_i iu hU;obtain⟨d,hd,-,uZ,-⟩:=ht.desc t iu hU;rw [hd,uZ e he]);simp at he
          have hd:=und he;have Ic:=und heu;obtain⟨info,wW,OO,Uo,z0,YN,hz1⟩:=ht.size e i hE;have Po:z0.cells.size=info.size:=by rw [OO,← CG,← hz1];simp
          rw [← OO] at rj zY hm ⊢;rw [← Uo] at zZ;have WM:c5 E w.drew a st:=hs.drew;obtain⟨xa,xc,rfl,hxc,xA,qO,rk⟩:=j3 (P:=P) hs Pg rj;obtain⟨xa',xc',heq,-,xB,YO,YP⟩:=j3 (P:=P) WM Pg rj;simp only [Value.slice.injEq] at heq;obtain⟨rfl,-,rfl⟩:=heq
          have Ix:∀ gp,gp<l1+vj.length→Builtin.nextslicecap (l1+vj.length) gp*info.bytes≤281474976710656:=fun gp bQ =>
           growslice_fits bQ (fU (aun hlen zZ) (by decide))
          have CI:(rs.drop o).length=l1:=by rw [e8];omega
          have KJ:(rs.drop o++vj).length=l1+vj.length:=by rw [ae,CI]
          have jL:∀ gp,l1+vj.length≤grownCap w (l1+vj.length) gp e:=fun gp=>grownCap_ge w (l1+vj.length) gp e;have YF:rowsOf st.mem info.size (.ms b1 v' o l1)=some (rs.drop o):=by (have h1:o+l1≤rs.length:=by omega);simp [rowsOf,hm,h1];rw [dX (by rw [e8];omega)]
          obtain⟨sa,sc,rfl,hsc,A,Fh,FJ⟩:=j3 (P:=P) WM uv YF;rw [CI] at Fh uv ⊢;have rI:∀ gp,(A++xB++Builtin.zeroCells z0.cells (grownCap w (l1+vj.length) gp e-(l1+vj.length))).size=grownCap w (l1+vj.length) gp e*info.size:=fun gp=>by simp only [adV,size_zeroCells,Po,FJ.1,YP.1,CI,← iJ];congr 1;have:=jL gp;omega
          by_cases vg:l1+vj.length≤sc
          ·rcases DS uv with ⟨BU,Pp⟩|⟨g,eb',c,sa',sc',Pp,hb,hl,TU,u0⟩
           ·simp only [Value.slice.injEq] at Pp;obtain⟨rfl,aj3,rfl⟩:=Pp;have KG:vj=[]:=cb.1 (by omega);subst KG;(have nn:l1=0:=by omega);subst nn;have vh:rs.drop o=[]:=cb.1 CI;rw [vh];exact⟨_,w,E,0,[],og (ty:=ty) hd Ic wW xc xa xA qO,rfl,rfl,hs.FI hm,gK.refl E w,.iv _ _ _ _⟩
           simp only [Value.slice.injEq] at Pp;obtain⟨rfl,-,rfl⟩:=Pp;obtain⟨OP,KK,TX⟩:=u0;rcases hs.mem b1 _ hm with ⟨-,hn⟩|⟨g',T',cur,c',fR,hh,mc,mf,CD,hf⟩
           ·rw [hb] at hn;cases hn
           rw [hb] at fR;cases fR;by_cases aka:sc=0
           ·
            have KG:vj=[]:=cb.1 (by omega)
            subst KG
            have nn:l1=0:=by omega
            subst nn
            subst aka
            have vh:rs.drop o=[]:=cb.1 CI
            have eQ:(Builtin.append_ #[t,u] ty #[.slice sa 0 0,.slice xa 0 xc]).run P w = .ok (.slice sa 0 0) w:=by
             cases sa with
             | none=>exact og (ty:=ty) hd Ic wW xc xa xA qO
             | some ad =>
              have hxe:xA.toList=[]:=by
               have:=rk.1
               simp at this
               simpa using this
              have hfc:(Builtin.firstCells info.size 0 (.slice xa 0 xc)).run P w = .ok xA w:=qO
              simp [Builtin.append_,aZ hd,aZ Ic,fG wW,Builtin.lenOf,hfc,hxe,storeCells]
            have hle:E.le (E.with b1 (v'+1) (g,info.size,c)):=Env.mg (hs.dI b1 _ hm _ (nU v')) _
            have eS:(E.with b1 (v'+1) (g,info.size,c)).cn b1 (v'+1)=some (g,info.size,c):=if_pos ⟨rfl,rfl⟩
            refine⟨_,w,E.with b1 (v'+1) (g,info.size,c),o,rs,eQ,by simp [vh],by omega,hs.renew hm hs.F (ay _) (hs.lt _ _ _ _ _ hb) (fun k B' j2 lj Ie g' e' c' fg=>⟨rfl,fun e=>by subst e;exact j2 (hs.apart _ _ _ _ _ _ _ _ _ fg hb)⟩) ?_ (fun k v2 e2 c2 h=>hs.apart _ _ _ _ _ _ _ _ _ h hb),
             ⟨hle,fun k q g' e' c' j2=>?_,fun ad y hy=>.inl hy,rfl,rfl,rfl,ay _,fun _ _ _=>rfl⟩,?_⟩
            ·exact .inr ⟨g,T',cur,c,eS,hh,mc,mf,fun q row hq=>let ⟨h3,h4⟩:=CD q row hq;⟨h3,fun j cc hj=>let ⟨v,hv,Ib,FK⟩:=h4 j cc hj;⟨v,hv,Ib,FK.mono (Env.kC hle)⟩⟩,hf⟩
            ·by_cases hq:k=b1∧q=v'+1
             ·obtain⟨rfl,rfl⟩:=hq;rw [eS] at j2;cases j2;exact .inl ⟨_,_,_,_,hb⟩
             have:(E.with b1 (v'+1) (g,info.size,c)).cn k q=E.cn k q:=if_neg hq
             rw [this] at j2;exact .inl ⟨_,_,_,_,j2⟩
            exact .ms _ _ _ _ _ g info.size c _ _ eS (fun h=>absurd h (by simp)) (fun h=>TU h) ⟨by simp,KK,fun h=>absurd h (apq _)⟩
           obtain rfl:=TX (by omega);have z1:rs.length*info.size+xA.toList.length≤cur.size:=by have:=rk.1;simp only [fA];rw [this,mc,← iJ];exact kL _ (by omega)
           obtain⟨w',uo,Ia,Cd⟩:=kF (P:=P) (g:=g) (T:=T') (rs.length*info.size) xA.toList 0 w cur hh (by simpa using z1) (x5 zY rk);have eQ:(Builtin.append_ #[t,u] ty #[.slice (some ⟨g,o*info.size,none⟩) l1 sc,.slice xa vj.length xc]).run P w = .ok (.slice (some ⟨g,o*info.size,none⟩) (l1+vj.length) sc) w':=by (have Pw:(storeCells (Addr.add ⟨g,o*info.size,none⟩ (l1*info.size)) xA.toList).run P w = .ok () w':=by rw [add_lit,← iJ,WQ];exact uo);simp [Builtin.append_,aZ hd,aZ Ic,fG wW,Builtin.lenOf,vg,qO,Pw]
           have hle:E.le (E.with b1 (v'+1) (g,info.size,c)):=Env.mg (hs.dI b1 _ hm _ (nU v')) _;have eS:(E.with b1 (v'+1) (g,info.size,c)).cn b1 (v'+1)=some (g,info.size,c):=if_pos ⟨rfl,rfl⟩
           refine⟨_,w',E.with b1 (v'+1) (g,info.size,c),o,rs++vj,eQ,by rw [List.drop_append_of_le_length (by omega)],by rw [ae];omega,hs.renew hm (fun ad y hy=>?_) (by rw [Cd.size];exact ay _) (by rw [Cd.size];exact hs.lt _ _ _ _ _ hb) (fun k B' j2 lj Ie g' e' c' fg=>?_) ?_ (fun k v2 e2 c2 h=>hs.apart _ _ _ _ _ _ _ _ _ h hb),
            ⟨hle,fun k q g' e' c' j2=>?_,fun ad y hy=>.inl hy,Cd.os,Cd.tape,Cd.output,by rw [Cd.size];exact ay _,fun b' fR dy=>Cd.heap b' fun e=>by subst e;exact dy _ _ _ _ hb⟩,?_⟩
           ·have dy:=hs.DL hf hy;rw [← hs.F ad y hy];simp [World.cell?,Cd.heap _ dy]
           ·(have hgg:g'≠g:=fun e=>by subst e;exact j2 (hs.apart _ _ _ _ _ _ _ _ _ fg hb));exact⟨Cd.heap _ hgg,hgg⟩
           ·refine .inr ⟨g,T',_,c,eS,Ia,by rw [lq];exact mc,by rw [ae];omega,?_,hf⟩;intro q row hq;simp only [jW];(have hxl:xA.toList.length=vj.length*info.size:=by simpa using rk.1);rw [n6] at hq;split at hq;(·rename_i bQ;obtain⟨h3,h4⟩:=CD q row hq;refine⟨h3,fun j cc hj=>?_⟩;obtain⟨v,hv,Ib,FK⟩:=h4 j cc hj;(have H8:j<info.size:=by rw [← h3];exact (aA.1 hj).1);refine⟨v,?_,Ib,FK⟩;rw [jM _ _ _ _ z1,if_neg (by have:=zV bQ H8;omega)];exact hv);rename_i aj6;obtain⟨h3,h4⟩:=rk.2 _ row hq;refine⟨h3,fun j cc hj=>?_⟩;obtain⟨v,hv,Ib,FK⟩:=h4 j cc hj;(have H8:j<info.size:=by rw [← h3];exact (aA.1 hj).1);have BW:q-rs.length<vj.length:=(aA.1 hq).1;(have hmul:q*info.size=rs.length*info.size+(q-rs.length)*info.size:=by rw [← iJ];congr 1;omega);refine⟨v,?_,Ib,FK⟩;rw [jM _ _ _ _ z1,if_pos (by have:=zV BW H8;omega)];dsimp only at hv;rw [← hv,dJ];congr 1;omega
           ·by_cases hq:k=b1∧q=v'+1;(·obtain⟨rfl,rfl⟩:=hq;rw [eS] at j2;cases j2;exact .inl ⟨_,_,_,_,hb⟩);have:(E.with b1 (v'+1) (g,info.size,c)).cn k q=E.cn k q:=if_neg hq;rw [this] at j2;exact .inl ⟨_,_,_,_,j2⟩
           exact .ms _ _ _ _ _ g info.size c _ _ eS (fun _=>rfl) (fun h=>TU h) ⟨vg,KK,fun _=>rfl⟩
          have bQ:sc<l1+vj.length:=by omega
          have eQ:=zW (ty:=ty) hd Ic wW YN sa l1 sc vj.length xc xa A xB Fh YO bQ (by omega) (Ix sc bQ);have hle:E.le (E.with b1 (v'+1) (w.heap.size,info.size,grownCap w (l1+vj.length) sc e)):=Env.mg (hs.dI b1 _ hm _ (nU v')) _;have eS:(E.with b1 (v'+1) (w.heap.size,info.size,grownCap w (l1+vj.length) sc e)).cn b1 (v'+1)=some (w.heap.size,info.size,grownCap w (l1+vj.length) sc e):=if_pos ⟨rfl,rfl⟩
          refine⟨_,_,E.with b1 (v'+1) (w.heap.size,info.size,grownCap w (l1+vj.length) sc e),0,rs.drop o++vj,eQ,rfl,by rw [KJ];omega,hs.renew hm (fun ad y hy=>?_) (by simp) (by simp) (fun k B' j2 lj Ie g' e' c' fg=>?_) ?_ (fun k v2 e2 c2 h=>absurd (hs.lt _ _ _ _ _ h) (apq _)),
           ⟨hle,fun k q g' e' c' j2=>?_,fun ad y hy=>.inl hy,rfl,rfl,rfl,by simp,fun b' fR dy=>dP w.drew _ b' fR⟩,?_⟩
          ·rw [World.cell?_alloc_lt w.drew _ ad (World.block_lt_of_cell? w ad (hs.F ad y hy))];exact hs.F ad y hy
          ·have:=hs.lt _ _ _ _ _ fg;exact⟨dP w.drew _ g' this,by omega⟩
          ·refine .inr ⟨w.heap.size,e,_,_,eS,heap_alloc_new w.drew _,rI sc,by rw [KJ];exact jL sc,?_,fun o=>?_⟩;(·intro q row hq;obtain⟨h3,h4⟩:=mh (C:=Builtin.zeroCells z0.cells (grownCap w (l1+vj.length) sc e-(l1+vj.length))) FJ YP q row hq;exact⟨h3,fun j cc hj=>let ⟨v,hv,Ib,FK⟩:=h4 j cc hj;⟨v,hv,Ib,FK.mono (Env.kC hle)⟩⟩);show E.F _=none;cases hx:E.F ⟨w.heap.size,o,none⟩ with|none=>rfl|some x=>have:=World.block_lt_of_cell? w _ (hs.F _ _ hx);simp at this
          ·by_cases hq:k=b1∧q=v'+1;(·obtain⟨rfl,rfl⟩:=hq;rw [eS] at j2;cases j2;exact .inr (ay _));have:(E.with b1 (v'+1) (w.heap.size,info.size,grownCap w (l1+vj.length) sc e)).cn k q=E.cn k q:=if_neg hq;rw [this] at j2;exact .inl ⟨_,_,_,_,j2⟩
          exact .ms _ _ _ _ _ w.heap.size info.size _ _ _ eS (fun _=>by simp) (fun _=>⟨rfl,rfl⟩) ⟨jL sc,dL _,fun _=>by simp⟩
         simp at h
        simp at h
       simp at h
      simp at h
     simp at h
    simp at h
   simp at h
  simp at h
 simp at h
end Go.Eng
end
