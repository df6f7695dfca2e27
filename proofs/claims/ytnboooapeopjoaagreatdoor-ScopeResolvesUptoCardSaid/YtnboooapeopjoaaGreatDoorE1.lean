import Derived.Orders
import Derived.Below
import Derived.Laws.AppendOwn
import Derived.Laws.Cells
import Derived.Laws.Entries
import Derived.Laws.ResultCell
import Derived.Laws.BytesArg
import Derived.Laws.Append
import Derived.IntWalk
open Array renaming append_assoc→atE,foldl_toList→atd,getD_eq_getD_getElem?→lh,getElem?_append_left→atm,getElem?_append_right→atW,getElem?_eq_getElem→b9,getElem?_eq_none→asM,getElem?_eq_some_iff→dH,getElem?_map→atG,getElem?_modify→atP,getElem?_setIfInBounds_ne→Eu,getElem?_toList→eN,isEmpty_iff_size_eq_zero→atx,length_toList→j6,size_append→ad1,size_map→ato,toArray_toList→cX,toList_append→j7,toList_filter→ate,toList_push→atz,toList_zipIdx→atM
open Bool renaming and_eq_true→aD,and_true→aF,eq_iff_iff→ju,false_eq_true→bJ,or_eq_false_iff→pe,or_self→aY
open Go.RowKit.Below renaming heap_alloc→ed
open List renaming all_cons→ct,all_eq_true→aX,all_nil→dO,any_eq_true→Gu,append_nil→ij,drop_eq_getElem_cons→cr,drop_eq_nil_of_le→cH,drop_zero→as5,ext_getElem?→dq,findIdx?_cons→atF,flatMap_cons→jx,flatMap_nil→ata,foldl_cons→fq,foldl_nil→as6,getD_eq_getElem?_getD→eU,getElem?_append→XW,getElem?_append_left→bx,getElem?_append_right→a6,getElem?_cons_succ→ia,getElem?_cons_zero→ee,getElem?_drop→CM,getElem?_eq_getElem→af,getElem?_eq_none→dN,getElem?_eq_some_iff→aq,getElem?_map→ae,getElem?_replicate→atg,getElem?_set→bK,getElem?_set_ne→cL,getElem?_take→jd,getElem?_take_of_lt→jO,head?_eq_getElem?→atS,isEmpty_iff→as9,length_append→bc,length_cons→aj,length_drop→ux,length_eq_zero_iff→b7,length_nil→aA,length_take→cn,map_cons→cz,map_nil→bW,mem_append→ft,mem_cons→dj,mem_cons_of_mem→bE,mem_cons_self→bZ,mem_of_getElem?→ay,mem_singleton→dX,not_mem_nil→o3,take_nil→ath,take_of_length_le→bu,take_zero→dV
open Nat renaming add_assoc→o6,add_comm→UU,add_mul→jw,add_zero→kG,div_add_mod→atr,div_lt_iff_lt_mul→atQ,eq_zero_or_pos→atc,le_refl→ax,le_trans→Di,lt_irrefl→asL,lt_of_lt_of_le→rL,lt_or_ge→br,lt_succ_self→l5,mod_lt→asZ,mul_le_mul→atn,mul_le_mul_right→lS,sub_self→cI,succ_mul→nX,zero_add→aZ
open Option renaming getD_none→atw,getD_some→ajp,isSome_none→atC,isSome_some→atD,map_eq_some_iff→bH,map_none→asK,map_some→aC
open Option.some renaming injEq→aB
open Prod.mk renaming injEq→dE
set_option linter.all false
section
namespace Go.Eng
class bk where
 n:Int
 κ:Int→Option Bool
 ok:∀ k b,κ k=some b→decide (k≤n)=b
 g:Option Nat
 ZT:Nat→Option (List Value)
variable [bk]
structure Gl (F:Addr→Option Value):Prop where
 n:∀ g,bk.g=some g→F ⟨g,0,none⟩=some (.int .i64 bk.n)
 t:∀ g cs (j:Nat) x,bk.ZT g=some cs→cs[j]?=some x→F ⟨g,j,none⟩=some x
theorem Gl.mono {F F':Addr→Option Value} (h:Gl F) (hF:∀ ad x,F ad=some x→F' ad=some x):Gl F':=⟨fun g hg=>hF _ _ (h.n g hg),fun g cs j x h1 h2=>hF _ _ (h.t g cs j x h1 h2)⟩
inductive V where
 | undef
 | sc (v:Value)
 | agg (cs:List V)
 | slice (rows:List V)
 | ms (b v s l:Nat)
 | ptr (b o:Nat)
 | iw (b v i o:Nat)
 | eW (cs:List V)
 | dU (f:Fn) (first cap:List V)
 | ec (vs:List V)
 | km (b:Nat)
 | mp (b:Nat)
 | gn
 | full (rows:List V)
 deriving Inhabited
def V.cells:V→List V
 | .agg cs=>cs
 | v=>[v]
structure Env where
 F:Addr→Option Value
 cw:Nat→Nat→Option (Nat×Nat×Nat)
 gl:Gl F
def Env.pure (E:Env):Env := { F:=E.F,cw:=fun _ _=>none,gl:=E.gl }
inductive cV:Env→V→Value→Prop
 | undef (E:Env) (x:Value):cV E .undef x
 | sc (E:Env) (v:Value):cV E (.sc v) v
 | agg (E:Env) (cs:List V) (xs:Array Value) (hl:cs.length=xs.size) (h:∀ (i:Nat) (c:V) (x:Value),cs[i]?=some c→xs[i]?=some x→cV E c x):cV E (.agg cs) (.agg xs)
 | slice (E:Env) (rows:List V) (a:Option Addr) (cap uO:Nat) (ad:Addr) (xf:Nat→Nat→Value) (ha:rows≠[]→a=some ad) (n6:rows.length≤cap)
   (hs:∀ (i:Nat) (row:V),rows[i]?=some row→row.cells.length=uO)
   (hF:∀ (i:Nat) (row:V) (j:Nat) (c:V),rows[i]?=some row→row.cells[j]?=some c→E.F (ad.add (i*uO+j))=some (xf i j))
   (h1:∀ (i:Nat) (row:V) (j:Nat) (c:V),rows[i]?=some row→row.cells[j]?=some c→(xf i j).oneCell'=true)
   (h:∀ (i:Nat) (row:V) (j:Nat) (c:V),rows[i]?=some row→row.cells[j]?=some c→cV E.pure c (xf i j)):cV E (.slice rows) (.slice a rows.length cap)
 | ms (E:Env) (b v s l g e c:Nat) (a:Option Addr) (cap:Nat) (hb:E.cw b v=some (g,e,c)) (hl:0<l→a=some ⟨g,s*e,none⟩) (h0:s=0→a=some ⟨g,0,none⟩∧cap=c) (hc:l≤cap∧s+cap=c∧(0<cap→a=some ⟨g,s*e,none⟩)) :
   cV E (.ms b v s l) (.slice a l cap)
 | jl (E:Env) (b v s:Nat):cV E (.ms b v s 0) (.slice none 0 0)
 | ptr (E:Env) (b o g e c:Nat) (hb:E.cw b 0=some (g,e,c)):cV E (.ptr b o) (.pointer (some ⟨g,o,none⟩))
 | iw (E:Env) (b v i o g e c:Nat) (hb:E.cw b v=some (g,e,c)):cV E (.iw b v i o) (.pointer (some ⟨g,i*e+o,none⟩))
 | eW (E:Env) (cs:List V) (ad:Addr) (xf:Nat→Value) (hF:∀ (j:Nat) (c:V),cs[j]?=some c→E.F (ad.add j)=some (xf j)) (h:∀ (j:Nat) (c:V),cs[j]?=some c→cV E.pure c (xf j)) :
   cV E (.eW cs) (.pointer (some ad))
 | dU (E:Env) (f:Fn) (first cap:List V) (xs ys:Array Value) (hx:first.length=xs.size) (hy:cap.length=ys.size)
   (h1:∀ (i:Nat) (c:V) (x:Value),first[i]?=some c→xs[i]?=some x→cV E c x) (h2:∀ (i:Nat) (c:V) (x:Value),cap[i]?=some c→ys[i]?=some x→cV E c x):cV E (.dU f first cap) (.func f xs ys)
 | km (E:Env) (b l e c:Nat) (hb:E.cw b 0=some (l,e,c)):cV E (.km b) (.func (.yield l) #[] #[])
 | mp (E:Env) (b l e c:Nat) (hb:E.cw b 0=some (l,e,c)):cV E (.mp b) (.map (some l))
 | gn (E:Env):cV E .gn (.int .i64 bk.n)
 | full (E:Env) (rows:List V) (a:Option Addr) (h:cV E (.slice rows) (.slice a rows.length rows.length)):cV E (.full rows) (.slice a rows.length rows.length)
 | ec (E:Env) (vs:List V) (xs:Array Value) (hl:vs.length=xs.size) (h:∀ (i:Nat) (c:V) (x:Value),vs[i]?=some c→xs[i]?=some x→cV E c x):cV E (.ec vs) (.tuple xs)
def cJ (E:Env) (vs:List V) (xs:List Value):Prop:=vs.length=xs.length∧∀ (i:Nat) (v:V) (x:Value),vs[i]?=some v→xs[i]?=some x→cV E v x
theorem Env.NA {a b:Env} (h1:a.F=b.F) (h2:a.cw=b.cw):a=b:=by cases a;cases b;dsimp only at h1 h2;subst h1;subst h2;rfl
structure Env.le (E E':Env):Prop where
 F:∀ ad x,E.F ad=some x→E'.F ad=some x
 cw:∀ b v t,E.cw b v=some t→E'.cw b v=some t
theorem Env.le_refl (E:Env):E.le E:=⟨fun _ _ h=>h,fun _ _ _ h=>h⟩
theorem Env.le_trans {a b c:Env} (h:a.le b) (k:b.le c):a.le c:=⟨fun ad x hx=>k.F _ _ (h.F _ _ hx),fun b v t hx=>k.cw _ _ _ (h.cw _ _ _ hx)⟩
theorem Env.lA {a b:Env} (h:a.le b):a.pure.le b.pure:=⟨h.F,fun _ _ _ h=>h⟩
theorem Env.tB (a:Env):a.pure.le a:=⟨fun _ _ h=>h,fun _ _ _ h=>by simp [Env.pure] at h⟩
theorem cV.mono {E E':Env} {v:V} {x:Value} (h:cV E v x) (hle:E.le E'):cV E' v x:=by induction h generalizing E' with|undef=>exact .undef _ _|sc=>exact .sc _ _|agg E cs xs hl h ih=>exact .agg _ _ _ hl fun i c x hc hx=>ih i c x hc hx hle|slice E rows a cap uO ad xf ha n6 hs hF h1 h ih=>exact .slice _ _ _ _ uO ad xf ha n6 hs (fun i row j c hi hj=>hle.F _ _ (hF i row j c hi hj)) h1 fun i row j c hi hj=>ih i row j c hi hj (Env.lA hle)|ms E b v s l g e c a cap hb hl h0 hc=>exact .ms _ _ _ _ _ g e c _ _ (hle.cw _ _ _ hb) hl h0 hc|jl E b v s=>exact .jl _ _ _ _|ptr E b o g e c hb=>exact .ptr _ _ _ g e c (hle.cw _ _ _ hb)|iw E b v i o g e c hb=>exact .iw _ _ _ _ _ g e c (hle.cw _ _ _ hb)|eW E cs ad xf hF h ih=>exact .eW _ _ _ xf (fun j c hj=>hle.F _ _ (hF j c hj)) fun j c hj=>ih j c hj (Env.lA hle)|dU E f first cap xs ys hx hy h1 h2 ZU ZV=>exact .dU _ _ _ _ _ _ hx hy (fun i c x hc hx=>ZU i c x hc hx hle) fun i c x hc hx=>ZV i c x hc hx hle|km E b l e c hb=>exact .km _ _ l e c (hle.cw _ _ _ hb)|mp E b l e c hb=>exact .mp _ _ l e c (hle.cw _ _ _ hb)|gn E=>exact .gn _|full E rows a h ih=>exact .full _ _ _ (ih hle)|ec E vs xs hl h ih=>exact .ec _ _ _ hl fun i c x hc hx=>ih i c x hc hx hle
theorem cJ.mono {E E':Env} {vs:List V} {xs:List Value} (h:cJ E vs xs) (hle:E.le E'):cJ E' vs xs :=
 ⟨h.1,fun i v x hv hx=>(h.2 i v x hv hx).mono hle⟩
theorem cJ.nil (E:Env):cJ E [] []:=⟨rfl,fun i v x h=>by simp at h⟩
theorem cJ.cons {E:Env} {v:V} {x:Value} {vs:List V} {xs:List Value} (h:cV E v x) (hs:cJ E vs xs):cJ E (v :: vs) (x :: xs):=by refine⟨by simp [hs.1],fun i=>?_⟩;cases i with|zero=>intro v' x' hv hx;simp at hv hx;subst hv;subst hx;exact h|succ i=>intro v' x' hv hx;simp at hv hx;exact hs.2 i v' x' hv hx
theorem cJ.of_cons {E:Env} {v:V} {vs:List V} {xs:List Value} (h:cJ E (v :: vs) xs):∃ x ys,xs=x :: ys∧cV E v x∧cJ E vs ys:=by cases xs with|nil=>have:=h.1;simp at this|cons x ys=>exact⟨x,ys,rfl,h.2 0 v x rfl rfl,by have:=h.1;simpa using this,fun i v' x' hv hx=>h.2 (i+1) v' x' (by simpa using hv) (by simpa using hx)⟩
theorem cJ.of_nil {E:Env} {xs:List Value} (h:cJ E [] xs):xs=[]:=by have:=h.1;simp at this;exact b7.1 this.symm
theorem cJ.append {E:Env} {vs us:List V} {xs ys:List Value} (h:cJ E vs xs) (k:cJ E us ys):cJ E (vs++us) (xs++ys):=by
 refine⟨by simp [h.1,k.1],fun i v x hv hx=>?_⟩;by_cases hi:i<vs.length;·rw [bx hi] at hv;rw [bx (h.1 ▸ hi)] at hx;exact h.2 i v x hv hx
 rw [a6 (by omega)] at hv;rw [a6 (by have:=h.1;omega),← h.1] at hx;exact k.2 _ v x hv hx
theorem cJ.get {E:Env} {vs:List V} {xs:List Value} (h:cJ E vs xs) {i:Nat} {v:V} (hv:vs[i]?=some v):∃ x,xs[i]?=some x∧cV E v x:=by
 have hi:i<xs.length:=by rw [← h.1];exact (aq.1 hv).1
 exact⟨xs[i],af hi,h.2 i v _ hv (af hi)⟩
theorem cJ.drop {E:Env} {vs:List V} {xs:List Value} (h:cJ E vs xs) (n:Nat):cJ E (vs.drop n) (xs.drop n) :=
 ⟨by simp [h.1],fun i v x hv hx=>h.2 (n+i) v x (by simpa using hv) (by simpa using hx)⟩
theorem cJ.take {E:Env} {vs:List V} {xs:List Value} (h:cJ E vs xs) (n:Nat):cJ E (vs.take n) (xs.take n):=by
 refine⟨by simp [h.1],fun i v x hv hx=>?_⟩;have hi:i<n:=by by_cases hi:i<n;(·exact hi);rw [jd] at hv;simp [hi] at hv
 rw [jO hi] at hv hx;exact h.2 i v x hv hx
theorem cJ.set {E:Env} {vs:List V} {xs:List Value} (h:cJ E vs xs) (n:Nat) {v:V} {x:Value} (hv:cV E v x):cJ E (vs.set n v) (xs.set n x):=by
 refine⟨by simp [h.1],fun i v' x' As UX=>?_⟩;by_cases hi:n=i;·subst hi;rw [bK] at As UX;simp only [if_true] at As UX;split at As;(·split at UX;(·simp at As UX;subst As;subst UX;exact hv);simp at UX);simp at As
 rw [cL hi] at As UX;exact h.2 i v' x' As UX
theorem cV.cells {E:Env} {v:V} {x:Value} (h:cV E v x) (hu:v ≠ .undef) (hs:∀ y,v = .sc y→∀ cs,y ≠ .agg cs):cJ E v.cells x.cells.toList:=by cases h with|undef=>exact absurd rfl hu|sc =>(have:x.cells = #[x]:=by have:=hs x rfl;cases x <;> simp [Value.cells] at this ⊢);simp only [V.cells,this];exact .cons (.sc _ _) (.nil _)|agg _ cs xs hl h=>exact⟨by simpa [V.cells,Value.cells] using hl,fun i c x hc hx=>h i c x hc (by simpa [Value.cells] using hx)⟩|slice _ rows a cap uO ad xf ha n6 hz hF h1 h=>exact .cons (.slice _ _ _ _ uO ad xf ha n6 hz hF h1 h) (.nil _)|ms _ b v s l g e c a cap hb hl h0 hc=>exact .cons (.ms _ _ _ _ _ g e c _ _ hb hl h0 hc) (.nil _)|jl _ b v s=>exact .cons (.jl _ _ _ _) (.nil _)|ptr _ b o g e c hb=>exact .cons (.ptr _ _ _ g e c hb) (.nil _)|iw _ b v i o g e c hb=>exact .cons (.iw _ _ _ _ _ g e c hb) (.nil _)|eW _ cs ad xf hF h=>exact .cons (.eW _ _ _ xf hF h) (.nil _)|dU _ f first cap xs ys hx hy h1 h2=>exact .cons (.dU _ _ _ _ _ _ hx hy h1 h2) (.nil _)|km _ b l e c hb=>exact .cons (.km _ _ l e c hb) (.nil _)|mp _ b l e c hb=>exact .cons (.mp _ _ l e c hb) (.nil _)|gn=>exact .cons (.gn _) (.nil _)|full _ rows a h=>exact .cons (.full _ _ _ h) (.nil _)|ec _ vs xs hl h=>exact .cons (.ec _ _ _ hl h) (.nil _)
end Go.Eng
end
section
namespace Go.Eng
variable [bk]
structure Ti where
 size:Nat
 agg:Bool
 zero:List Value
 bp:List (Nat×Nat):=[]
 elem:Option TypeId:=none
 bytes:Nat:=0
 deriving Inhabited
abbrev Table:=TypeId→Option Ti
structure TT (P:Program) (tt:Table):Prop where
 size:∀ t i,tt t=some i→∃ info,P.info? t=some info∧info.size=i.size∧info.bytes=i.bytes∧∃ z,info.zero=some z∧z.cells.toList=i.zero
 desc:∀ t i,tt t=some i→∃ d,P.underlying t=some d∧(i.agg=true↔((∃ fs,d = .struct fs)∨∃ n e,d = .array n e)) ∧
  (∀ e,i.elem=some e→d = .slice e) ∧
  (∀ (f off sz:Nat),i.bp[f]?=some (off,sz)→∃ fs fd inf,d = .struct fs∧fs.size=i.bp.length∧fs[f]?=some fd∧fd.offset=off∧P.info? fd.type=some inf∧inf.size=sz∧sz≠0)
def dc {α:Type} (P:Program):Sem α→Option α
 | .pure a=>some a
 | .program k=>dc P (k P)
 | .mark _ k=>dc P k
 | _=>none
theorem gO {α:Type} {P:Program} (s:Sem α) {v:α} (h:dc P s=some v) (w:World):s.run P w = .ok v w:=by induction s with|pure a=>simp [dc] at h;subst h;rfl|program k ih=>exact ih P h|mark m k ih=>exact ih h|_=>simp [dc] at h
def lj:Value→V
 | .agg cs=>.agg (cs.toList.map V.sc)
 | .tuple vs=>.ec (vs.toList.map V.sc)
 | v=>.sc v
theorem oy (E:Env) (cs:Array Value) (i:Nat) (c:V) (x:Value) (hc:(cs.toList.map V.sc)[i]?=some c) (hx:cs[i]?=some x):cV E c x:=by simp only [ae,eN,hx,aC,aB] at hc;subst hc;exact .sc _ _
theorem ll (E:Env) (v:Value):cV E (lj v) v:=by cases v with|agg cs=>exact .agg _ _ _ (by simp) (oy E cs)|tuple cs=>exact .ec _ _ _ (by simp) (oy E cs)|_=>exact .sc _ _
inductive bm where
 | hole
 | dead
 | box (cs:List V)
 | rows (v e:Nat) (rs:List V)
 | vB (v e:Nat) (rs:List V)
 | loop (s:LoopState) (n7:Option Code) (fr:List V) (params:Array Tmp) (assign body:Code)
 | map (dK:List (Value×Nat×V)) (clock:Nat)
 | jR (m since:Nat) (seen:List Nat) (last:Nat)
 | nY (s:ByteArray) (pos:Nat)
 | oz
 deriving Inhabited
structure St where
 fr:List V
 mem:List bm
def St.eval (st:St):Operand→V
 | .tmp t=>st.fr.getD t .undef
 | .const v=>lj v
 | .global g=>if bk.g=some g then .eW [.gn] else match bk.ZT g with|some cs=>.eW (cs.map V.sc)|none=>.undef
 | .func f=>.sc (.func (.func f) #[] #[])
def St.put (st:St) (dst:Option Tmp) (v:V):St :=
 match dst with
 | some d => { st with fr:=st.fr.set d v }
 | none=>st
def mQ (E:Env) (e:Nat) (rs:List V) (at_:Nat→Option Value):Prop :=
 ∀ (i:Nat) (row:V),rs[i]?=some row→row.cells.length=e∧∀ (j:Nat) (c:V),row.cells[j]?=some c→∃ x,at_ (i*e+j)=some x∧x.oneCell'=true∧cV E c x
def gL (E:Env) (dK:List (Value×Nat×V)) (es:List MapEntry):Prop :=
 dK.length=es.length∧∀ (i:Nat) (k:Value×Nat×V) (e:MapEntry),dK[i]?=some k→es[i]?=some e→e.key=k.1∧e.born=k.2.1∧cV E k.2.2 e.val
theorem gL.mono {E E':Env} {dK:List (Value×Nat×V)} {es:List MapEntry} (h:gL E dK es) (hle:E.le E'):gL E' dK es :=
 ⟨h.1,fun i k e hk he=>let ⟨h1,h2,h3⟩:=h.2 i k e hk he;⟨h1,h2,h3.mono hle⟩⟩
def oA (E:Env) (w:World) (k:Nat):bm→Prop
 | .hole=>∀ v,E.cw k v=none
 | .dead=>True
 | .box cs=>∃ g T xs,E.cw k 0=some (g,0,0)∧w.heap[g]?=some (.cells xs T (0,0))∧cJ E cs xs.toList∧∀ o,E.F ⟨g,o,none⟩=none
 | .rows v e rs=>(rs=[]∧E.cw k v=none)∨∃ g T xs c,E.cw k v=some (g,e,c)∧w.heap[g]?=some (.cells xs T (0,0))∧xs.size=c*e∧rs.length≤c∧mQ E.pure e rs (fun o=>xs[o]?)∧∀ o,E.F ⟨g,o,none⟩=none
 | .vB v e rs=>(rs=[]∧E.cw k v=none)∨∃ g c,E.cw k v=some (g,e,c)∧rs.length≤c∧mQ E.pure e rs (fun o=>E.F ⟨g,o,none⟩)
 | .loop s n7 fr params assign body=>∃ l fn tmps db,E.cw k 0=some (l,0,0)∧w.heap[l]?=some (.loop { state:=s,pending:=n7,fn:=fn,tmps:=tmps,params:=params,assign:=assign,body:=body,defers:=db })∧cJ E fr tmps.toList∧∀ o,E.F ⟨l,o,none⟩=none
 | .map dK clock=>∃ g es,E.cw k 0=some (g,0,0)∧w.heap[g]?=some (.map es clock)∧gL E dK es.toList∧∀ o,E.F ⟨g,o,none⟩=none
 | .jR m since seen last=>∃ g gm e c,E.cw k 0=some (g,0,0)∧E.cw m 0=some (gm,e,c)∧w.heap[g]?=some (.mapIter (some gm) since seen.toArray last)∧∀ o,E.F ⟨g,o,none⟩=none
 | .nY s pos=>∃ g,E.cw k 0=some (g,0,0)∧w.heap[g]?=some (.stringIter s pos)∧∀ o,E.F ⟨g,o,none⟩=none
 | .oz=>∃ g,E.cw k 0=some (g,0,0)∧w.heap[g]?=some (.mapIter none 0 #[] 0)∧∀ o,E.F ⟨g,o,none⟩=none
def bm.dF:bm→Nat
 | .rows v _ _=>v
 | .vB v _ _=>v
 | _=>0
def bm.held:bm→Bool
 | .hole|.dead=>false
 | _=>true
structure cY (E:Env) (w:World) (a:Act) (st:St):Prop where
 F:∀ ad x,E.F ad=some x→w.cell? ad=some x
 lt:∀ k v g e c,E.cw k v=some (g,e,c)→g<w.heap.size
 mem:∀ k B,st.mem[k]?=some B→oA E w k B
 top:∀ k,st.mem.length≤k→∀ v,E.cw k v=none
 dF:∀ k B,st.mem[k]?=some B→∀ v,B.dF<v→E.cw k v=none
 apart:∀ k k' v v' g e c e' c',E.cw k v=some (g,e,c)→E.cw k' v'=some (g,e',c')→k=k'
 fr:cJ E st.fr a.tmps.toList
theorem cY.eval {E:Env} {w:World} {a:Act} {st:St} (h:cY E w a st) (x:Operand):cV E (st.eval x) (a.eval x):=by cases x with|tmp t =>(simp only [St.eval,Act.eval];cases hv:st.fr[t]? with|none=>rw [eU,hv];exact .undef _ _|some v =>obtain⟨x,hx,hr⟩:=h.fr.get hv;rw [eU,hv,lh];simp only [eN] at hx;rw [hx];exact hr)|const v=>exact ll E v|global g =>(simp only [St.eval,Act.eval];split;(·rename_i hg;refine .eW _ _ _ (fun _=>.int .i64 bk.n) (fun j c hc=>?_) fun j c hc=>?_;(·match j with|0=>exact E.gl.n g hg|j+1=>simp at hc);match j with|0=>simp at hc;subst hc;exact .gn _|j+1=>simp at hc);split;(·rename_i cs Ev;refine .eW _ _ _ (fun j=>(cs[j]?).getD undef) (fun j c hc=>?_) fun j c hc=>?_;(·simp only [ae,bH] at hc;obtain⟨x,hx,rfl⟩:=hc;(have h1:(Addr.mk g 0 none).add j=⟨g,j,none⟩:=by unfold Addr.add;by_cases hj:j=0 <;> simp [hj]);rw [h1,hx];exact E.gl.t g cs j x Ev hx);simp only [ae,bH] at hc;obtain⟨x,hx,rfl⟩:=hc;rw [hx];exact .sc _ _);exact .undef _ _)|func f=>exact .sc _ _
structure il (E:Env) (w:World) (E':Env) (w':World):Prop where
 le:E.le E'
 cw:∀ k v g e c,E'.cw k v=some (g,e,c)→(∃ k0 v0 e0 c0,E.cw k0 v0=some (g,e0,c0))∨w.heap.size≤g
 F:∀ ad x,E'.F ad=some x→E.F ad=some x∨w.heap.size≤ad.block∨∃ k0 v0 e0 c0,E.cw k0 v0=some (ad.block,e0,c0)
 os:w'.os=w.os
 tape:w'.tape=w.tape
 output:w'.output=w.output
 size:w.heap.size≤w'.heap.size
 heap:∀ b,b<w.heap.size→(∀ k v e c,E.cw k v≠some (b,e,c))→w'.heap[b]?=w.heap[b]?
theorem il.refl (E:Env) (w:World):il E w E w :=
 ⟨E.le_refl,fun k v g e c h=>.inl ⟨k,v,e,c,h⟩,fun _ _ h=>.inl h,rfl,rfl,rfl,ax _,fun _ _ _=>rfl⟩
theorem il.trans {E E1 E2:Env} {w w1 w2:World} (h:il E w E1 w1) (k:il E1 w1 E2 w2):il E w E2 w2:=by
 refine⟨Env.le_trans h.le k.le,?_,?_,k.os.trans h.os,k.tape.trans h.tape,k.output.trans h.output,Di h.size k.size,?_⟩;·intro q v g e c hq;(rcases k.cw q v g e c hq with ⟨k0,v0,e0,c0,h0⟩|h0);(·exact h.cw _ _ _ _ _ h0);exact .inr (Di h.size h0)
 ·intro ad x hx;(rcases k.F ad x hx with h0|h0|⟨k0,v0,e0,c0,h0⟩);(·exact h.F _ _ h0);(·exact .inr (.inl (Di h.size h0)));(rcases h.cw _ _ _ _ _ h0 with h1|h1);(·exact .inr (.inr h1));exact .inr (.inl h1)
 intro b hb cK;rw [k.heap b (rL hb h.size) ?_,h.heap b hb cK];intro q v e c hq;rcases h.cw _ _ _ _ _ hq with ⟨k0,v0,e0,c0,h0⟩|h0
 ·exact cK _ _ _ _ h0
 omega
theorem il.drew (E:Env) (w:World):il E w E w.drew :=
 ⟨E.le_refl,fun k v g e c h=>.inl ⟨k,v,e,c,h⟩,fun _ _ h=>.inl h,rfl,rfl,rfl,ax _,fun _ _ _=>rfl⟩
theorem cY.drew {E:Env} {w:World} {a:Act} {st:St} (h:cY E w a st):cY E w.drew a st :=
 ⟨h.F,h.lt,fun k B hB=>by have:=h.mem k B hB;cases B <;> exact this,h.top,h.dF,h.apart,h.fr⟩
theorem cY.put {E:Env} {w:World} {a:Act} {st:St} (h:cY E w a st) (dst:Option Tmp) {v:V} {x:Value} (hr:cV E v x):cY E w (a.put dst x) (st.put dst v):=by cases dst with|none=>exact h|some d=>exact⟨h.F,h.lt,h.mem,h.top,h.dF,h.apart,by simpa [St.put,Act.put] using h.fr.set d hr⟩
end Go.Eng
end
section
namespace Go.Eng
variable [bk]
def jY (tt:Table) (T:TypeId) (cs:List V):Option V :=
 match tt T with
 | some i=>if i.agg then (if i.size≤cs.length then some (.agg (cs.take i.size)) else none) else cs.head?
 | none=>none
def rowOf (mem:List bm) (b v i:Nat):Option V :=
 match mem[b]? with
 | some (.rows v' _ rs)=>if v'=v then rs[i]? else none
 | some (.vB v' _ rs)=>if v'=v then rs[i]? else none
 | _=>none
def qf (tt:Table) (mem:List bm) (T:TypeId):V→Option V
 | .ptr b o=>match mem[b]? with|some (.box cs)=>jY tt T (cs.drop o)|_=>none
 | .iw b v i o=>match rowOf mem b v i with|some row=>jY tt T (row.cells.drop o)|none=>none
 | .eW cs=>jY tt T cs
 | _=>none
def Vn (tt:Table) (S:TypeId) (f:Nat):Option Nat:=match tt S with|some i=>(match i.bp[f]? with|some p=>some p.1|none=>none)|none=>none
def jy (tt:Table) (T:TypeId):Option TypeId:=match tt T with|some i=>i.elem|none=>none
def pf (tt:Table) (T:TypeId):Option Nat:=match tt T with|some i=>some i.size|none=>none
def fieldAt (off:Nat):V→Option V
 | .ptr b o=>some (.ptr b (o+off))
 | .iw b v i o=>some (.iw b v i (o+off))
 | .eW cs=>some (.eW (cs.drop off))
 | _=>none
def Ew (tt:Table) (S:TypeId) (f:Nat) (x:V):Option V:=match Vn tt S f with|some off=>fieldAt off x|none=>none
def mR (mem:List bm) (b v:Nat):Option Nat :=
 match mem[b]? with
 | some (.rows v' e _)=>if v'=v then some e else none
 | some (.vB v' e _)=>if v'=v then some e else none
 | _=>none
def indexAt (mem:List bm) (size:Nat) (n:Int):V→Option V
 | .slice rows=>if 0≤n then (match rows[n.toNat]? with|some row=>if row.cells.length=size then some (.eW row.cells) else none|none=>none) else none
 | .ms b v s l=>if 0≤n∧n<l∧mR mem b v=some size then some (.iw b v (s+n.toNat) 0) else none
 | _=>none
def oB (tt:Table) (mem:List bm) (T:TypeId) (x i:V):Option V :=
 match i with
 | .sc (.int _ n)=>match jy tt T with
  | some e=>match pf tt e with
   | some size=>indexAt mem size n x
   | none=>none
  | none=>none
 | _=>none
theorem add_add (a:Addr) (m n:Nat):(a.add m).add n=a.add (m+n):=by unfold Addr.add;by_cases hm:m=0 <;> by_cases hn:n=0 <;> simp [hm,hn,o6]
theorem add_lit (b o n:Nat):(Addr.mk b o none).add n=⟨b,o+n,none⟩:=by unfold Addr.add;by_cases hn:n=0 <;> simp [hn]
theorem bC {P:Program} {t:TypeId} {d:TypeDesc} (h:P.underlying t=some d) (w:World):(underlying t).run P w = .ok d w:=by simp [underlying,h]
theorem gW {P:Program} {t:TypeId} {i:TypeInfo} (h:P.info? t=some i) (w:World):(typeInfo t).run P w = .ok i w:=by simp [typeInfo,h]
theorem iF {P:Program} {t:TypeId} {i:TypeInfo} (h:P.info? t=some i) (w:World):(sizeOf t).run P w = .ok i.size w:=by simp [sizeOf,gW h]
theorem TT.isAgg {P:Program} {tt:Table} (h:TT P tt) {t:TypeId} {i:Ti} (ht:tt t=some i) (w:World):(isAgg t).run P w = .ok i.agg w:=by obtain⟨d,hd,ha,-⟩:=h.desc t i ht;simp only [Go.isAgg,Sem.run_bind,bC hd,Result.andThen_ok];cases hi:i.agg with|true =>(rcases ha.1 hi with ⟨fs,rfl⟩|⟨n,e,rfl⟩ <;> rfl)|false =>(have:¬ ((∃ fs,d = .struct fs)∨∃ n e,d = .array n e):=fun hh=>by rw [ha.2 hh] at hi;cases hi);cases d <;> first|rfl|(exfalso;apply this;first|exact .inl ⟨_,rfl⟩|exact .inr ⟨_,_,rfl⟩)
theorem TT.sizeOf {P:Program} {tt:Table} (h:TT P tt) {t:TypeId} {i:Ti} (ht:tt t=some i) (w:World):(Go.sizeOf t).run P w = .ok i.size w:=by obtain⟨info,h1,h2,-⟩:=h.size t i ht;rw [iF h1,h2]
def pg (E:Env) (w:World) (ad:Addr) (cs:List V):Prop:=∀ (j:Nat) (c:V),cs[j]?=some c→∃ x,w.cell? (ad.add j)=some x∧cV E c x
theorem pg.drop {E:Env} {w:World} {ad:Addr} {cs:List V} (h:pg E w ad cs) (n:Nat):pg E w (ad.add n) (cs.drop n):=fun j c hc=>by rw [add_add];exact h _ _ (by simpa using hc)
theorem zK {P:Program} {tt:Table} (ht:TT P tt) {E:Env} {w:World} {ad:Addr} {cs:List V} {T:TypeId} {v:V} (h:pg E w ad cs) (hp:jY tt T cs=some v) :
  ∃ x,(loadVar T ad).run P w = .ok x w∧cV E v x:=by unfold jY at hp;cases hi:tt T with|none=>rw [hi] at hp;simp at hp|some i =>rw [hi] at hp;simp only at hp;cases ha:i.agg with|false =>simp only [ha,bJ,if_false] at hp;obtain⟨x,hx,hr⟩:=h 0 v (by simpa [atS] using hp);(have h0:ad.add 0=ad:=by simp [Addr.add]);rw [h0] at hx;refine⟨x,?_,hr⟩;simp [loadVar,ht.isAgg hi,ha,hx]|true =>simp only [ha,if_true] at hp;split at hp;(·rename_i hle;simp only [aB] at hp;subst hp;(have hx:∀ j,j<i.size→∃ x,w.cell? (ad.add j)=some x∧∀ c,cs[j]?=some c→cV E c x:=fun j hj=>by (have Gw:j<cs.length:=by omega);obtain⟨x,hx,hr⟩:=h j _ (af Gw);exact⟨x,hx,fun c hc=>by rw [af Gw] at hc;cases hc;exact hr⟩);let f:Nat→Value:=fun j=>(w.cell? (ad.add j)).getD default;(have hf:∀ j,j<i.size→w.cell? (ad.add j)=some (f j):=fun j hj=>by obtain⟨x,hx,-⟩:=hx j hj;simp [f,hx]);refine⟨.agg ((List.range i.size).map f).toArray,?_,?_⟩;(·simp only [loadVar,Sem.run_bind,ht.isAgg hi,Result.andThen_ok,ha,if_true,ht.sizeOf hi];rw [run_loadCells w ad i.size f hf];simp);refine .agg _ _ _ (by simp;omega) fun j c x hc hxx=>?_;(have hj:j<i.size:=by by_cases hj:j<i.size;(·exact hj);rw [jd] at hc;simp [hj] at hc);rw [jO hj] at hc;obtain⟨y,hy,hr⟩:=hx j hj;simp [hj] at hxx;rw [← hxx];(have:f j=y:=by simp [f,hy]);rw [this];exact hr c hc);simp at hp
theorem JX {E:Env} {w:World} (hF:∀ ad x,E.F ad=some x→w.cell? ad=some x) {cs:List V} {x:Value} (h:cV E (.eW cs) x):∃ ad,x = .pointer (some ad)∧pg E w ad cs:=by cases h with|eW _ _ ad xf hf hr=>exact⟨ad,rfl,fun j c hc=>⟨xf j,hF _ _ (hf j c hc),(hr j c hc).mono E.tB⟩⟩
theorem ph {w:World} {g:Nat} {xs:Array Value} {T:TypeId} {fz:Nat×Nat} (h:w.heap[g]?=some (.cells xs T fz)) (o:Nat):w.cell? ⟨g,o,none⟩=xs[o]?:=by simp [World.cell?,h]
theorem NB {E:Env} {w:World} {a:Act} {st:St} (hs:cY E w a st) {b o:Nat} {cs:List V} (hm:st.mem[b]?=some (.box cs)) {x:Value} (h:cV E (.ptr b o) x) :
  ∃ ad,x = .pointer (some ad)∧pg E w ad (cs.drop o):=by cases h with|ptr _ _ _ g e c hb =>obtain⟨g',T,xs,kV,hh,hr,-⟩:=hs.mem b _ hm;rw [hb] at kV;cases kV;refine⟨_,rfl,fun j c hc=>?_⟩;rw [add_lit,ph hh];obtain⟨y,hy,At⟩:=hr.get (i:=o+j) (by simpa using hc);exact⟨y,by simpa using hy,At⟩
theorem JY {E:Env} {w:World} {a:Act} {st:St} (hs:cY E w a st) {b v i o:Nat} {row:V} (hm:rowOf st.mem b v i=some row) {x:Value} (h:cV E (.iw b v i o) x) :
  ∃ ad,x = .pointer (some ad)∧pg E w ad (row.cells.drop o):=by cases h with|iw _ _ _ _ _ g e c hb =>refine⟨_,rfl,fun j cc hc=>?_⟩;rw [add_lit];(have hc':row.cells[o+j]?=some cc:=by simpa using hc);unfold rowOf at hm;split at hm;(·rename_i v' e' rs hk;split at hm;(·rename_i hv;subst hv;(rcases hs.mem b _ hk with ⟨rfl,-⟩|⟨g',T,xs,c',kV,hh,-,-,hr,-⟩);(·simp at hm);rw [hb] at kV;cases kV;obtain⟨-,h2⟩:=hr i row hm;obtain⟨y,hy,-,At⟩:=h2 _ _ hc';exact⟨y,by rw [ph hh,o6];exact hy,At.mono E.tB⟩);cases hm);(·rename_i v' e' rs hk;split at hm;(·rename_i hv;subst hv;(rcases hs.mem b _ hk with ⟨rfl,-⟩|⟨g',c',kV,-,hr⟩);(·simp at hm);rw [hb] at kV;cases kV;obtain⟨-,h2⟩:=hr i row hm;obtain⟨y,hy,-,At⟩:=h2 _ _ hc';exact⟨y,hs.F _ _ (by rw [o6];exact hy),At.mono E.tB⟩);cases hm);simp at hm
theorem yB {P:Program} {tt:Table} (ht:TT P tt) {E:Env} {w:World} {a:Act} {st:St} (hs:cY E w a st) {T:TypeId} {p v:V} {x:Value} (hr:cV E p x) (h:qf tt st.mem T p=some v) :
  ∃ y,(Instr.loadAt T x).run P w = .ok y w∧cV E v y:=by
 have key:∃ ad cs,x = .pointer (some ad)∧pg E w ad cs∧jY tt T cs=some v:=by unfold qf at h;split at h;(·split at h;(·rename_i hm;obtain⟨ad,h1,h2⟩:=NB hs hm hr;exact⟨ad,_,h1,h2,h⟩);simp at h);(·split at h;(·rename_i hm;obtain⟨ad,h1,h2⟩:=JY hs hm hr;exact⟨ad,_,h1,h2,h⟩);simp at h);(·obtain⟨ad,h1,h2⟩:=JX hs.F hr;exact⟨ad,_,h1,h2,h⟩);simp at h
 obtain⟨ad,cs,rfl,hc,hp⟩:=key;obtain⟨y,hy,At⟩:=zK ht hc hp;exact⟨y,by simp [Instr.loadAt,Instr.sureAddr,hy],At⟩
theorem Ey {P:Program} {tt:Table} (ht:TT P tt) {E:Env} {S:TypeId} {f:Nat} {p v:V} {x:Value} (hr:cV E p x) (h:Ew tt S f p=some v) (w:World) :
  ∃ y,(Instr.fieldAt S x f).run P w = .ok y w∧cV E v y:=by unfold Ew Vn at h;cases hi:tt S with|none=>rw [hi] at h;simp at h|some i =>rw [hi] at h;simp only at h;cases ho:i.bp[f]? with|none=>rw [ho] at h;simp at h|some off =>rw [ho] at h;simp only at h;obtain⟨d,hd,-,-,akl⟩:=ht.desc S i hi;obtain⟨fs,fd,inf,rfl,-,hf,ho1,o7,uP,JZ⟩:=akl f off.1 off.2 ho;(have nh:inf.size≠0:=by omega);obtain⟨off,sz⟩:=off;dsimp only at ho1;subst ho1;(have run:∀ ad,(Instr.fieldAt S (.pointer (some ad)) f).run P w = .ok (.pointer (some (ad.add fd.offset))) w:=fun ad=>by simp [Instr.fieldAt,bC hd,hf,Instr.sureAddr,fieldPlace,iF o7,nh]);unfold Eng.fieldAt at h;split at h;(·simp only [aB] at h;subst h;cases hr with|ptr _ _ _ g e c hb=>exact⟨_,run _,by rw [add_lit];exact .ptr _ _ _ g e c hb⟩);(·simp only [aB] at h;subst h;cases hr with|iw _ _ _ _ _ g e c hb=>exact⟨_,run _,by rw [add_lit,o6];exact .iw _ _ _ _ _ g e c hb⟩);(·simp only [aB] at h;subst h;cases hr with|eW _ _ ad xf hf hr=>exact⟨_,run _,.eW _ _ _ (fun j=>xf (fd.offset+j)) (fun j c hc=>by rw [add_add];exact hf _ _ (by simpa using hc)) fun j c hc=>hr _ _ (by simpa using hc)⟩);simp at h
theorem GI {E:Env} {w:World} {a:Act} {st:St} (hs:cY E w a st) {b v size g e c:Nat} (h:mR st.mem b v=some size) (hb:E.cw b v=some (g,e,c)):e=size:=by
 unfold mR at h;split at h;·rename_i hk;split at h;(·rename_i hv;subst hv;(rcases hs.mem b _ hk with ⟨-,hn⟩|⟨g',T',xs,c',kV,-⟩);(·rw [hb] at hn;cases hn);rw [hb] at kV;cases kV;simpa using h);cases h
 ·rename_i hk;split at h;(·rename_i hv;subst hv;(rcases hs.mem b _ hk with ⟨-,hn⟩|⟨g',c',kV,-⟩);(·rw [hb] at hn;cases hn);rw [hb] at kV;cases kV;simpa using h);cases h
 simp at h
theorem Ez {P:Program} {tt:Table} (ht:TT P tt) {E:Env} {w:World} {a:Act} {st:St} (hs:cY E w a st) {T:TypeId} {p i v:V} {x y:Value} (hp:cV E p x) (hi:cV E i y) (h:oB tt st.mem T p i=some v) :
  ∃ z,(Instr.indexAt T x y).run P w = .ok z w∧cV E v z:=by
 unfold oB at h;split at h;·rename_i k n;cases hi with|sc =>unfold jy pf at h;cases hT:tt T with|none=>rw [hT] at h;simp at h|some iT =>rw [hT] at h;simp only at h;cases he:iT.elem with|none=>rw [he] at h;simp at h|some e =>rw [he] at h;simp only at h;cases hE:tt e with|none=>rw [hE] at h;simp at h|some ie =>rw [hE] at h;simp only at h;obtain⟨d,hd,-,EA,-⟩:=ht.desc T iT hT;obtain rfl:=EA e he;(have run:∀ (ad:Addr) (len cap:Nat),0≤n→n<len→(Instr.indexAt T (.slice (some ad) len cap) (.int k n)).run P w = .ok (.pointer (some (ad.add (n.toNat*ie.size)))) w:=fun ad len cap h0 h1=>by simp [Instr.indexAt,asIntOf,bC hd,ht.sizeOf hE,h0,h1]);unfold Eng.indexAt at h;split at h;(·rename_i rows;split at h;(·rename_i h0;split at h;(·rename_i row xy;split at h;(·rename_i hlen;simp only [aB] at h;subst h;cases hp with|slice _ _ aa cap uO ad xf ha n6 hz hF h1 hR =>have bR:n.toNat<rows.length:=(aq.1 xy).1;(have cK:rows≠[]:=by rintro rfl;simp at bR);obtain rfl:=ha cK;(have akm:uO=ie.size:=by rw [← hz _ _ xy,hlen]);subst akm;exact⟨_,run ad _ cap h0 (by omega),.eW _ _ _ (fun j=>xf n.toNat j) (fun j c hc=>by rw [add_add];exact hF _ _ _ _ xy hc) fun j c hc=>hR _ _ _ _ xy hc⟩);simp at h);simp at h);simp at h);(·rename_i b v s l;split at h;(·rename_i h0;obtain⟨h0,h1,h2⟩:=h0;simp only [aB] at h;subst h;cases hp with|jl=>simp at h1;omega|ms _ _ _ _ _ g e' c aa cap hb hl NC hc =>obtain rfl:=hl (by omega);have hee:e'=ie.size:=GI hs h2 hb;subst hee;refine⟨_,run _ _ cap h0 h1,?_⟩;have:=cV.iw E b v (s+n.toNat) 0 g ie.size c hb;rw [add_lit,← jw];simpa using this);simp at h);simp at h
 simp at h
end Go.Eng
end
section
namespace Go.Eng
variable [bk]
def Au:List V→Option (List Value)
 | []=>some []
 | .sc v :: r=>match Au r with|some l=>some (v :: l)|none=>none
 | _ :: _=>none
def fI:V→Option Value
 | .sc v=>some v
 | .agg cs=>match Au cs with|some l=>some (.agg l.toArray)|none=>none
 | _=>none
theorem Dl {E:Env}:∀ {vs:List V} {xs:List Value} {l:List Value},cJ E vs xs→Au vs=some l→xs=l
 | [],xs,l,h,hl=>by simp [Au] at hl;subst hl;exact h.of_nil
 | v :: vs,xs,l,h,hl=>by
  obtain⟨x,ys,rfl,h1,h2⟩:=h.of_cons
  cases v with
  | sc v =>
   simp only [Au] at hl
   split at hl
   ·rename_i l' hl'
    simp only [aB] at hl;subst hl
    cases h1
    rw [Dl h2 hl']
   simp at hl
  | _=>simp [Au] at hl
theorem kJ {E:Env} {v:V} {x y:Value} (h:cV E v x) (hv:fI v=some y):x=y:=by cases v with|sc v=>cases h;simpa [fI] using hv|agg cs =>(simp only [fI] at hv;split at hv;(·rename_i l hl;simp only [aB] at hv;subst hv;cases h with|agg _ _ xs hlen hr =>have:=Dl (E:=E) (xs:=xs.toList) ⟨by simpa using hlen,fun i c x hc hx=>hr i c x hc (by simpa using hx)⟩ hl;rw [← this]);simp at hv)|_=>simp [fI] at hv
def uy (P:Program) (f:Value→Sem Value) (x:V):Option V :=
 match fI x with
 | some a=>match dc P (f a) with|some v=>some (lj v)|none=>none
 | none=>none
def eO (P:Program) (f:Value→Value→Sem Value) (x y:V):Option V :=
 match fI x with
 | some a=>match fI y with
  | some b=>match dc P (f a b) with|some v=>some (lj v)|none=>none
  | none=>none
 | none=>none
theorem sg {P:Program} {f:Value→Sem Value} {E:Env} {w:World} {x v:V} {a:Value} (hx:cV E x a) (h:uy P f x=some v):∃ y,(f a).run P w = .ok y w∧cV E v y:=by
 unfold uy at h;split at h;·rename_i a' ha;cases kJ hx ha;split at h;(·rename_i y hy;simp only [aB] at h;subst h;exact⟨y,gO _ hy w,ll E y⟩);simp at h
 simp at h
theorem nz {P:Program} {f:Value→Value→Sem Value} {E:Env} {w:World} {x y v:V} {a b:Value} (hx:cV E x a) (hy:cV E y b) (h:eO P f x y=some v) :
  ∃ z,(f a b).run P w = .ok z w∧cV E v z:=by
 unfold eO at h;split at h;·rename_i a' ha;cases kJ hx ha;split at h;(·rename_i b' hb;cases kJ hy hb;split at h;(·rename_i z hz;simp only [aB] at h;subst h;exact⟨z,gO _ hz w,ll E z⟩);simp at h);simp at h
 simp at h
def ZW:V→Option V
 | .ptr b o=>some (.ptr b o)
 | .iw b v i o=>some (.iw b v i o)
 | .eW cs=>some (.eW cs)
 | .dU (.func f) a b=>some (.dU (.func f) a b)
 | .sc (.func (.func f) a b)=>some (.sc (.func (.func f) a b))
 | _=>none
def cM (rows:List V) (l size:Nat):Bool:=match rows[l]? with|some row=>row.cells.length==size|none=>true
def cutAt (mem:List bm) (size:Nat) (l:Int) (h:Option Int):V→Option V
 | .slice rows =>
  if 0≤l∧l≤h.getD rows.length∧h.getD rows.length≤rows.length∧cM rows l.toNat size=true then some (.slice ((rows.drop l.toNat).take (h.getD rows.length-l).toNat)) else none
 | .ms b v s n =>
  if 0≤l∧l≤h.getD n∧h.getD n≤n∧mR mem b v=some size then some (.ms b v (s+l.toNat) (h.getD n-l).toNat) else none
 | _=>none
def GJ:V→Option Int
 | .sc (.int _ n)=>some n
 | _=>none
def EB (P:Program) (tt:Table) (mem:List bm) (T:TypeId) (x:V) (lo hi:Option V):Option V :=
 match x with
 | .sc a=>match lo with
  | none=>match hi with
   | none=>uy P (fun a=>Instr.sliceAt T a none none none) (.sc a)
   | some h=>eO P (fun a h=>Instr.sliceAt T a none (some h) none) (.sc a) h
  | some l=>match hi with
   | none=>eO P (fun a l=>Instr.sliceAt T a (some l) none none) (.sc a) l
   | some h=>match fI h with
    | some h=>eO P (fun a l=>Instr.sliceAt T a (some l) (some h) none) (.sc a) l
    | none=>none
 | x=>match jy tt T with
  | none=>none
  | some e=>match pf tt e with
   | none=>none
   | some size=>match lo with
    | none=>match hi with
     | none=>cutAt mem size 0 none x
     | some h=>match GJ h with|some h=>cutAt mem size 0 (some h) x|none=>none
    | some l=>match GJ l with
     | none=>none
     | some l=>match hi with
      | none=>cutAt mem size l none x
      | some h=>match GJ h with|some h=>cutAt mem size l (some h) x|none=>none
theorem si {E:Env} {v:V} {x:Value} {n:Int} (h:cV E v x) (hv:GJ v=some n):∃ k,x = .int k n:=by
 unfold GJ at hv;split at hv;·cases h;simp at hv;subst hv;exact⟨_,rfl⟩
 simp at hv
theorem pj {E:Env} {w:World} {a:Act} {st:St} (hs:cY E w a st) {size:Nat} {l:Int} {h:Option Int} {x v:V} {y:Value} (hx:cV E x y) (hc:cutAt st.mem size l h x=some v) :
  ∃ aa len cap,y = .slice aa len cap∧0≤l∧l≤h.getD len∧h.getD len≤len∧len≤cap ∧
   cV E v (.slice (if cap=l.toNat then aa else aa.map (·.add (l.toNat*size))) (h.getD len-l).toNat (cap-l.toNat)):=by
 unfold cutAt at hc;split at hc
 ·rename_i rows;split at hc
  ·rename_i hh;obtain⟨h0,h1,h2,h3⟩:=hh;simp only [aB] at hc;subst hc
   cases hx with
   | slice _ _ aa cap uO ad xf ha n6 hz hF qN hR =>
    refine⟨aa,rows.length,cap,rfl,h0,h1,h2,n6,?_⟩
    have hlen:((rows.drop l.toNat).take (h.getD rows.length-l).toNat).length=(h.getD rows.length-l).toNat:=by simp;omega
    have hg:∀ (i:Nat) (row:V),((rows.drop l.toNat).take (h.getD rows.length-l).toNat)[i]?=some row→rows[l.toNat+i]?=some row:=fun i row hi=>by
     rw [jd] at hi
     split at hi
     ·simpa using hi
     simp at hi
    suffices GK:cV E (.slice ((rows.drop l.toNat).take (h.getD rows.length-l).toNat)) (.slice (if cap=l.toNat then aa else aa.map (·.add (l.toNat*size))) ((rows.drop l.toNat).take (h.getD rows.length-l).toNat).length (cap-l.toNat)) by
     rw [hlen] at GK;exact GK
    refine .slice _ _ _ (cap-l.toNat) uO (ad.add (l.toNat*uO)) (fun i j=>xf (l.toNat+i) j) (fun cK=>?_) (by rw [hlen];omega) (fun i row hi=>hz _ _ (hg i row hi))
     (fun i row j c hi hj=>by rw [add_add,← o6,← jw];exact hF _ _ _ _ (hg i row hi) hj) (fun i row j c hi hj=>qN _ _ _ _ (hg i row hi) hj) fun i row j c hi hj=>hR _ _ _ _ (hg i row hi) hj
    have bR:l.toNat<rows.length:=by
     rcases br l.toNat rows.length with bR|hZ
     ·exact bR
     exact absurd (by rw [cH hZ];simp) cK
    have PR:rows≠[]:=by rintro rfl;simp at bR
    rw [if_neg (by omega),ha PR]
    unfold cM at h3
    rw [af bR] at h3
    simp only [beq_iff_eq] at h3
    rw [← h3,hz _ _ (af bR)]
    rfl
  simp at hc
 ·rename_i b v s n;split at hc;(·rename_i hh;obtain⟨h0,h1,h2,h3⟩:=hh;simp only [aB] at hc;subst hc;cases hx with|jl =>refine⟨none,0,0,rfl,h0,h1,h2,ax _,?_⟩;(have e1:l.toNat=0:=by have:((0:Nat):Int)=0:=rfl;omega);(have e2:(h.getD (0:Nat)-l).toNat=0:=by have:((0:Nat):Int)=0:=rfl;omega);rw [e1,e2];exact .jl _ _ _ _|ms _ _ _ _ _ g e c aa cap hb hl NC Dm =>obtain rfl:=GI hs h3 hb;refine⟨aa,n,cap,rfl,h0,h1,h2,Dm.1,?_⟩;refine .ms _ _ _ _ _ g e c _ _ hb (fun hp=>?_) (fun hz=>?_) ⟨by omega,by omega,fun hp=>by rw [if_neg (by omega),Dm.2.2 (by omega)];simp only [aC,add_lit,← jw]⟩;(·rw [if_neg (by omega),hl (by omega)];simp only [aC,add_lit,← jw]);obtain⟨h5,h6⟩:=NC (by omega);(have:l.toNat=0:=by omega);rw [this,h5];refine⟨?_,by omega⟩;split;(·rfl);simp [Addr.add]);simp at hc
 simp at hc
theorem pn {P:Program} {tt:Table} (ht:TT P tt) {T e:TypeId} {size:Nat} (he:jy tt T=some e) (hz:pf tt e=some size) (w:World) (aa:Option Addr) (len cap:Nat) (lo hi:Option Value)
  (l:Int) (h:Option Int) (qO:(lo=none∧l=0)∨∃ k,lo=some (.int k l)) (vI:(hi=none∧h=none)∨∃ k n,hi=some (.int k n)∧h=some n)
  (h0:0≤l) (h1:l≤h.getD len) (h2:h.getD len≤len) (h3:len≤cap) :
  (Instr.sliceAt T (.slice aa len cap) lo hi none).run P w = .ok (.slice (if cap=l.toNat then aa else aa.map (·.add (l.toNat*size))) (h.getD len-l).toNat (cap-l.toNat)) w:=by unfold jy at he;unfold pf at hz;cases hT:tt T with|none=>rw [hT] at he;simp at he|some iT =>rw [hT] at he;simp only at he;cases hE:tt e with|none=>rw [hE] at hz;simp at hz|some ie =>rw [hE] at hz;simp only [aB] at hz;subst hz;obtain⟨d,hd,-,EA,-⟩:=ht.desc T iT hT;obtain rfl:=EA e he;(have apX:∀ m:Int,(m-l).toNat=m.toNat-l.toNat:=fun m=>by omega);(rcases qO with ⟨rfl,rfl⟩|⟨k,rfl⟩ <;> rcases vI with ⟨rfl,rfl⟩|⟨k',n,rfl,rfl⟩ <;> simp only [ajp,atw] at h1 h2 ⊢ <;> simp only [Instr.sliceAt,Instr.slice,Sem.run_bind,bC hd,Result.andThen_ok,Instr.sliceBounds,Instr.sliceBound,asIntOf,Sem.run_pure,ht.sizeOf hE,atC]);(·simp);(·rw [if_pos ⟨by omega,by omega⟩];simp);(·rw [if_pos ⟨by omega,by omega⟩];simp;omega);rw [if_pos ⟨by omega,by omega⟩];simp only [Sem.run_pure,Result.andThen_ok];rw [if_pos ⟨by omega,by omega⟩];simp;omega
end Go.Eng
end
section
namespace Go.Eng
variable [bk]
def ib (kind:TypeDesc) (k:Value):List (Value×Nat×V)→Nat→Option (Option (Nat×V))
 | [],_=>some none
 | e :: r,i=>match Instr.sameNow kind k e.1 with
  | some true=>some (some (i,e.2.2))
  | some false=>ib kind k r (i+1)
  | none=>none
def sj (P:Program) (T:TypeId) (k:Value):List (Value×Nat×V)→Nat→Option (Option (Nat×V))
 | [],_=>some none
 | e :: r,i=>match dc P (Op.equal T k e.1) with
  | some true=>some (some (i,e.2.2))
  | some false=>sj P T k r (i+1)
  | none=>none
def qg (P:Program) (T:TypeId) (k:Value) (dK:List (Value×Nat×V)):Option (Option (Nat×V)) :=
 match P.underlying T with
 | some d=>match ib d k dK 0 with
  | some r=>some r
  | none=>sj P T k dK 0
 | none=>none
def Found (E:Env) (dK:List (Value×Nat×V)) (es:List MapEntry):Option (Nat×V)→Option (Nat×Value)→Prop
 | none,none=>True
 | some (i,v),some (j,x)=>i=j∧cV E v x∧∃ kb e,dK[i]?=some kb∧es[i]?=some e∧kb.2.2=v∧e.val=x
 | _,_=>False
theorem gL.get {E:Env} {dK:List (Value×Nat×V)} {es:List MapEntry} (h:gL E dK es) {i:Nat} {kb:Value×Nat×V} (hk:dK[i]?=some kb):∃ e,es[i]?=some e∧e.key=kb.1∧e.born=kb.2.1∧cV E kb.2.2 e.val:=by
 have hi:i<es.length:=by rw [← h.1];exact (aq.1 hk).1
 exact⟨es[i],af hi,h.2 i kb _ hk (af hi)⟩
theorem gL.drop {E:Env} {dK:List (Value×Nat×V)} {es:List MapEntry} (h:gL E dK es) (n:Nat):gL E (dK.drop n) (es.drop n) :=
 ⟨by simp [h.1],fun i k e hk he=>h.2 (n+i) k e (by simpa using hk) (by simpa using he)⟩
theorem gL.of_nil {E:Env} {es:List MapEntry} (h:gL E [] es):es=[]:=by have:=h.1;simp at this;exact b7.1 this.symm
theorem gL.of_cons {E:Env} {k:Value×Nat×V} {r:List (Value×Nat×V)} {es:List MapEntry} (h:gL E (k :: r) es):∃ e es',es=e :: es'∧e.key=k.1∧e.born=k.2.1∧cV E k.2.2 e.val∧gL E r es':=by cases es with|nil=>have:=h.1;simp at this|cons e es' =>obtain⟨h1,h2,h3⟩:=h.2 0 k e rfl rfl;exact⟨e,es',rfl,h1,h2,h3,by have:=h.1;simpa using this,fun i k' e' hk he=>h.2 (i+1) k' e' (by simpa using hk) (by simpa using he)⟩
theorem Av {E:Env} {kind:TypeDesc} {k:Value} {dK:List (Value×Nat×V)} {es:List MapEntry} (h:gL E dK es):∀ (n:Nat) {r:Option (Nat×V)},ib kind k (dK.drop n) n=some r →
  ∃ r',Instr.findNow kind k (es.drop n) n=some r'∧Found E dK es r r':=by intro n;generalize hl:dK.length-n=m;induction m generalizing n with|zero =>intro r hr;have h1:dK.drop n=[]:=cH (by omega);have h2:es.drop n=[]:=cH (by have:=h.1;omega);rw [h1] at hr;rw [h2];simp only [ib,aB] at hr;subst hr;exact⟨none,rfl,trivial⟩|succ m ih =>intro r hr;(have hn:n<dK.length:=by omega);(have XY:n<es.length:=by have:=h.1;omega);rw [cr hn] at hr;rw [cr XY];have hk:=af hn;have he:=af XY;obtain⟨h1,h2,h3⟩:=h.2 n _ _ hk he;simp only [ib] at hr;simp only [Instr.findNow,h1];split at hr;(·rename_i hs;rw [hs];simp only [aB] at hr;subst hr;exact⟨_,rfl,rfl,h3,_,_,hk,he,rfl,rfl⟩);(·rename_i hs;rw [hs];exact ih (n+1) (by omega) hr);cases hr
theorem CQ {E:Env} {kind:TypeDesc} {k:Value} {dK:List (Value×Nat×V)} {es:List MapEntry} (h:gL E dK es):∀ (n:Nat),ib kind k (dK.drop n) n=none→Instr.findNow kind k (es.drop n) n=none:=by intro n;generalize hl:dK.length-n=m;induction m generalizing n with|zero =>intro hr;have h1:dK.drop n=[]:=cH (by omega);rw [h1] at hr;simp [ib] at hr|succ m ih =>intro hr;(have hn:n<dK.length:=by omega);(have XY:n<es.length:=by have:=h.1;omega);rw [cr hn] at hr;rw [cr XY];obtain⟨h1,h2,h3⟩:=h.2 n _ _ (af hn) (af XY);simp only [ib] at hr;simp only [Instr.findNow,h1];split at hr;(·cases hr);(·rename_i hs;rw [hs];exact ih (n+1) (by omega) hr);rename_i hs;rw [hs]
theorem Aw {P:Program} {E:Env} {T:TypeId} {k:Value} {dK:List (Value×Nat×V)} {es:List MapEntry} (h:gL E dK es) (w:World):∀ (n:Nat) {r:Option (Nat×V)},sj P T k (dK.drop n) n=some r →
  ∃ r',(Instr.findAsking T k (es.drop n) n).run P w = .ok r' w∧Found E dK es r r':=by intro n;generalize hl:dK.length-n=m;induction m generalizing n with|zero =>intro r hr;have h1:dK.drop n=[]:=cH (by omega);have h2:es.drop n=[]:=cH (by have:=h.1;omega);rw [h1] at hr;rw [h2];simp only [sj,aB] at hr;subst hr;exact⟨none,rfl,trivial⟩|succ m ih =>intro r hr;(have hn:n<dK.length:=by omega);(have XY:n<es.length:=by have:=h.1;omega);rw [cr hn] at hr;rw [cr XY];have hk:=af hn;have he:=af XY;obtain⟨h1,h2,h3⟩:=h.2 n _ _ hk he;simp only [sj] at hr;simp only [Instr.findAsking,h1,Sem.run_bind];split at hr;(·rename_i hs;rw [gO _ hs w];simp only [aB] at hr;subst hr;exact⟨_,rfl,rfl,h3,_,_,hk,he,rfl,rfl⟩);(·rename_i hs;rw [gO _ hs w];simpa using ih (n+1) (by omega) hr);cases hr
theorem iG {P:Program} {E:Env} {T:TypeId} {k:Value} {dK:List (Value×Nat×V)} {es:Array MapEntry} (h:gL E dK es.toList) (w:World) {r:Option (Nat×V)} (hr:qg P T k dK=some r) :
  ∃ r',(Instr.findKey T k es.toList).run P w = .ok r' w∧Found E dK es.toList r r':=by
 unfold qg at hr;split at hr;·rename_i d hd;simp only [Instr.findKey,Sem.run_bind,bC hd,Result.andThen_ok];split at hr;(·rename_i r1 h1;simp only [aB] at hr;subst hr;obtain⟨r',h2,h3⟩:=Av h 0 (r:=r1) (by simpa using h1);simp only [as5] at h2;rw [h2];exact⟨r',rfl,h3⟩);rename_i h1;have h2:=CQ h 0 (by simpa using h1);simp only [as5] at h2;rw [h2];simpa using Aw h w 0 (r:=r) (by simpa using hr)
 cases hr
def uz (P:Program) (T:TypeId) (k:Value):Bool :=
 match P.underlying T with
 | some (.int _)=>true
 | some .string=>true
 | some .bool=>true
 | _=>match dc P (Instr.checkKey false 10000 T k),dc P (Instr.checkKey true 10000 T k) with
  | some _,some _=>true
  | _,_=>false
theorem po {P:Program} {T:TypeId} {k:Value} (h:uz P T k=true) (b:Bool) (w:World):(Instr.checkKey b 10000 T k).run P w = .ok () w:=by
 unfold uz at h;have ZX:∀ d,P.underlying T=some d→(∀ m,d ≠ .interface m)→(∀ n e,d ≠ .array n e)→(∀ fs,d ≠ .struct fs)→(Instr.checkKey b 10000 T k).run P w = .ok () w:=by intro d hd h1 h2 h3;show (Instr.checkKey b (9999+1) T k).run P w=_;rw [Instr.checkKey];simp only [Sem.run_bind,bC hd,Result.andThen_ok];cases d <;> first|(cases k <;> rfl)|exact absurd rfl (h1 _)|exact absurd rfl (h2 _ _)|exact absurd rfl (h3 _)
 split at h;·rename_i hd;exact ZX _ hd (by simp) (by simp) (by simp)
 ·rename_i hd;exact ZX _ hd (by simp) (by simp) (by simp)
 ·rename_i hd;exact ZX _ hd (by simp) (by simp) (by simp)
 split at h;·rename_i h1 h2;cases b;(·exact gO _ h1 w);exact gO _ h2 w
 cases h
def zeroV (P:Program) (T:TypeId):Option V :=
 match P.info? T with
 | some i=>match i.zero with|some z=>some (lj z)|none=>none
 | none=>none
theorem sk {P:Program} {T:TypeId} {v:V} (h:zeroV P T=some v) (E:Env) (w:World):∃ z,(zeroValue T).run P w = .ok z w∧cV E v z:=by
 unfold zeroV at h;split at h;·rename_i i hi;split at h;(·rename_i z hz;cases h;exact⟨z,by simp [zeroValue,gW hi,hz],ll E z⟩);cases h
 cases h
def ji (P:Program) (T:TypeId):Option (TypeId×TypeId):=match P.underlying T with|some (.map k e)=>some (k,e)|_=>none
theorem lF {P:Program} {T kt et:TypeId} (h:ji P T=some (kt,et)):P.underlying T=some (.map kt et):=by
 unfold ji at h;split at h;·rename_i hd;cases h;exact hd
 cases h
def UY (ok b:Bool) (v:V):V:=if ok=true then .ec [v,.sc (.bool b)] else v
theorem EC {E:Env} {v:V} {x:Value} (h:cV E v x) (ok b:Bool):cV E (UY ok b v) (if ok=true then .tuple #[x,.bool b] else x):=by
 unfold UY;split;·refine .ec _ _ _ rfl fun i c y hc hy=>?_;match i with|0=>simp at hc hy;subst hc;subst hy;exact h|1=>simp at hc hy;subst hc;subst hy;exact .sc _ _|i+2=>simp at hc
 exact h
def qh (P:Program) (mem:List bm) (kt et:TypeId) (m:V) (key:Value) (ok:Bool):Option V :=
 match m with
 | .mp b=>match mem[b]? with
  | some (.map dK _)=>match qg P kt key dK with
   | some (some (_,v))=>some (UY ok true v)
   | some none=>match zeroV P et with|some z=>some (UY ok false z)|none=>none
   | none=>none
  | _=>none
 | .sc (.map none)=>match qg P kt key [] with
  | some none=>match zeroV P et with|some z=>some (UY ok false z)|none=>none
  | _=>none
 | _=>none
def kK (P:Program) (mem:List bm) (T:TypeId) (m i:V) (ok:Bool):Option V :=
 match ji P T with
 | some (kt,et)=>match fI i with
  | some key=>if uz P kt key=true then qh P mem kt et m key ok else none
  | none=>none
 | none=>none
theorem uQ {E:Env} {b:Nat} {x:Value} (h:cV E (.mp b) x):∃ g e c,x = .map (some g)∧E.cw b 0=some (g,e,c):=by cases h with|mp _ _ l e c hb=>exact⟨l,e,c,rfl,hb⟩
theorem ni {E:Env} {w:World} {a:Act} {st:St} (hs:cY E w a st) {b:Nat} {dK:List (Value×Nat×V)} {clock:Nat} (hm:st.mem[b]?=some (.map dK clock)) {g e c:Nat} (hb:E.cw b 0=some (g,e,c)) :
  ∃ es,w.heap[g]?=some (.map es clock)∧gL E dK es.toList∧(∀ o,E.F ⟨g,o,none⟩=none)∧(e,c)=(0,0):=by obtain⟨g',es,h1,h2,h3,h4⟩:=hs.mem b _ hm;rw [hb] at h1;cases h1;exact⟨es,h2,h3,h4,rfl⟩
theorem fU {P:Program} {w:World} {g:Nat} {es:Array MapEntry} {clock:Nat} (h:w.heap[g]?=some (.map es clock)):(getObj g).run P w = .ok (.map es clock) w:=by simp [getObj,Sem.run,h]
theorem jF {P:Program} {w:World} {g:Nat} {o o':Obj} (h:w.heap[g]?=some o) (hc:∀ a b c,o ≠ .cells a b c):(setObj g o').run P w = .ok () { w with heap:=w.heap.setIfInBounds g o' }:=by unfold setObj;rw [Sem.run,h];cases o <;> first|rfl|exact absurd rfl (hc _ _ _)
theorem tD {E:Env} {v y:Value} (h:cV E (.sc v) y):y=v:=by cases h;rfl
theorem CR {P:Program} {E:Env} {w:World} {a:Act} {st:St} (hs:cY E w a st) {T:TypeId} {m i v:V} {ok:Bool} {x y:Value} (hm:cV E m x) (hi:cV E i y) (h:kK P st.mem T m i ok=some v) :
  ∃ z,(Instr.lookup T x y ok).run P w = .ok z w∧cV E v z:=by
 unfold kK at h;split at h;·rename_i kt et hd;have hd:=lF hd;split at h;(·rename_i key fQ;cases kJ hi fQ;split at h;(·rename_i fF;have J0:=fun b=>po fF b w;unfold qh at h;split at h;(·rename_i b;obtain⟨g,e,c,rfl,hb⟩:=uQ hm;split at h;(·rename_i dK clock hB;obtain⟨es,hh,hr,-⟩:=ni hs hB hb;split at h;(·rename_i j u hf;obtain⟨r',h1,h2⟩:=iG hr w hf;match r',h2 with|some (j',z),h2 =>cases h;exact⟨_,by simp [Instr.lookup,bC hd,fU hh,J0,h1],EC h2.2.1 ok true⟩);(·rename_i hf;obtain⟨r',h1,h2⟩:=iG hr w hf;match r',h2 with|none,h2 =>split at h;(·rename_i z hz;cases h;obtain⟨z',h3,h4⟩:=sk hz E w;exact⟨_,by simp [Instr.lookup,bC hd,fU hh,J0,h1,h3],EC h4 ok false⟩);cases h);cases h);cases h);(·obtain rfl:=tD hm;split at h;(·rename_i hf;obtain⟨r',h1,h2⟩:=iG (E:=E) (es := #[]) ⟨rfl,fun i k e h=>by simp at h⟩ w hf;match r',h2 with|none,h2 =>split at h;(·rename_i z hz;cases h;obtain⟨z',h3,h4⟩:=sk hz E w;exact⟨_,by simp at h1;simp [Instr.lookup,bC hd,J0,h1,h3],EC h4 ok false⟩);cases h);cases h);cases h);cases h);cases h
 cases h
def xz (mem:List bm) (ts:Array TypeId) (P:Program):List V→Option V
 | [.mp b]=>match mem[b]? with
  | some (.map dK _)=>match ts[0]? with
   | some T=>match ji P T with|some _=>some (.sc (.int .i64 dK.length))|none=>none
   | none=>none
  | _=>none
 | _=>none
theorem J1 {P:Program} {E:Env} {w:World} {a:Act} {st:St} (hs:cY E w a st) {ts:Array TypeId} {ty:TypeId} {xs:List V} {v:V} {ys:Array Value} (hx:cJ E xs ys.toList) (h:xz st.mem ts P xs=some v) :
  ∃ z,(Builtin.len_ ts ty ys).run P w = .ok z w∧cV E v z:=by
 unfold xz at h;split at h;·rename_i b;split at h;(·rename_i dK clock hB;split at h;(·rename_i T h0;split at h;(·rename_i p hp;cases h;obtain⟨kt,et⟩:=p;have hd:=lF hp;obtain⟨x,r,hy,h1,h2⟩:=hx.of_cons;have:=h2.of_nil;subst this;(obtain rfl:ys = #[x]:=by rw [← cX (xs:=ys),hy]);obtain⟨g,e,c,rfl,hb⟩:=uQ h1;obtain⟨es,hh,hr,-⟩:=ni hs hB hb;refine⟨.int .i64 es.size,by simp [Builtin.len_,h0,bC hd,fU hh,goInt],?_⟩;(have:dK.length=es.size:=by simpa using hr.1);rw [this];exact .sc _ _);cases h);cases h);cases h
 cases h
def ND (mem:List bm) (it:V):Option V :=
 match it with
 | .ptr b 0=>match mem[b]? with
  | some (.jR m _ seen last)=>match mem[m]? with
   | some (.map dK clock)=>if clock=last then (match seen.getLast? with
    | some GL=>match dK.find? (fun e=>e.2.1==GL) with
     | some e=>some (.ec [lj e.1,e.2.2])
     | none=>none
    | none=>none) else none
   | _=>none
  | _=>none
 | _=>none
theorem gL.find {E:Env} (p:Nat→Bool):∀ {dK:List (Value×Nat×V)} {es:List MapEntry} {k:Value×Nat×V},gL E dK es→dK.find? (fun e=>p e.2.1)=some k→∃ e,es.find? (fun e=>p e.born)=some e∧e.key=k.1∧cV E k.2.2 e.val
 | [],es,k,h,hf=>by simp at hf
 | c :: r,es,k,h,hf=>by
  obtain⟨e,es',rfl,h1,h2,h3,h4⟩:=h.of_cons
  rw [List.find?_cons] at hf ⊢
  rw [h2]
  split at hf
  ·rename_i hp;cases hf;exact⟨e,rfl,h1,h3⟩
  exact gL.find p h4 hf
theorem J2 {P:Program} {E:Env} {w:World} {a:Act} {st:St} (hs:cY E w a st) {it v:V} {x:Value} (hi:cV E it x) (h:ND st.mem it=some v):∃ z,(Instr.entry x).run P w = .ok z w∧cV E v z:=by
 unfold ND at h;split at h;·rename_i b;split at h;(·rename_i m since seen last hB;split at h;(·rename_i dK clock hM;split at h;(·rename_i pO;split at h;(·rename_i GL oC;split at h;(·rename_i e he;cases h;obtain⟨g,gm,em,cm,hb,UZ,hh,hf⟩:=hs.mem b _ hB;obtain⟨es,hhm,hr,hfm,h0⟩:=ni hs hM UZ;cases hi with|ptr _ _ _ g' e' c' kV =>rw [hb] at kV;cases kV;(have jG:(getObj g).run P w = .ok (.mapIter (some gm) since seen.toArray last) w:=by simp [getObj,Sem.run,hh]);obtain⟨en,h1,h2,h3⟩:=gL.find (fun n=>n==GL) hr he;(have ad7:seen.toArray.back?=some GL:=by simpa using oC);(have GM:es.find? (fun e=>e.born==GL)=some en:=by rw [← List.find?_toArray,cX] at h1;exact h1);refine⟨.tuple #[en.key,en.val],?_,?_⟩;(·subst pO;simp only [Instr.entry,Sem.run_bind,jG,Result.andThen_ok,ad7,fU hhm,bne_self_eq_false,bJ,if_false,GM];rfl);refine .ec _ _ _ rfl fun i c y hc hy=>?_;match i with|0=>simp at hc hy;subst hc;subst hy;rw [h2];exact ll E _|1=>simp at hc hy;subst hc;subst hy;exact h3|i+2=>simp at hc);cases h);cases h);cases h);cases h);cases h
 cases h
end Go.Eng
end
section
namespace Go.Eng
variable [bk]
theorem gP {E:Env} {v y:Value} (h:cV E (.sc v) y):y=v:=by cases h;rfl
theorem J3 {P:Program} {tt:Table} (ht:TT P tt) {E:Env} {w:World} {a:Act} {st:St} (hs:cY E w a st) {T:TypeId} {x v:V} {lo hi:Option Operand} {y:Value} (hx:cV E x y)
  (h:EB P tt st.mem T x (lo.map st.eval) (hi.map st.eval)=some v):∃ z,(Instr.sliceAt T y (lo.map a.eval) (hi.map a.eval) none).run P w = .ok z w∧cV E v z:=by
 unfold EB at h;split at h;·cases lo with|none =>(cases hi with|none=>exact sg hx h|some hi=>exact nz (f:=fun a h=>Instr.sliceAt T a none (some h) none) hx (hs.eval hi) h)|some lo =>cases hi with|none=>exact nz (f:=fun a l=>Instr.sliceAt T a (some l) none none) hx (hs.eval lo) h|some hi =>simp only [aC] at h ⊢;split at h;(·rename_i hv hhv;rw [kJ (hs.eval hi) hhv];exact nz (f:=fun a l=>Instr.sliceAt T a (some l) (some hv) none) hx (hs.eval lo) h);simp at h
 split at h;·simp at h
 rename_i e he;split at h;·simp at h
 rename_i size hz;cases lo with|none =>(cases hi with|none =>obtain⟨aa,len,cap,rfl,h0,h1,h2,h3,hr⟩:=pj hs hx h;exact⟨_,pn ht he hz w aa len cap none none 0 none (.inl ⟨rfl,rfl⟩) (.inl ⟨rfl,rfl⟩) h0 h1 h2 h3,hr⟩|some hi =>simp only [aC,asK] at h ⊢;split at h;(·rename_i n hn;obtain⟨k,hk⟩:=si (hs.eval hi) hn;obtain⟨aa,len,cap,rfl,h0,h1,h2,h3,hr⟩:=pj hs hx h;exact⟨_,pn ht he hz w aa len cap none _ 0 (some n) (.inl ⟨rfl,rfl⟩) (.inr ⟨k,n,by rw [hk],rfl⟩) h0 h1 h2 h3,hr⟩);simp at h)|some lo =>simp only [aC] at h ⊢;split at h;(·simp at h);rename_i l hl;obtain⟨k,hk⟩:=si (hs.eval lo) hl;cases hi with|none =>simp only [asK] at h ⊢;obtain⟨aa,len,cap,rfl,h0,h1,h2,h3,hr⟩:=pj hs hx h;exact⟨_,pn ht he hz w aa len cap _ none l none (.inr ⟨k,by rw [hk]⟩) (.inl ⟨rfl,rfl⟩) h0 h1 h2 h3,hr⟩|some hi =>simp only [aC] at h ⊢;split at h;(·rename_i n hn;obtain⟨k',kX⟩:=si (hs.eval hi) hn;obtain⟨aa,len,cap,rfl,h0,h1,h2,h3,hr⟩:=pj hs hx h;exact⟨_,pn ht he hz w aa len cap _ _ l (some n) (.inr ⟨k,by rw [hk]⟩) (.inr ⟨k',n,by rw [kX],rfl⟩) h0 h1 h2 h3,hr⟩);simp at h
def pP:List V→Option (List Value)
 | []=>some []
 | v :: r=>match fI v with
  | some x=>match pP r with|some l=>some (x :: l)|none=>none
  | none=>none
theorem qP {E:Env}:∀ {vs:List V} {xs l:List Value},cJ E vs xs→pP vs=some l→xs=l
 | [],xs,l,h,hl=>by simp [pP] at hl;subst hl;exact h.of_nil
 | v :: vs,xs,l,h,hl=>by
  obtain⟨x,ys,rfl,h1,h2⟩:=h.of_cons
  simp only [pP] at hl
  split at hl
  ·rename_i x' UX
   split at hl
   ·rename_i l' hl'
    simp only [aB] at hl;subst hl
    rw [kJ h1 UX,qP h2 hl']
   simp at hl
  simp at hl
def iH (P:Program) (f:Array Value→Sem Value) (xs:List V):Option V :=
 match pP xs with
 | some l=>match dc P (f l.toArray) with|some v=>some (lj v)|none=>none
 | none=>none
theorem cY.qi {E:Env} {w:World} {a:Act} {st:St} (hs:cY E w a st) (xs:Array Operand):cJ E (xs.toList.map st.eval) (xs.map a.eval).toList:=by refine⟨by simp,fun i v x hv hx=>?_⟩;simp only [ae,Array.toList_map,bH] at hv hx;obtain⟨o,ho,rfl⟩:=hv;obtain⟨o',XZ,rfl⟩:=hx;rw [ho] at XZ;cases XZ;exact hs.eval o
def ED (P:Program) (tt:Table) (ts:Array TypeId) (ty:TypeId):List V→Option V
 | [.slice rows]=>match ts[0]? with
  | some t=>match jy tt t with|some _=>some (.sc (.int .i64 rows.length))|none=>none
  | none=>none
 | [.ms _ _ _ l]=>match ts[0]? with
  | some t=>match jy tt t with|some _=>some (.sc (.int .i64 l))|none=>none
  | none=>none
 | xs=>iH P (Builtin.len_ ts ty) xs
def aoz (tt:Table) (S:TypeId) (f:Nat) (T:TypeId) (x:V):Option V :=
 match x with
 | .agg cs=>match Vn tt S f with
  | some off=>jY tt T (cs.drop off)
  | none=>none
 | _=>none
def NF (k:Int):Bool:=match bk.κ k with|some b=>b|none=>decide (k≤bk.n)
theorem EE (k:Int):NF k=decide (k≤bk.n):=by
 unfold NF;split;·rename_i b h;exact (bk.ok k b h).symm
 rfl
def Mf (op:BinOp) (x y:V):Option V :=
 match y with
 | .gn=>match op,x with
  | .leq,.sc (.int .i64 k)=>some (.sc (.bool (NF k)))
  | .gtr,.sc (.int .i64 k)=>some (.sc (.bool (!NF k)))
  | _,_=>none
 | _=>none
theorem GO {P:Program} {E:Env} {w:World} {op:BinOp} {T:TypeId} {x y v:V} {a b:Value} (xo yo:Operand) (hx:cV E x a) (hy:cV E y b) (h:Mf op x y=some v) :
  ∃ z,(do eqGuard op T xo yo a b;binOp op T a b:Sem Value).run P w = .ok z w∧cV E v z:=by
 unfold Mf at h;split at h;·cases hy;split at h;(·rename_i k;cases h;cases hx;refine⟨.bool (decide (k≤bk.n)),by simp [binOp,Op.intCmp,eqGuard],by rw [EE];exact .sc _ _⟩);(·rename_i k;cases h;cases hx;refine⟨.bool (decide (k>bk.n)),by simp [binOp,Op.intCmp,eqGuard],?_⟩;(have:(!NF k)=decide (k>bk.n):=by rw [EE];by_cases h:k≤bk.n;(·rw [decide_eq_true h,decide_eq_false (by omega)];rfl);rw [decide_eq_false h,decide_eq_true (by omega)];rfl);rw [this];exact .sc _ _);cases h
 cases h
def xD (P:Program) (op:BinOp) (T:TypeId) (y:V):Option V :=
 match y with
 | .sc (.pointer none)=>match P.underlying T with
  | some (.pointer _)=>match op with
   | .eql=>some (.sc (.bool false))
   | .neq=>some (.sc (.bool true))
   | _=>none
  | _=>none
 | _=>none
def EF (P:Program) (op:BinOp) (T:TypeId) (x y:V):Option V :=
 match x with
 | .eW _=>xD P op T y
 | .ptr _ _=>xD P op T y
 | .iw _ _ _ _=>xD P op T y
 | _=>none
theorem EG {P:Program} {E:Env} {w:World} {op:BinOp} {T:TypeId} {x y v:V} {a b:Value} (xo yo:Operand) (hx:cV E x a) (hy:cV E y b) (h:EF P op T x y=some v) :
  ∃ z,(do eqGuard op T xo yo a b;binOp op T a b:Sem Value).run P w = .ok z w∧cV E v z:=by
 have key:∀ ad:Addr,a = .pointer (some ad)→xD P op T y=some v→∃ z,(do eqGuard op T xo yo a b;binOp op T a b:Sem Value).run P w = .ok z w∧cV E v z:=by rintro ad rfl h;unfold xD at h;split at h;(·split at h;(·rename_i e hT;cases hy;(have he:(Op.equal T (.pointer (some ad)) (.pointer none)).run P w = .ok false w:=by show (Op.equalIn (9999+1) T _ _).run P w=_;unfold Op.equalIn;simp [bC hT]);split at h;(·cases h;exact⟨.bool false,by simp [binOp,eqGuard,he],.sc _ _⟩);(·cases h;exact⟨.bool true,by simp [binOp,eqGuard,he],.sc _ _⟩);cases h);cases h);cases h
 unfold EF at h;split at h;·cases hx with|eW _ _ ad xf hF hR=>exact key ad rfl h
 ·cases hx with|ptr _ _ _ g e c hb=>exact key _ rfl h
 ·cases hx with|iw _ _ _ _ _ g e c hb=>exact key _ rfl h
 cases h
def l9:List V→Option (List Int)
 | []=>some []
 | .sc (.int .u8 n) :: r=>match l9 r with|some l=>some (n :: l)|none=>none
 | _=>none
def qQ (P:Program) (s d:TypeId) (rows:List V):Option V :=
 match P.underlying s with
 | some (.slice e)=>match P.underlying e with
  | some (.int .u8)=>match P.underlying d with
   | some .string=>match l9 rows with|some ns=>some (.sc (.string (strOfNums ns)))|none=>none
   | _=>none
  | _=>none
 | _=>none
def vJ (P:Program) (mem:List bm) (s d:TypeId):V→Option V
 | .slice rows=>qQ P s d rows
 | .ms b v o l=>match mem[b]? with
  | some (.rows v' e rs)=>if v'=v∧e=1∧o+l≤rs.length then qQ P s d ((rs.drop o).take l) else none
  | some (.vB v' e rs)=>if v'=v∧e=1∧o+l≤rs.length then qQ P s d ((rs.drop o).take l) else none
  | _=>none
 | x=>uy P (convert s d) x
theorem PS (P:Program) (mem:List bm) (s d:TypeId) (x:Value):vJ P mem s d (.sc x)=uy P (convert s d) (.sc x):=rfl
theorem GQ {P:Program} {mem:List bm} {s d e:TypeId} {rows:List V} {ns:List Int} (hs:P.underlying s=some (.slice e)) (he:P.underlying e=some (.int .u8)) (hd:P.underlying d=some .string) (hb:l9 rows=some ns) :
  vJ P mem s d (.slice rows)=some (.sc (.string (strOfNums ns))):=by simp only [vJ,qQ,hs,he,hd,hb]
theorem rN:∀ {rows:List V} {ns:List Int},l9 rows=some ns→ns.length=rows.length
 | [],ns,h=>by simp [l9] at h;subst h;rfl
 | r :: rs,ns,h=>by
  unfold l9 at h
  split at h
  ·rename_i heq;exact absurd heq (by simp)
  ·rename_i n l heq
   cases heq
   split at h
   ·rename_i l' hl
    cases h
    simp [rN hl]
   cases h
  cases h
theorem n8:∀ {rows:List V} {ns:List Int},l9 rows=some ns→∀ (i:Nat) (r:V),rows[i]?=some r→r = .sc (.int .u8 (ns.getD i 0))
 | [],ns,h,i,r,hr=>by simp at hr
 | r0 :: rs,ns,h,i,r,hr=>by
  unfold l9 at h
  split at h
  ·rename_i heq;exact absurd heq (by simp)
  ·rename_i n l heq
   cases heq
   split at h
   ·rename_i l' hl
    cases h
    cases i with
    | zero=>simp at hr;subst hr;rfl
    | succ i=>exact n8 hl i r (by simpa using hr)
   cases h
  cases h
theorem qR {P:Program} {w:World} {E:Env} {s d:TypeId} {rows:List V} {v:V} {aa:Option Addr} {cap:Nat} (h:qQ P s d rows=some v) (hn:rows≠[]→∃ g o,aa=some ⟨g,o,none⟩∧∀ (i:Nat) (r:V),rows[i]?=some r→∃ x,w.cell? ⟨g,o+i,none⟩=some x∧cV E r x) :
  ∃ y,(convert s d (.slice aa rows.length cap)).run P w = .ok y w∧cV E v y:=by
 unfold qQ at h;split at h;·rename_i e hs;split at h;(·rename_i he;split at h;(·rename_i hd;split at h;(·rename_i ns hb;cases h;refine⟨_,?_,.sc _ _⟩;have hl:=rN hb;cases rows with|nil =>(have:ns=[]:=b7.1 hl;subst this;rw [run_convert_bytes_string w s d e aa _ cap hs he hd];cases aa with|none=>simp [Conv.bytesToString];rfl|some a0 =>have:=run_bytesToString (P:=P) w a0 0 cap [] (by simp [loadCells,loadCellsFrom]);have e0:strOfNums []=ByteArray.empty:=rfl;rw [e0];simpa using this)|cons r0 rr =>obtain⟨g,o,rfl,hc⟩:=hn (by simp);refine run_convert_bytes_arg w s e hs he g o _ cap ns hl (fun i hi=>?_) d hd;obtain⟨x,hx,hr⟩:=hc i _ (af hi);rw [hx,n8 hb i _ (af hi)] at *;rw [gP hr]);cases h);cases h);cases h
 cases h
theorem yC {P:Program} {s d:TypeId} {rows:List V} {v:V} (h:qQ P s d rows=some v):∃ ns,l9 rows=some ns:=by
 unfold qQ at h;split at h;·split at h;(·split at h;(·split at h;(·rename_i ns hb;exact⟨ns,hb⟩);cases h);cases h);cases h
 cases h
theorem NH {w:World} {ad:Addr} {x:Value} (h:w.cell? ad=some x):ad.spot=none:=by
 unfold World.cell? at h;split at h;·split at h;(·simp at h);rename_i h1;cases hs:ad.spot with|none=>rfl|some s=>simp [hs] at h1
 simp at h
theorem GR {P:Program} {E:Env} {w:World} {a:Act} {st:St} (hs:cY E w a st) {s d:TypeId} {x v:V} {y:Value} (hx:cV E x y) (h:vJ P st.mem s d x=some v):∃ z,(convert s d y).run P w = .ok z w∧cV E v z:=by
 have ms:∀ (b v' o l e:Nat) (rs:List V),cV E (.ms b v' o l) y→e=1→o+l≤rs.length→(∀ g e' c,E.cw b v'=some (g,e',c)→e'=e∧mQ E.pure e rs (fun k=>w.cell? ⟨g,k,none⟩)) →
   qQ P s d ((rs.drop o).take l)=some v→∃ z,(convert s d y).run P w = .ok z w∧cV E v z:=by
  intro b v' o l e rs hr he hl nA hb
  obtain⟨ns,hns⟩:=yC hb
  have hlen:((rs.drop o).take l).length=l:=by simp;omega
  cases hr with
  | jl =>
   have h0:(rs.drop o).take 0=[]:=dV
   rw [h0] at hb
   exact qR (aa:=none) (cap:=0) (w:=w) (E:=E) hb (fun cK=>absurd rfl cK)
  | ms _ _ _ _ _ g e' c aa cap gN nL NC Dm =>
   have kV:=hb
   rw [← hlen]
   refine qR hb fun cK=>?_
   have uf:0<l:=by
    rcases atc l with h0|h0
    ·subst h0;exact absurd dV cK
    exact h0
   obtain⟨U0,ZY⟩:=nA g e' c gN
   subst he
   subst U0
   refine⟨g,o*1,nL uf,fun i r hi=>?_⟩
   have hi':rs[o+i]?=some r:=by
    rw [jd] at hi
    split at hi
    ·simpa using hi
    simp at hi
   obtain⟨-,h2⟩:=ZY _ r hi'
   have EH:=n8 hns i r hi
   obtain⟨x,hx,-,J4⟩:=h2 0 r (by rw [EH];rfl)
   refine⟨x,?_,J4.mono (Env.tB E)⟩
   have:(o+i)*1+0=o*1+i:=by omega
   rw [← this];exact hx
 unfold vJ at h;split at h;·rename_i rows;obtain⟨ns,hns⟩:=yC h;cases hx with|slice _ _ aa cap uO ad xf ha n6 hz hF qN hR =>refine qR h fun cK=>?_;(have key:∀ (i:Nat) (r:V),rows[i]?=some r→∃ x,w.cell? (ad.add i)=some x∧cV E r x:=fun i r hi=>by have EH:=n8 hns i r hi;(have hc:r.cells=[r]:=by rw [EH];rfl);(have he:uO=1:=by rw [← hz i r hi,hc];rfl);have h1:=hF i r 0 r hi (by rw [hc];rfl);have h2:=hR i r 0 r hi (by rw [hc];rfl);rw [he,Nat.mul_one,kG] at h1;exact⟨_,hs.F _ _ h1,h2.mono (Env.tB E)⟩);(obtain⟨r0,h0⟩:∃ r0,rows[0]?=some r0:=by cases rows with|nil=>exact absurd rfl cK|cons r0 rr=>exact⟨r0,rfl⟩);obtain⟨x0,Mg,-⟩:=key 0 r0 h0;(have ad8:ad.add 0=ad:=by simp [Addr.add]);have U1:=NH Mg;rw [ad8] at U1;obtain⟨g,o,sp⟩:=ad;obtain rfl:sp=none:=U1;refine⟨g,o,ha cK,fun i r hi=>?_⟩;obtain⟨x,hx,hr⟩:=key i r hi;exact⟨x,by rw [← hx];congr 1;unfold Addr.add;by_cases h0:i=0 <;> simp [h0],hr⟩
 ·rename_i b v' o l;split at h;(·rename_i v1 e rs hm;split at h;(·rename_i hc;obtain⟨rfl,rfl,hl⟩:=hc;refine ms b v1 o l 1 rs hx rfl hl (fun g e' c gN=>?_) h;(rcases hs.mem b _ hm with ⟨akp,hn⟩|⟨g',T,xs,c',kV,hh,-,-,nA,-⟩);(·rw [hn] at gN;cases gN);rw [kV] at gN;cases gN;refine⟨rfl,fun i row hi=>?_⟩;obtain⟨h1,h2⟩:=nA i row hi;refine⟨h1,fun j cc hj=>?_⟩;obtain⟨x,hx,h3⟩:=h2 j cc hj;exact⟨x,(ph hh _).trans hx,h3⟩);cases h);(·rename_i v1 e rs hm;split at h;(·rename_i hc;obtain⟨rfl,rfl,hl⟩:=hc;refine ms b v1 o l 1 rs hx rfl hl (fun g e' c gN=>?_) h;(rcases hs.mem b _ hm with ⟨akp,hn⟩|⟨g',c',kV,-,nA⟩);(·rw [hn] at gN;cases gN);rw [kV] at gN;cases gN;refine⟨rfl,fun i row hi=>?_⟩;obtain⟨h1,h2⟩:=nA i row hi;refine⟨h1,fun j cc hj=>?_⟩;obtain⟨x,hx,h3⟩:=h2 j cc hj;exact⟨x,hs.F _ _ hx,h3⟩);cases h);cases h
 exact sg hx h
def r7 (op:BinOp) (T:TypeId) (x y:Operand):Value→Value→Sem Value:=fun u v=>do eqGuard op T x y u v;binOp op T u v
def Ax (P:Program) (tt:Table) (T:TypeId) (x i:V):Option V :=
 match x with
 | .ptr b o=>match i with
  | .sc (.int _ n)=>match P.underlying T with
   | some (.array len e)=>match pf tt e with
    | some size=>if 0≤n∧n<len then some (.ptr b (o+n.toNat*size)) else none
    | none=>none
   | _=>none
  | _=>none
 | _=>none
theorem GU {P:Program} {tt:Table} (ht:TT P tt) {E:Env} {T:TypeId} {p i v:V} {x y:Value} (hp:cV E p x) (hi:cV E i y) (h:Ax P tt T p i=some v) (w:World) :
  ∃ z,(Instr.indexAt T x y).run P w = .ok z w∧cV E v z:=by
 unfold Ax pf at h;split at h;·rename_i b o;split at h;(·rename_i k n;split at h;(·rename_i len e hd;cases hE:tt e with|none=>rw [hE] at h;simp at h|some ie =>rw [hE] at h;simp only at h;split at h;(·rename_i h0;cases h;cases hi with|sc =>cases hp with|ptr _ _ _ g e' c hb =>refine⟨.pointer (some ⟨g,o+n.toNat*ie.size,none⟩),?_,.ptr _ _ _ g e' c hb⟩;simp [Instr.indexAt,asIntOf,bC hd,Instr.sureAddr,ht.sizeOf hE,h0,add_lit]);cases h);cases h);cases h
 cases h
def X0 (rows:List V):Bool→V
 | true=>.full rows
 | false=>.slice rows
def Mh (tt:Table) (T:TypeId) (x h m:V):Option V :=
 match x with
 | .slice rows=>match GJ h with
  | some a=>match GJ m with
   | some b=>match jy tt T with
    | some e=>match pf tt e with
     | some _=>if 0≤a∧a≤b∧b≤rows.length then some (X0 (rows.take a.toNat) (decide (a=b))) else none
     | none=>none
    | none=>none
   | none=>none
  | none=>none
 | _=>none
theorem GV {P:Program} {tt:Table} (ht:TT P tt) {E:Env} {T:TypeId} {x h m v:V} {y z u:Value} (hx:cV E x y) (hh:cV E h z) (hm:cV E m u) (hc:Mh tt T x h m=some v) (w:World) :
  ∃ q,(Instr.sliceAt T y none (some z) (some u)).run P w = .ok q w∧cV E v q:=by
 unfold Mh at hc;split at hc;·rename_i rows;split at hc;(·rename_i a ha;split at hc;(·rename_i b hb;obtain⟨k1,rfl⟩:=si hh ha;obtain⟨k2,rfl⟩:=si hm hb;unfold jy pf at hc;cases hT:tt T with|none=>rw [hT] at hc;simp at hc|some iT =>rw [hT] at hc;simp only at hc;cases he:iT.elem with|none=>rw [he] at hc;simp at hc|some e =>rw [he] at hc;simp only at hc;cases hE:tt e with|none=>rw [hE] at hc;simp at hc|some ie =>rw [hE] at hc;simp only at hc;obtain⟨d,hd,-,EA,-⟩:=ht.desc T iT hT;obtain rfl:=EA e he;split at hc;(·rename_i xr;obtain⟨h0,h1,h2⟩:=xr;cases hc;cases hx with|slice _ _ aa cap uO ad xf haa n6 hz hF qN hR =>(have hlen:(rows.take a.toNat).length=a.toNat:=by rw [cn];omega);(have gS:(Instr.sliceAt T (.slice aa rows.length cap) none (some (.int k1 a)) (some (.int k2 b))).run P w = .ok (.slice aa a.toNat b.toNat) w:=by simp only [Instr.sliceAt,Instr.slice,Sem.run_bind,bC hd,Result.andThen_ok,Instr.sliceBounds,Instr.sliceBound,asIntOf,Sem.run_pure,ht.sizeOf hE,atD];rw [if_pos ⟨by omega,by omega⟩];simp only [Sem.run_pure,Result.andThen_ok];rw [if_pos ⟨by omega,by omega⟩];simp [Addr.add]);refine⟨_,gS,?_⟩;(have hg:∀ (i:Nat) (row:V),(rows.take a.toNat)[i]?=some row→rows[i]?=some row:=fun i row hi=>by rw [jd] at hi;split at hi;(·exact hi);cases hi);have:=cV.slice E (rows.take a.toNat) aa b.toNat uO ad xf (fun cK=>haa fun h=>cK (by rw [h,ath])) (by omega) (fun i row hi=>hz _ _ (hg i row hi)) (fun i row j c hi hj=>hF _ _ _ _ (hg i row hi) hj) (fun i row j c hi hj=>qN _ _ _ _ (hg i row hi) hj) fun i row j c hi hj=>hR _ _ _ _ (hg i row hi) hj;rw [hlen] at this;by_cases Vo:a=b;(·rw [decide_eq_true Vo];(have hbn:b.toNat=(rows.take a.toNat).length:=by rw [hlen,Vo]);(have h4:(Value.slice aa a.toNat b.toNat) = .slice aa (rows.take a.toNat).length (rows.take a.toNat).length:=by rw [← hbn,← Vo]);rw [h4];exact .full _ _ _ (by rw [← h4];exact this));rw [decide_eq_false Vo];exact this);cases hc);cases hc);cases hc
 cases hc
def EI (P:Program) (tt:Table) (S:TypeId) (f:Nat) (x:V):Option V :=
 match x with
 | .agg cs=>match P.underlying S with
  | some (.struct fs)=>match fs[f]? with
   | some fd=>jY tt fd.type (cs.drop fd.offset)
   | none=>none
  | _=>none
 | _=>none
theorem CS {P:Program} {tt:Table} (ht:TT P tt) {E:Env} {S:TypeId} {f:Nat} {x v:V} {y:Value} (hx:cV E x y) (h:EI P tt S f x=some v) (w:World):∃ z,(Instr.field S y f).run P w = .ok z w∧cV E v z:=by
 unfold EI at h;split at h;·rename_i cs;split at h;(·rename_i fs hu;split at h;(·rename_i fd hf;cases hx with|agg _ _ xs hl hr =>simp only [Instr.field,Sem.run_bind,bC hu,Result.andThen_ok,hf];unfold jY at h;cases hi:tt fd.type with|none=>rw [hi] at h;simp at h|some i =>rw [hi] at h;simp only at h;cases ha:i.agg with|false =>simp only [ha,bJ,if_false] at h;(have h0:cs[fd.offset]?=some v:=by simpa [atS] using h);(have bR:fd.offset<xs.size:=by rw [← hl];exact (aq.1 h0).1);refine⟨xs[fd.offset],?_,hr _ _ _ h0 (b9 bR)⟩;simp [part,asAgg,ht.isAgg hi,ha,b9 bR]|true =>simp only [ha,if_true] at h;split at h;(·rename_i hle;simp only [aB] at h;subst h;rw [ux] at hle;refine⟨.agg (xs.extract fd.offset (fd.offset+i.size)),?_,.agg _ _ _ (by simp;omega) fun j c z hc hz=>?_⟩;(·simp [part,asAgg,ht.isAgg hi,ha,ht.sizeOf hi]);(have hj:j<i.size:=by by_cases hj:j<i.size;(·exact hj);rw [jd] at hc;simp [hj] at hc);rw [jO hj,CM] at hc;refine hr (fd.offset+j) c z hc ?_;rw [Array.getElem?_extract] at hz;split at hz;(·exact hz);cases hz);cases h);cases h);cases h
 cases h
def mC (P:Program) (tt:Table) (st:St) (o:Oper):Option V :=
 match o.op with
 | .move x=>some (st.eval x)
 | .assign x=>some (st.eval x)
 | .pick c a b=>match st.eval c with|.sc (.bool t)=>some (if t=true then st.eval a else st.eval b)|_=>none
 | .load T x=>qf tt st.mem T (st.eval x)
 | .nilCheck x=>ZW (st.eval x)
 | .binOp op T x y _=>match Mf op (st.eval x) (st.eval y) with
  | some v=>some v
  | none=>match EF P op T (st.eval x) (st.eval y) with
   | some v=>some v
   | none=>eO P (r7 op T x y) (st.eval x) (st.eval y)
 | .unOp op _ x=>uy P (Op.unary op) (st.eval x)
 | .convert s d x=>vJ P st.mem s d (st.eval x)
 | .makeFunc fn first cap=>some (.dU fn (first.toList.map st.eval) (cap.toList.map st.eval))
 | .slice T x lo hi none=>EB P tt st.mem T (st.eval x) (lo.map st.eval) (hi.map st.eval)
 | .fieldAddr S x f=>Ew tt S f (st.eval x)
 | .field S x f=>EI P tt S f (st.eval x)
 | .slice T x none (some h) (some m)=>Mh tt T (st.eval x) (st.eval h) (st.eval m)
 | .indexAddr T x i=>match oB tt st.mem T (st.eval x) (st.eval i) with
  | some v=>some v
  | none=>Ax P tt T (st.eval x) (st.eval i)
 | .index T x i=>eO P (Instr.index T) (st.eval x) (st.eval i)
 | .extract t i=>match st.eval t with|.ec vs=>vs[i]?|_=>none
 | .lookup T x i ok=>kK P st.mem T (st.eval x) (st.eval i) ok
 | .entry it=>ND st.mem (st.eval it)
 | .call { callee:=.builtin .len,args:=xs,argTypes:=ts }=>match xz st.mem ts P (xs.toList.map st.eval) with
  | some v=>some v
  | none=>ED P tt ts o.type (xs.toList.map st.eval)
 | .call { callee:=.builtin .max,args:=xs,argTypes:=ts }=>iH P (Builtin.max_ ts o.type) (xs.toList.map st.eval)
 | .call { callee:=.builtin .min,args:=xs,argTypes:=ts }=>iH P (Builtin.min_ ts o.type) (xs.toList.map st.eval)
 | _=>none
theorem sm {P:Program} {f:Array Value→Sem Value} {E:Env} {w:World} {xs:List V} {v:V} {ys:Array Value} (hx:cJ E xs ys.toList) (h:iH P f xs=some v):∃ z,(f ys).run P w = .ok z w∧cV E v z:=by
 unfold iH at h;split at h;·rename_i l hl;have:=qP hx hl;split at h;(·rename_i z hz;simp only [aB] at h;subst h;subst this;exact⟨z,gO _ (by simpa using hz) w,ll E z⟩);simp at h
 simp at h
theorem EJ {P:Program} {tt:Table} (ht:TT P tt) {ts:Array TypeId} {ty t e:TypeId} (h0:ts[0]?=some t) (he:jy tt t=some e) (w:World) (aa:Option Addr) (len cap:Nat) :
  (Builtin.len_ ts ty #[.slice aa len cap]).run P w = .ok (.int .i64 len) w:=by unfold jy at he;cases hT:tt t with|none=>rw [hT] at he;simp at he|some iT =>rw [hT] at he;simp only at he;obtain⟨d,hd,-,EA,-⟩:=ht.desc t iT hT;obtain rfl:=EA e he;simp [Builtin.len_,h0,bC hd,goInt]
theorem J5 {P:Program} {tt:Table} (ht:TT P tt) {E:Env} {w:World} {ts:Array TypeId} {ty:TypeId} {xs:List V} {v:V} {ys:Array Value} (hx:cJ E xs ys.toList) (h:ED P tt ts ty xs=some v) :
  ∃ z,(Builtin.len_ ts ty ys).run P w = .ok z w∧cV E v z:=by
 unfold ED at h;split at h;·split at h;(·rename_i t h0;split at h;(·rename_i e he;simp only [aB] at h;subst h;obtain⟨x,r,hy,h1,h2⟩:=hx.of_cons;have:=h2.of_nil;subst this;(obtain rfl:ys = #[x]:=by rw [← cX (xs:=ys),hy]);cases h1 with|slice _ _ aa cap uO ad xf ha n6 hz hF qN hR=>exact⟨_,EJ ht h0 he w aa _ cap,.sc _ _⟩);simp at h);simp at h
 ·split at h;(·rename_i t h0;split at h;(·rename_i e he;simp only [aB] at h;subst h;obtain⟨x,r,hy,h1,h2⟩:=hx.of_cons;have:=h2.of_nil;subst this;(obtain rfl:ys = #[x]:=by rw [← cX (xs:=ys),hy]);cases h1 with|jl=>exact⟨_,EJ ht h0 he w none _ 0,.sc _ _⟩|ms _ _ _ _ _ g e' c aa cap hb hl NC Dm=>exact⟨_,EJ ht h0 he w aa _ cap,.sc _ _⟩);simp at h);simp at h
 exact sm hx h
theorem du {P:Program} {s:Sem Value} {w:World} {x:Value} (h:s.run P w = .ok x w):(do pure (Next.value (← s)):Sem Next).run P w = .ok (.value x) w:=by simp [h]
theorem tF {P:Program} {tt:Table} (ht:TT P tt) {E:Env} {w:World} {a:Act} {st:St} (hs:cY E w a st) {o:Oper} {v:V} (h:mC P tt st o=some v) :
  ∃ x,(execOp a.eval o).run P w = .ok (.value x) w∧cV E v x:=by
 obtain⟨dst,op,type,pos,after,guard⟩:=o;unfold mC at h;dsimp only at h;split at h;·simp only [aB] at h;subst h;exact⟨_,rfl,hs.eval _⟩
 ·simp only [aB] at h;subst h;exact⟨_,rfl,hs.eval _⟩
 ·rename_i c x y;split at h;(·rename_i t hc;simp only [aB] at h;subst h;have:=hs.eval c;rw [hc] at this;refine⟨if t=true then a.eval x else a.eval y,?_,?_⟩;(·simp [execOp,gP this,asBool]);cases t <;> exact hs.eval _);simp at h
 ·obtain⟨y,h1,h2⟩:=yB ht hs (hs.eval _) h;exact⟨y,du h1,h2⟩
 ·rename_i x;have hx:=hs.eval x;generalize hy:a.eval x=y at hx;(have gS:∀ z,(∀ m f c,z ≠ .func (.method m) f c)→z ≠ .pointer none→z ≠ .nilIface→z ≠ .nilFunc→a.eval x=z→(execOp a.eval { dst,op:=.nilCheck x,type,pos,after,guard }).run P w = .ok (.value z) w:=by intro z h1 h2 h3 h4 he;simp only [execOp,he];rfl);unfold ZW at h;split at h <;> simp only [aB,reduceCtorEq] at h <;> subst h <;> rename_i hv <;> rw [hv] at hx;(·cases hx with|ptr _ _ _ g e c hb=>exact⟨_,gS _ (by simp) (by simp) (by simp) (by simp) hy,.ptr _ _ _ g e c hb⟩);(·cases hx with|iw _ _ _ _ _ g e c hb=>exact⟨_,gS _ (by simp) (by simp) (by simp) (by simp) hy,.iw _ _ _ _ _ g e c hb⟩);(·cases hx with|eW _ _ ad xf hF hr=>exact⟨_,gS _ (by simp) (by simp) (by simp) (by simp) hy,.eW _ _ _ xf hF hr⟩);(·cases hx with|dU _ f first cap xs ys h1 h2 h3 h4=>exact⟨_,gS _ (by simp) (by simp) (by simp) (by simp) hy,.dU _ _ _ _ _ _ h1 h2 h3 h4⟩);have:=gP hx;subst this;exact⟨_,gS _ (by simp) (by simp) (by simp) (by simp) hy,.sc _ _⟩
 ·rename_i op T x y _;split at h;(·rename_i hg;cases h;obtain⟨z,h1,h2⟩:=GO (P:=P) (w:=w) (T:=T) x y (hs.eval x) (hs.eval y) hg;exact⟨z,du h1,h2⟩);split at h;(·rename_i hg;cases h;obtain⟨z,h1,h2⟩:=EG (P:=P) (w:=w) (T:=T) x y (hs.eval x) (hs.eval y) hg;exact⟨z,du h1,h2⟩);obtain⟨z,h1,h2⟩:=nz (w:=w) (hs.eval x) (hs.eval y) h;exact⟨z,du h1,h2⟩
 ·obtain⟨z,h1,h2⟩:=sg (w:=w) (hs.eval _) h;exact⟨z,du h1,h2⟩
 ·obtain⟨z,h1,h2⟩:=GR (w:=w) hs (hs.eval _) h;exact⟨z,du h1,h2⟩
 ·(rename_i fn first cap);simp only [aB] at h;subst h;(have h1:=hs.qi first);have h2:=hs.qi cap;exact⟨_,du rfl,.dU _ _ _ _ _ _ (by simp) (by simp) (fun i c x hc hx=>h1.2 i c x hc (by simpa using hx)) fun i c x hc hx=>h2.2 i c x hc (by simpa using hx)⟩
 ·obtain⟨z,h1,h2⟩:=J3 ht hs (hs.eval _) h;exact⟨z,du h1,h2⟩
 ·obtain⟨z,h1,h2⟩:=Ey ht (hs.eval _) h w;exact⟨z,du h1,h2⟩
 ·obtain⟨z,h1,h2⟩:=CS ht (hs.eval _) h w;exact⟨z,du h1,h2⟩
 ·obtain⟨z,h1,h2⟩:=GV ht (hs.eval _) (hs.eval _) (hs.eval _) h w;exact⟨z,du h1,h2⟩
 ·split at h;(·rename_i hv;cases h;obtain⟨z,h1,h2⟩:=Ez ht hs (hs.eval _) (hs.eval _) hv;exact⟨z,du h1,h2⟩);obtain⟨z,h1,h2⟩:=GU ht (hs.eval _) (hs.eval _) h w;exact⟨z,du h1,h2⟩
 ·obtain⟨z,h1,h2⟩:=nz (w:=w) (hs.eval _) (hs.eval _) h;exact⟨z,du h1,h2⟩
 ·rename_i t i;split at h;(·rename_i vs hv;have:=hs.eval t;rw [hv] at this;generalize hy:a.eval t=y at this;cases this with|ec _ _ xs hl hr =>(have hi:i<xs.size:=by rw [← hl];exact (aq.1 h).1);exact⟨xs[i],du (by simp [hy,Instr.extract,b9 hi]),hr i v _ h (b9 hi)⟩);simp at h
 ·obtain⟨z,h1,h2⟩:=CR hs (hs.eval _) (hs.eval _) h;exact⟨z,du h1,h2⟩
 ·obtain⟨z,h1,h2⟩:=J2 hs (hs.eval _) h;exact⟨z,du h1,h2⟩
 ·split at h;(·rename_i hl;cases h;obtain⟨z,h1,h2⟩:=J1 hs (hs.qi _) hl;exact⟨z,du h1,h2⟩);obtain⟨z,h1,h2⟩:=J5 ht (w:=w) (hs.qi _) h;exact⟨z,du h1,h2⟩
 ·obtain⟨z,h1,h2⟩:=sm (w:=w) (hs.qi _) h;exact⟨z,du h1,h2⟩
 ·obtain⟨z,h1,h2⟩:=sm (w:=w) (hs.qi _) h;exact⟨z,du h1,h2⟩
 simp at h
end Go.Eng
end
section
namespace Go.Eng
variable [bk]
open Go.RowKit (Below)
def dn (mem:List bm) (key:Nat) (B:bm):List bm:=if key<mem.length then mem.set key B else mem++[B]
def jH (mem:List bm) (key:Nat):Prop:=mem[key]?=some .hole∨key=mem.length
def Env.with (E:Env) (key dF:Nat) (t:Nat×Nat×Nat):Env := { F:=E.F,cw:=fun k v=>if k=key∧v=dF then some t else E.cw k v,gl:=E.gl }
theorem qS {mem:List bm} {key:Nat} (h:key≤mem.length) (B:bm) (k:Nat):(dn mem key B)[k]?=if k=key then some B else mem[k]?:=by
 unfold dn;split;·rename_i bR;rw [bK];by_cases hk:key=k;(·subst hk;simp [bR]);rw [if_neg hk,if_neg (fun e=>hk e.symm)]
 rename_i hZ;have fQ:key=mem.length:=by omega
 by_cases hk:k=key;·subst hk;rw [if_pos rfl,fQ];simp
 rw [if_neg hk,XW];split;·rfl
 rw [dN (by simp;omega),dN (by omega)]
theorem uA {mem:List bm} {key:Nat} (h:key≤mem.length) (B:bm):mem.length≤(dn mem key B).length∧key<(dn mem key B).length:=by unfold dn;split <;> simp <;> omega
theorem jH.le {mem:List bm} {key:Nat} (h:jH mem key):key≤mem.length:=by
 rcases h with h|h
 ·exact Nat.le_of_lt (aq.1 h).1
 omega
theorem cY.free {E:Env} {w:World} {a:Act} {st:St} (hs:cY E w a st) {key:Nat} (h:jH st.mem key):∀ v,E.cw key v=none:=by
 rcases h with h|h
 ·exact hs.mem _ _ h
 exact hs.top _ (by omega)
theorem Env.nj {E:Env} {key dF:Nat} (h:E.cw key dF=none) (t:Nat×Nat×Nat):E.le (E.with key dF t) :=
 ⟨fun _ _ h=>h,fun b v u hb=>by
  show (if b=key∧v=dF then some t else E.cw b v)=some u
  rw [if_neg (fun e=>by rw [e.1,e.2,h] at hb;cases hb)];exact hb⟩
theorem oA.mono {E E':Env} {w w':World} {k:Nat} {B:bm} (h:oA E w k B) (hle:E.le E') (PT:∀ v,E.cw k v=none→E'.cw k v=none)
  (Ay:∀ g e c,E.cw k B.dF=some (g,e,c)→w'.heap[g]?=w.heap[g]?) (hF:∀ g e c o,E.cw k B.dF=some (g,e,c)→E.F ⟨g,o,none⟩=none→E'.F ⟨g,o,none⟩=none):oA E' w' k B:=by
 have nA:∀ {e rs} {f f':Nat→Option Value},(∀ o x,f o=some x→f' o=some x)→mQ E.pure e rs f→mQ E'.pure e rs f':=fun hf hr i row hi=>by obtain⟨h1,h2⟩:=hr i row hi;exact⟨h1,fun j c hj=>let ⟨x,hx,h1,hr⟩:=h2 j c hj;⟨x,hf _ _ hx,h1,hr.mono (Env.lA hle)⟩⟩
 cases B with|hole=>exact fun v=>PT v (h v)|dead=>trivial|box cs =>obtain⟨g,T,xs,hb,hh,hr,hf⟩:=h;exact⟨g,T,xs,hle.cw _ _ _ hb,(Ay _ _ _ hb).trans hh,hr.mono hle,fun o=>hF _ _ _ o hb (hf o)⟩|rows v e rs =>((rcases h with ⟨h1,h2⟩|⟨g,T,xs,c,hb,hh,nh,hl,hr,hf⟩);(·exact .inl ⟨h1,PT _ h2⟩);exact .inr ⟨g,T,xs,c,hle.cw _ _ _ hb,(Ay _ _ _ hb).trans hh,nh,hl,nA (fun _ _ h=>h) hr,fun o=>hF _ _ _ o hb (hf o)⟩)|loop s n7 fr params assign body =>obtain⟨l,fn,tmps,db,hb,hh,hr,hf⟩:=h;exact⟨l,fn,tmps,db,hle.cw _ _ _ hb,(Ay _ _ _ hb).trans hh,hr.mono hle,fun o=>hF _ _ _ o hb (hf o)⟩|map dK clock =>obtain⟨g,es,hb,hh,hr,hf⟩:=h;exact⟨g,es,hle.cw _ _ _ hb,(Ay _ _ _ hb).trans hh,hr.mono hle,fun o=>hF _ _ _ o hb (hf o)⟩|jR m since seen last =>obtain⟨g,gm,e,c,hb,hm,hh,hf⟩:=h;exact⟨g,gm,e,c,hle.cw _ _ _ hb,hle.cw _ _ _ hm,(Ay _ _ _ hb).trans hh,fun o=>hF _ _ _ o hb (hf o)⟩|nY s pos =>obtain⟨g,hb,hh,hf⟩:=h;exact⟨g,hle.cw _ _ _ hb,(Ay _ _ _ hb).trans hh,fun o=>hF _ _ _ o hb (hf o)⟩|oz =>obtain⟨g,hb,hh,hf⟩:=h;exact⟨g,hle.cw _ _ _ hb,(Ay _ _ _ hb).trans hh,fun o=>hF _ _ _ o hb (hf o)⟩|vB v e rs =>(rcases h with ⟨h1,h2⟩|⟨g,c,hb,hl,hr⟩);(·exact .inl ⟨h1,PT _ h2⟩);exact .inr ⟨g,c,hle.cw _ _ _ hb,hl,nA (fun _ _ h=>hle.F _ _ h) hr⟩
theorem cY.new {E:Env} {w:World} {a:Act} {st:St} (hs:cY E w a st) {key:Nat} (hk:jH st.mem key) {obj:Obj} {B:bm} {e c:Nat} (J6:B.dF=0)
  (hB:oA (E.with key 0 (w.heap.size,e,c)) (w.alloc obj) key B) :
  cY (E.with key 0 (w.heap.size,e,c)) (w.alloc obj) a { st with mem:=dn st.mem key B }∧il E w (E.with key 0 (w.heap.size,e,c)) (w.alloc obj):=by
 have Dn:=hs.free hk;have hle:=Env.nj (Dn 0) (w.heap.size,e,c);have iI:∀ k v,¬ (k=key∧v=0)→(E.with key 0 (w.heap.size,e,c)).cw k v=E.cw k v:=fun k v cK=>if_neg cK;have fQ:(E.with key 0 (w.heap.size,e,c)).cw key 0=some (w.heap.size,e,c):=if_pos ⟨rfl,rfl⟩;have U2:∀ k v,k≠key→(E.with key 0 (w.heap.size,e,c)).cw k v=E.cw k v:=fun k v cK=>iI k v fun h=>cK h.1;refine⟨⟨fun ad x hx=>?_,fun k v g e' c' hb=>?_,fun k B' vC=>?_,fun k kX v=>?_,fun k B' vC v hv=>?_,?_,hs.fr.mono hle⟩,hle,fun k v g e' c' hb=>?_,fun ad x hx=>.inl hx,rfl,rfl,rfl,by simp,fun b hb _=>ed w _ b hb⟩;·rw [World.cell?_alloc_lt w _ ad (World.block_lt_of_cell? w ad (hs.F ad x hx))];exact hs.F ad x hx
 ·by_cases fN:k=key∧v=0;(·obtain⟨rfl,rfl⟩:=fN;rw [fQ] at hb;cases hb;simp);rw [iI k v fN] at hb;have:=hs.lt _ _ _ _ _ hb;simp;omega
 ·rw [qS hk.le] at vC;split at vC;(·rename_i fN;subst fN;cases vC;exact hB);rename_i fN;exact (hs.mem k B' vC).mono hle (fun v h=>by rw [U2 k v fN];exact h) (fun g e' c' hb=>ed w _ g (hs.lt _ _ _ _ _ hb)) fun _ _ _ o _ h=>h
 ·have:=uA hk.le B;dsimp only at kX;rw [U2 k v (by omega)];exact hs.top k (by omega) v
 ·dsimp only at vC;rw [qS hk.le] at vC;split at vC;(·rename_i fN;subst fN;cases vC;rw [iI k v (by omega)];exact Dn v);rename_i fN;rw [U2 k v fN];exact hs.dF k B' vC v hv
 ·intro k k' v v' g e1 c1 e2 c2 h5 h6;by_cases fN:k=key∧v=0 <;> by_cases EK:k'=key∧v'=0;(·rw [fN.1,EK.1]);(·obtain⟨rfl,rfl⟩:=fN;rw [fQ] at h5;cases h5;rw [iI k' _ EK] at h6;have:=hs.lt _ _ _ _ _ h6;omega);(·obtain⟨rfl,rfl⟩:=EK;rw [fQ] at h6;cases h6;rw [iI k _ fN] at h5;have:=hs.lt _ _ _ _ _ h5;omega);rw [iI k _ fN] at h5;rw [iI k' _ EK] at h6;exact hs.apart _ _ _ _ _ _ _ _ _ h5 h6
 by_cases fN:k=key∧v=0;·obtain⟨rfl,rfl⟩:=fN;rw [fQ] at hb;cases hb;exact .inr (ax _)
 rw [iI k v fN] at hb;exact .inl ⟨_,_,_,_,hb⟩
theorem cY.PU {E:Env} {w:World} {a:Act} {st:St} (hs:cY E w a st) {key:Nat} (hk:jH st.mem key) {xs:Array Value} {cs:List V} (hr:cJ E cs xs.toList) (T:TypeId) :
  ∃ E',cY E' (w.alloc (.cells xs T (0,0))) a { st with mem:=dn st.mem key (.box cs) }∧il E w E' (w.alloc (.cells xs T (0,0)))∧cV E' (.ptr key 0) (.pointer (some ⟨w.heap.size,0,none⟩)):=by
 have hle:=Env.nj (hs.free hk 0) (w.heap.size,0,0);have:=hs.new (obj:=.cells xs T (0,0)) (B:=.box cs) (e:=0) (c:=0) hk rfl ⟨w.heap.size,T,xs,if_pos ⟨rfl,rfl⟩,heap_alloc_new w _,hr.mono hle,fun o=>?_⟩;·exact⟨_,this.1,this.2,.ptr _ _ _ _ 0 0 (if_pos ⟨rfl,rfl⟩)⟩
 show E.F _=none;cases hx:E.F ⟨w.heap.size,o,none⟩ with|none=>rfl|some x=>have:=World.block_lt_of_cell? w _ (hs.F _ _ hx);simp at this
theorem cY.vK {E:Env} {w:World} {a:Act} {st:St} (hs:cY E w a st) {key:Nat} (hk:jH st.mem key) {xs:Array Value} {rs:List V} {e c:Nat} (T:TypeId) (nh:xs.size=c*e) (hl:rs.length≤c)
  (hr:mQ E.pure e rs (fun o=>xs[o]?)) :
  ∃ E',cY E' (w.alloc (.cells xs T (0,0))) a { st with mem:=dn st.mem key (.rows 0 e rs) }∧il E w E' (w.alloc (.cells xs T (0,0)))∧cV E' (.ms key 0 0 rs.length) (.slice (some ⟨w.heap.size,0,none⟩) rs.length c):=by
 have hle:=Env.nj (hs.free hk 0) (w.heap.size,e,c);have:=hs.new (obj:=.cells xs T (0,0)) (B:=.rows 0 e rs) (e:=e) (c:=c) hk rfl (.inr ⟨w.heap.size,T,xs,c,if_pos ⟨rfl,rfl⟩,heap_alloc_new w _,nh,hl,fun i row hi=>?_,fun o=>?_⟩);·exact⟨_,this.1,this.2,.ms _ _ _ _ _ w.heap.size e c _ _ (if_pos ⟨rfl,rfl⟩) (fun _=>by simp) (fun _=>⟨rfl,rfl⟩) ⟨hl,aZ _,fun _=>by simp⟩⟩
 ·obtain⟨h1,h2⟩:=hr i row hi;exact⟨h1,fun j c' hj=>let ⟨x,hx,h1,hr⟩:=h2 j c' hj;⟨x,hx,h1,hr.mono (Env.lA hle)⟩⟩
 show E.F _=none;cases hx:E.F ⟨w.heap.size,o,none⟩ with|none=>rfl|some x=>have:=World.block_lt_of_cell? w _ (hs.F _ _ hx);simp at this
theorem cY.Vp {E:Env} {w:World} {a:Act} {st:St} (hs:cY E w a st) {key:Nat} (hk:jH st.mem key) (e:Nat):cY E w a { st with mem:=dn st.mem key (.rows 0 e []) }:=by
 have hn:=hs.free hk;refine⟨hs.F,hs.lt,fun k B hB=>?_,fun k kX=>hs.top k ?_,fun k B hB v hv=>?_,hs.apart,hs.fr⟩;·rw [qS hk.le] at hB;split at hB;(·rename_i fN;subst fN;cases hB;exact .inl ⟨rfl,hn 0⟩);exact hs.mem k B hB
 ·have:=uA hk.le (.rows 0 e []);dsimp only at kX;omega
 dsimp only at hB;rw [qS hk.le] at hB;split at hB;·rename_i fN;subst fN;exact hn v
 exact hs.dF k B hB v hv
end Go.Eng
end
section
namespace Go.Eng
variable [bk]
open Go.RowKit (Below)
def kf (xs:Array Value) (o:Nat):List Value→Array Value
 | []=>xs
 | v :: r=>kf (xs.setIfInBounds o v) (o+1) r
def kL (cs:List V) (o:Nat):List V→List V
 | []=>cs
 | v :: r=>kL (cs.set o v) (o+1) r
theorem ma (vs:List Value):∀ (xs:Array Value) (o:Nat),(kf xs o vs).size=xs.size:=by induction vs with|nil=>intro xs o;rfl|cons v r ih=>intro xs o;simp [kf,ih]
theorem Az (vs:List V):∀ (cs:List V) (o:Nat),(kL cs o vs).length=cs.length:=by induction vs with|nil=>intro cs o;rfl|cons v r ih=>intro cs o;simp [kL,ih]
theorem yD {E:Env} (vs:List V):∀ (ys:List Value) (cs:List V) (xs:Array Value) (o:Nat),cJ E vs ys→cJ E cs xs.toList→cJ E (kL cs o vs) (kf xs o ys).toList:=by induction vs with|nil=>intro ys cs xs o h k;have:=h.of_nil;subst this;exact k|cons v r ih =>intro ys cs xs o h k;obtain⟨y,ys,rfl,h1,h2⟩:=h.of_cons;exact ih ys _ _ _ h2 (by simpa using k.set o h1)
theorem kn (vs:List Value):∀ (xs:Array Value) (o k:Nat),o+vs.length≤xs.size→(kf xs o vs)[k]?=if o≤k∧k<o+vs.length then vs[k-o]? else xs[k]?:=by induction vs with|nil=>intro xs o k _;simp [kf];intro h1 h2;omega|cons v r ih =>intro xs o k h;simp only [aj] at h;rw [kf,ih _ _ _ (by simp;omega)];by_cases h1:o+1≤k∧k<o+1+r.length;(·rw [if_pos h1,if_pos ⟨by omega,by simp;omega⟩];(have:k-o=(k-(o+1))+1:=by omega);rw [this,ia]);rw [if_neg h1];by_cases h2:k=o;(·subst h2;rw [if_pos ⟨ax _,by simp⟩];simp only [cI,ee];rw [Array.getElem?_setIfInBounds_self_of_lt (by omega)]);rw [if_neg (by simp only [aj];omega),Eu (fun e=>h2 e.symm)]
theorem GX (vs:List V):∀ (cs:List V) (o k:Nat),o+vs.length≤cs.length→(kL cs o vs)[k]?=if o≤k∧k<o+vs.length then vs[k-o]? else cs[k]?:=by induction vs with|nil=>intro xs o k _;simp [kL];intro h1 h2;omega|cons v r ih =>intro xs o k h;simp only [aj] at h;rw [kL,ih _ _ _ (by simp;omega)];by_cases h1:o+1≤k∧k<o+1+r.length;(·rw [if_pos h1,if_pos ⟨by omega,by simp;omega⟩];(have:k-o=(k-(o+1))+1:=by omega);rw [this,ia]);rw [if_neg h1];by_cases h2:k=o;(·subst h2;rw [if_pos ⟨ax _,by simp⟩];simp only [cI,ee];rw [bK];simp;omega);rw [if_neg (by simp only [aj];omega),cL (fun e=>h2 e.symm)]
structure vL (w w':World) (g:Nat):Prop where
 os:w'.os=w.os
 tape:w'.tape=w.tape
 output:w'.output=w.output
 size:w'.heap.size=w.heap.size
 heap:∀ b,b≠g→w'.heap[b]?=w.heap[b]?
theorem lG {P:Program} {g:Nat} {T:TypeId} (o:Nat):∀ (vs:List Value) (i:Nat) (w:World) (xs:Array Value),w.heap[g]?=some (.cells xs T (0,0))→o+i+vs.length≤xs.size →
  (∀ v∈vs,v.oneCell'=true)→∃ w',(storeCells ⟨g,o,none⟩ vs i).run P w = .ok () w'∧w'.heap[g]?=some (.cells (kf xs (o+i) vs) T (0,0))∧vL w w' g:=by intro vs;induction vs with|nil=>intro i w xs hh _ _;exact⟨w,rfl,hh,rfl,rfl,rfl,rfl,fun _ _=>rfl⟩|cons v r ih =>intro i w xs hh hl h1;simp only [aj] at hl;(have hc:w.cell? ⟨g,o+i,none⟩=some (xs[o+i]'(by omega)):=by rw [ph hh,b9]);(have hf:w.frozen? ⟨g,o+i,none⟩=false:=by simp [World.frozen?,hh]);(have U3:(w.setCell ⟨g,o+i,none⟩ v).heap[g]?=some (.cells (xs.setIfInBounds (o+i) v) T (0,0)):=by simp [World.setCell,atP,hh]);obtain⟨w',h2,h3,h4⟩:=ih (i+1) _ _ U3 (by simp;omega) (fun v hv=>h1 v (bE _ hv));refine⟨w',?_,by rw [kf];exact h3,h4.os,h4.tape,h4.output,by rw [h4.size];simp,fun b hb=>(h4.heap b hb).trans (Go.RowKit.Below.heap_setCell w _ v b hb)⟩;rw [storeCells];simp only [Sem.run_bind,add_lit];rw [run_store P w _ v .plain (h1 v (bZ ..))];simp [stored,hc,hf,h2]
def EL:V→Bool
 | .sc v=>v.oneCell'
 | .undef=>false
 | .agg _=>false
 | .ec _=>false
 | _=>true
def mc:V→Option (List V)
 | .agg cs=>if cs.all EL then some cs else none
 | v=>if EL v then some [v] else none
theorem GY {E:Env} {c:V} {x:Value} (h:cV E c x) (ho:EL c=true):x.oneCell'=true:=by cases h <;> first|rfl|exact ho|simp [EL] at ho
theorem qU {E:Env} {v:V} {x:Value} {cs:List V} (h:cV E v x) (hc:mc v=some cs):cJ E cs x.cells.toList∧∀ y∈x.cells.toList,y.oneCell'=true:=by
 have key:∀ (cs:List V) (xs:List Value),cJ E cs xs→cs.all EL=true→∀ y∈xs,y.oneCell'=true:=by intro cs;induction cs with|nil=>intro xs h _ y hy;rw [h.of_nil] at hy;simp at hy|cons c r ih =>intro xs h ha y hy;obtain⟨x,ys,rfl,h1,h2⟩:=h.of_cons;simp only [ct,aD] at ha;(rcases dj.1 hy with rfl|hy);(·exact GY h1 ha.1);exact ih ys h2 ha.2 y hy
 unfold mc at hc;split at hc;·split at hc;(·rename_i uB cD;simp only [aB] at hc;subst hc;have:=h.cells (by simp) (by simp);exact⟨this,key _ _ this cD⟩);simp at hc
 split at hc;·rename_i cK qN;simp only [aB] at hc;subst hc;have h1:x.oneCell'=true:=GY h qN;(have hx:x.cells = #[x]:=by cases x <;> first|rfl|simp [Value.oneCell'] at h1);rw [hx];exact⟨.cons h (.nil _),fun y hy=>by simp at hy;subst hy;exact h1⟩
 simp at hc
theorem cY.EM {E:Env} {w:World} {a:Act} {st:St} (hs:cY E w a st) {g:Nat} (hf:∀ o,E.F ⟨g,o,none⟩=none) {ad:Addr} {x:Value} (hx:E.F ad=some x):ad.block≠g:=by
 intro he;have hc:=hs.F ad x hx;have U1:ad.spot=none:=by unfold World.cell? at hc;split at hc;(·split at hc;(·simp at hc);rename_i h;cases U1:ad.spot with|none=>rfl|some s=>simp [U1] at h);simp at hc
 have:ad=⟨g,ad.off,none⟩:=by cases ad;simp_all
 rw [this,hf] at hx;cases hx
theorem cY.GZ {E:Env} {w w':World} {a:Act} {st:St} (hs:cY E w a st) {b g e c:Nat} {B B':bm} (hm:st.mem[b]?=some B) (hh:B.held=true) (ad9:B'.dF=B.dF) (hb:E.cw b B.dF=some (g,e,c)) (hf:∀ o,E.F ⟨g,o,none⟩=none)
  (ho:vL w w' g) (hB:oA E w' b B'):cY E w' a { st with mem:=st.mem.set b B' }∧il E w E w':=by
 have bR:b<st.mem.length:=(aq.1 hm).1
 refine⟨⟨fun ad x hx=>?_,fun k v g' e' c' hk=>by rw [ho.size];exact hs.lt _ _ _ _ _ hk,fun k B1 hk=>?_,fun k hk=>hs.top k (by simpa using hk),fun k B1 hk v hv=>?_,hs.apart,hs.fr⟩,
  E.le_refl,fun k v g e c h=>.inl ⟨k,v,e,c,h⟩,fun _ _ h=>.inl h,ho.os,ho.tape,ho.output,by rw [ho.size];exact ax _,fun b' kV cK=>ho.heap b' fun e=>by subst e;exact cK _ _ _ _ hb⟩
 ·have cK:=hs.EM hf hx;have:w'.heap[ad.block]?=w.heap[ad.block]?:=ho.heap _ cK;rw [← hs.F ad x hx];simp [World.cell?,this]
 ·rw [bK] at hk;by_cases lf:b=k;(·subst lf;simp only [if_true,bR] at hk;cases hk;exact hB);rw [if_neg lf] at hk;cases U4:B1.held with|false=>(cases B1 <;> first|exact hs.mem k _ hk|trivial|simp [bm.held] at U4)|true =>refine (hs.mem k B1 hk).mono E.le_refl (fun _ h=>h) (fun g' e' c' gN=>ho.heap _ fun e=>?_) fun _ _ _ _ _ h=>h;subst e;exact lf (hs.apart _ _ _ _ _ _ _ _ _ hb gN)
 dsimp only at hk;rw [bK] at hk;by_cases hqb:b=k;·subst hqb;simp only [if_true,bR] at hk;cases hk;exact hs.dF b B hm v (by omega)
 rw [if_neg hqb] at hk;exact hs.dF k B1 hk v hv
def jm:V→Bool
 | .gn=>true
 | .sc _=>true
 | .slice _=>true
 | .eW _=>true
 | .undef=>true
 | _=>false
theorem EN {E:Env} {v:V} {x:Value} (h:cV E v x) (hp:jm v=true):cV E.pure v x:=by cases h with|undef=>exact .undef _ _|gn=>exact .gn _|sc=>exact .sc _ _|slice _ rows a cap uO ad xf ha n6 hz hF h1 hR=>exact .slice _ _ _ _ uO ad xf ha n6 hz hF h1 hR|eW _ cs ad xf hF hR=>exact .eW _ _ _ xf hF hR|_=>simp [jm] at hp
def setRow (row:V) (o:Nat) (new:List V):V :=
 match row with
 | .agg cs=>.agg (kL cs o new)
 | r=>match o,new with
  | 0,[c]=>c
  | _,_=>r
theorem EO {row:V} {o:Nat} {new:List V} (ho:o+new.length≤row.cells.length) (qN:new.all EL=true) (cK:new≠[]):(setRow row o new).cells=kL row.cells o new:=by cases row with|agg cs=>rfl|_ =>simp only [V.cells,aj,aA] at ho ⊢;match new,cK with|[c],_ =>((obtain rfl:o=0:=by simp at ho;omega);simp only [ct,dO,aF] at qN;cases c <;> first|rfl|simp [EL] at qN)|_ :: _ :: _,_=>simp at ho;omega
def nO (tt:Table) (mem:List bm) (T:TypeId) (p v:V):Option (List bm) :=
 match mc v with
 | none=>none
 | some new =>
  if pf tt T=some new.length then
   match p with
   | .ptr b o=>match mem[b]? with
    | some (.box cs)=>if o+new.length≤cs.length then some (mem.set b (.box (kL cs o new))) else none
    | _=>none
   | .iw b v i o=>match mem[b]? with
    | some (.rows v' e rs)=>match rs[i]? with
     | some row=>if v'=v∧o+new.length≤row.cells.length∧new≠[]∧new.all jm=true∧new.all EL=true then some (mem.set b (.rows v' e (rs.set i (setRow row o new)))) else none
     | none=>none
    | _=>none
   | _=>none
  else none
instance (new:List V):Decidable (new≠[]):=match new with|[]=>.isFalse (by simp)|_ :: _=>.isTrue (by simp)
theorem cJ.pure {E:Env}:∀ {vs:List V} {xs:List Value},cJ E vs xs→vs.all jm=true→cJ E.pure vs xs
 | [],xs,h,_=>by rw [h.of_nil];exact .nil _
 | v :: vs,xs,h,hp=>by
  obtain⟨x,ys,rfl,h1,h2⟩:=h.of_cons
  simp only [ct,aD] at hp
  exact .cons (EN h1 hp.1) (cJ.pure h2 hp.2)
theorem vM {P:Program} {tt:Table} (ht:TT P tt) {E:Env} {w:World} {a:Act} {st:St} (hs:cY E w a st) {T:TypeId} {p v:V} {x y:Value} {bV:List bm} (hp:cV E p x) (hv:cV E v y)
  (h:nO tt st.mem T p v=some bV):∃ w',(Instr.storeAt T x y).run P w = .ok () w'∧cY E w' a { st with mem:=bV }∧il E w E w':=by
 unfold nO at h;split at h;·simp at h
 rename_i new pQ;obtain⟨hr,qN⟩:=qU hv pQ;split at h
 ·rename_i nh;have hlen:y.cells.size=new.length:=by have:=hr.1;simp at this;exact this.symm
  have gS:∀ {g o:Nat} {xs:Array Value} {T':TypeId},w.heap[g]?=some (.cells xs T' (0,0))→o+new.length≤xs.size →
    ∃ w',(Instr.storeAt T (.pointer (some ⟨g,o,none⟩)) y).run P w = .ok () w'∧w'.heap[g]?=some (.cells (kf xs o y.cells.toList) T' (0,0))∧vL w w' g:=fun {g o xs T'} hh hle=>by
   obtain⟨w',h1,h2,h3⟩:=lG (P:=P) o y.cells.toList 0 w xs hh (by have:=hr.1;simp at this ⊢;omega) qN
   refine⟨w',?_,by simpa using h2,h3⟩
   unfold pf at nh
   split at nh
   ·rename_i i hi
    simp only [aB] at nh
    simp only [Instr.storeAt,Instr.sureAddr,Sem.run_bind,Sem.run_pure,Result.andThen_ok,storeVar,ht.sizeOf hi,hlen,nh,ne_eq,not_true_eq_false,if_false]
    exact h1
   simp at nh
  split at h;·rename_i b o;split at h;(·rename_i cs hm;split at h;(·rename_i hle;simp only [aB] at h;subst h;cases hp with|ptr _ _ _ g e c hb =>obtain⟨g',T',xs,kV,hh,Dp,hf⟩:=hs.mem b _ hm;rw [hb] at kV;cases kV;obtain⟨w',h1,h2,h3⟩:=gS (o:=o) hh (by have:=Dp.1;simp at this;omega);exact⟨w',h1,hs.GZ hm rfl rfl hb hf h3 ⟨g,T',_,hb,h2,yD _ _ _ _ _ hr Dp,hf⟩⟩);simp at h);simp at h
  ·rename_i b vv i o;split at h;(·rename_i v' e rs hm;split at h;(·rename_i row xy;split at h;(·rename_i sn;obtain⟨rfl,hle,cK,Dq,aea⟩:=sn;simp only [aB] at h;subst h;cases hp with|iw _ _ _ _ _ g e' c hb =>(rcases hs.mem b _ hm with ⟨rfl,-⟩|⟨g',T',xs,c',kV,hh,xt,pO,Dp,hf⟩);(·simp at xy);rw [hb] at kV;cases kV;obtain⟨ug,hrc⟩:=Dp i row xy;have hi:i<rs.length:=(aq.1 xy).1;(have hmul:i*e+e≤xs.size:=by rw [xt,← nX];exact lS e (by omega));obtain⟨w',h1,h2,h3⟩:=gS (o:=i*e+o) hh (by omega);refine⟨w',h1,hs.GZ hm rfl rfl hb hf h3 (.inr ⟨g,T',_,c,hb,h2,by rw [ma];exact xt,by simpa using pO,?_,hf⟩)⟩;have hyl:y.cells.toList.length=new.length:=hr.1.symm;intro i' akq G0;rw [bK] at G0;by_cases hii:i=i';(·subst hii;simp only [if_true,hi] at G0;cases G0;have hc:=EO hle aea cK;refine⟨by rw [hc,Az];exact ug,fun j cc hj=>?_⟩;rw [hc,GX _ _ _ _ hle] at hj;dsimp only;rw [kn _ _ _ _ (by rw [hyl];omega),hyl];by_cases o7:o≤j∧j<o+new.length;(·rw [if_pos o7] at hj;rw [if_pos ⟨by omega,by omega⟩];obtain⟨z,hz,hzr⟩:=(hr.pure Dq).get hj;exact⟨z,by rw [← hz];congr 1;omega,qN z (ay hz),hzr⟩);rw [if_neg o7] at hj;rw [if_neg (by omega)];exact hrc j cc hj);rw [if_neg hii] at G0;obtain⟨h5,h6⟩:=Dp i' akq G0;refine⟨h5,fun j cc hj=>?_⟩;obtain⟨z,hz,X1,hzr⟩:=h6 j cc hj;(have Gw:j<e:=by rw [← h5];exact (aq.1 hj).1);refine⟨z,?_,X1,hzr⟩;dsimp only;rw [kn _ _ _ _ (by rw [hyl];omega),hyl,if_neg ?_];(·exact hz);intro o7;(rcases Nat.lt_or_gt_of_ne hii with bR|hgt);(·have:(i+1)*e≤i'*e:=lS e bR;rw [nX] at this;omega);have:(i'+1)*e≤i*e:=lS e hgt;rw [nX] at this;omega);simp at h);simp at h);simp at h
  simp at h
 simp at h
end Go.Eng
end
section
namespace Go.Eng
variable [bk]
open Go.RowKit (Below)
def yE (E:Env) (e:Nat) (rs:List V) (ys:Array Value):Prop:=ys.size=rs.length*e∧mQ E e rs (fun o=>ys[o]?)
theorem AA {i n j e:Nat} (hi:i<n) (hj:j<e):i*e+j<n*e:=by have:(i+1)*e≤n*e:=lS e hi;rw [nX] at this;omega
theorem Dr {P:Program} {E:Env} {w:World} {ad:Addr} {rows:List V} {size:Nat} (hz:∀ (i:Nat) (row:V),rows[i]?=some row→row.cells.length=size)
  (h:∀ (i:Nat) (row:V) (j:Nat) (c:V),rows[i]?=some row→row.cells[j]?=some c→∃ x,w.cell? (ad.add (i*size+j))=some x∧x.oneCell'=true∧cV E c x) :
  ∃ ys:Array Value,(loadCells ad (rows.length*size)).run P w = .ok ys w∧yE E size rows ys:=by
 let f:Nat→Value:=fun k=>(w.cell? (ad.add k)).getD default;have hf:∀ k,k<rows.length*size→w.cell? (ad.add k)=some (f k):=fun k hk=>by (have hs:0<size:=Nat.pos_of_ne_zero fun e=>by subst e;simp at hk);(have hi:k / size<rows.length:=by rwa [atQ hs]);have hj:k % size<size:=asZ _ hs;have xy:=af hi;have pO:=hz _ _ xy;obtain⟨x,hx,-⟩:=h _ _ (k % size) _ xy (af (by rw [pO];exact hj));rw [Nat.mul_comm,atr] at hx;simp [f,hx]
 refine⟨((List.range (rows.length*size)).map f).toArray,run_loadCells w ad _ f hf,by simp,fun i row hi=>⟨hz i row hi,fun j c hj=>?_⟩⟩;obtain⟨x,hx,h1,hr⟩:=h i row j c hi hj;have eS:i<rows.length:=(aq.1 hi).1;have Gw:j<size:=by rw [← hz i row hi];exact (aq.1 hj).1
 refine⟨x,?_,h1,hr⟩;have:=AA eS Gw;simp [this,f,hx]
def rowsOf (mem:List bm) (size:Nat):V→Option (List V)
 | .slice rows=>if cM rows 0 size=true then some rows else none
 | .ms b v s l=>match mem[b]? with
  | some (.rows v' e rs)=>if v'=v∧e=size∧s+l≤rs.length then some ((rs.drop s).take l) else none
  | some (.vB v' e rs)=>if v'=v∧e=size∧s+l≤rs.length then some ((rs.drop s).take l) else none
  | _=>none
 | .sc (.slice none 0 0)=>some []
 | _=>none
theorem zX {rs:List V} {s l i:Nat} {row:V} (h:((rs.drop s).take l)[i]?=some row):rs[s+i]?=some row:=by
 rw [jd] at h;split at h;·simpa using h
 simp at h
theorem jI {P:Program} {E:Env} {w:World} {a:Act} {st:St} (hs:cY E w a st) {size:Nat} {v:V} {x:Value} {rows:List V} (hr:cV E v x) (h:rowsOf st.mem size v=some rows) :
  ∃ aa cap,x = .slice aa rows.length cap∧rows.length≤cap∧∃ ys:Array Value,(Builtin.firstCells size rows.length x).run P w = .ok ys w∧yE E.pure size rows ys:=by
 have EP:∀ n,n=0→∃ ys:Array Value,(Builtin.firstCells size n (.slice none n 0)).run P w = .ok ys w∧yE E.pure size [] ys:=fun n hn=>by subst hn;exact⟨#[],rfl,by simp,fun i row hi=>by simp at hi⟩
 unfold rowsOf at h;split at h;·rename_i oD;split at h;(·rename_i xF;simp only [aB] at h;subst h;cases hr with|slice _ _ aa cap uO ad xf ha n6 hz hF qN hR =>refine⟨aa,cap,rfl,n6,?_⟩;cases nA:oD with|nil =>(subst nA;cases aa with|none=>exact EP 0 rfl|some a0=>exact⟨#[],by simp [Builtin.firstCells,loadCells,loadCellsFrom],by simp,fun i row hi=>by simp at hi⟩)|cons r0 rr =>(have cK:oD≠[]:=by simp [nA]);(have he:uO=size:=by unfold cM at xF;(have h0:oD[0]?=some r0:=by simp [nA]);rw [h0] at xF;simp only [beq_iff_eq] at xF;rw [← xF,hz 0 _ h0]);subst he;obtain rfl:=ha cK;rw [← nA];exact Dr (P:=P) hz fun i row j c hi hj=>⟨_,hs.F _ _ (hF i row j c hi hj),qN i row j c hi hj,hR i row j c hi hj⟩);simp at h
 ·rename_i b v s l
  have ZZ:∀ (rs:List V),s+l≤rs.length→rows=(rs.drop s).take l→(∀ g e c,E.cw b v=some (g,e,c)→e=size∧mQ E.pure size rs (fun o=>w.cell? ⟨g,o,none⟩)) →
    ∃ aa cap,x = .slice aa rows.length cap∧rows.length≤cap∧∃ ys:Array Value,(Builtin.firstCells size rows.length x).run P w = .ok ys w∧yE E.pure size rows ys:=by
   intro rs hl nA hb
   have hlen:rows.length=l:=by rw [nA];simp;omega
   cases hr with
   | jl =>
    have:rows=[]:=b7.1 hlen
    subst this
    exact⟨none,0,rfl,ax _,EP 0 rfl⟩
   | ms _ _ _ _ _ g e c aa cap gN nL NC Dm =>
    obtain⟨rfl,hrk⟩:=hb g e c gN
    rw [← hlen]
    refine⟨aa,cap,rfl,by omega,?_⟩
    by_cases uf:0<l
    ·obtain rfl:=nL uf
     refine Dr (P:=P) (fun i row hi=>?_) fun i row j c hi hj=>?_
     ·rw [nA] at hi;exact (hrk _ _ (zX hi)).1
     rw [nA] at hi
     obtain⟨x,hx,h1,h2⟩:=(hrk _ _ (zX hi)).2 j c hj
     exact⟨x,by rw [add_lit,← hx];congr 2;rw [jw];omega,h1,h2⟩
    have:rows=[]:=b7.1 (by omega)
    subst this
    cases aa with
    | none=>exact⟨#[],rfl,by simp,fun i row hi=>by simp at hi⟩
    | some a0=>exact⟨#[],by simp [Builtin.firstCells,loadCells,loadCellsFrom],by simp,fun i row hi=>by simp at hi⟩
  split at h;·rename_i v' e rs hm;split at h;(·rename_i hc;obtain⟨rfl,hc⟩:=hc;simp only [aB] at h;refine ZZ rs hc.2 h.symm fun g e' c hb=>?_;(rcases hs.mem b _ hm with ⟨-,hn⟩|⟨g',T',xs,c',kV,hh,-,-,Dp,-⟩);(·rw [hb] at hn;cases hn);rw [hb] at kV;cases kV;refine⟨hc.1,?_⟩;rw [hc.1] at Dp;intro i row hi;obtain⟨h1,h2⟩:=Dp i row hi;exact⟨h1,fun j c hj=>by dsimp only;rw [ph hh];exact h2 j c hj⟩);simp at h
  ·rename_i v' e rs hm;split at h;(·rename_i hc;obtain⟨rfl,hc⟩:=hc;simp only [aB] at h;refine ZZ rs hc.2 h.symm fun g e' c hb=>?_;(rcases hs.mem b _ hm with ⟨-,hn⟩|⟨g',c',kV,-,Dp⟩);(·rw [hb] at hn;cases hn);rw [hb] at kV;cases kV;refine⟨hc.1,?_⟩;rw [hc.1] at Dp;intro i row hi;obtain⟨h1,h2⟩:=Dp i row hi;exact⟨h1,fun j c hj=>let ⟨x,hx,h⟩:=h2 j c hj;⟨x,hs.F _ _ hx,h⟩⟩);simp at h
  simp at h
 ·simp only [aB] at h;subst h;obtain rfl:=gP hr;exact⟨none,0,rfl,ax _,EP 0 rfl⟩
 simp at h
def jS:V→V
 | .sc (.slice none 0 0)=>.slice []
 | v=>v
theorem qj {E:Env} {v:V} {x:Value} (h:cV E v x):cV E (jS v) x:=by
 unfold jS;split;·obtain rfl:=gP h;exact .slice _ [] none 0 0 default (fun _ _=>default) (by simp) (by simp) (by simp) (by simp) (by simp) (by simp)
 exact h
def J7:V→V
 | .agg cs=>.agg (cs.map jS)
 | v=>jS v
theorem J8 {v:V} {cs:List V} (h:mc v=some cs):(J7 v).cells=cs.map jS:=by
 unfold mc at h;split at h;·split at h;(·simp only [aB] at h;subst h;rfl);simp at h
 rename_i cK;split at h;·simp only [aB] at h;subst h;(cases v <;> first|exact absurd rfl (cK _)|rfl|skip);rename_i v;simp only [J7,jS,cz,bW];split <;> rfl
 simp at h
theorem cJ.jS {E:Env}:∀ {vs:List V} {xs:List Value},cJ E vs xs→cJ E (vs.map jS) xs
 | [],xs,h=>h
 | v :: vs,xs,h=>by
  obtain⟨x,ys,rfl,h1,h2⟩:=h.of_cons
  exact .cons (qj h1) (cJ.jS h2)
def tG (size:Nat):List V→Option (List V)
 | []=>some []
 | v :: r=>match mc v with
  | some cs=>if cs.length=size∧cs.all jm=true then (match tG size r with|some rs=>some (J7 v :: rs)|none=>none) else none
  | none=>none
def so:Nat→List (Nat×Operand)→Bool
 | _,[]=>true
 | k,(i,_) :: r=>i==k&&so (k+1) r
theorem yF (off:Nat):∀ (l:List Value) (n:Nat) (cs:Array Value),(l.zipIdx n).foldl (fun cs (x:Value×Nat)=>cs.setIfInBounds (off+x.2) x.1) cs=kf cs (off+n) l:=by intro l;induction l with|nil=>intro n cs;rfl|cons v r ih=>intro n cs;rw [List.zipIdx_cons,fq,ih,kf,o6]
theorem PV {E:Env} {size:Nat}:∀ (parts:List (Nat×Operand)) (k:Nat) (ev:Operand→V) (av:Operand→Value) (Z:Array Value) (rs:List V),(∀ p∈parts,cV E (ev p.2) (av p.2))→so k parts=true →
  tG size (parts.map fun p=>ev p.2)=some rs→(k+parts.length)*size≤Z.size →
  ∃ Z',Instr.fill (fun i=>some (i*size,size)) Z (parts.map fun p=>(p.1,av p.2))=some Z'∧Z'.size=Z.size∧rs.length=parts.length∧(∀ o,o<k*size→Z'[o]?=Z[o]?) ∧
   mQ E.pure size rs (fun o=>Z'[k*size+o]?):=by intro parts;induction parts with|nil =>intro k ev av Z rs _ _ hl _;simp only [bW,tG,aB] at hl;subst hl;exact⟨Z,rfl,rfl,rfl,fun _ _=>rfl,fun i row hi=>by simp at hi⟩|cons p r ih =>intro k ev av Z rs nB NI hl nh;obtain⟨i,o⟩:=p;simp only [so,aD,beq_iff_eq] at NI;obtain⟨rfl,NI⟩:=NI;simp only [cz,tG] at hl;split at hl;(·rename_i cs Ev;split at hl;(·rename_i hc;split at hl;(·rename_i nC Z0;simp only [aB] at hl;subst hl;obtain⟨hr,qN⟩:=qU (nB (i,o) (bZ ..)) Ev;(have X2:(av o).cells.size=size:=by have:=hr.1;simp at this;omega);simp only [aj] at nh;(have hmul:i*size+size≤Z.size:=by have:(i+1)*size≤(i+(r.length+1))*size:=lS _ (by omega);rw [nX] at this;omega);obtain⟨Z',h1,h2,h3,h4,h5⟩:=ih (i+1) ev av (kf Z (i*size) (av o).cells.toList) nC (fun p hp=>nB p (bE _ hp)) NI Z0 (by rw [ma];rw [show i+1+r.length=i+(r.length+1) from by omega];exact nh);(have hlen:(av o).cells.toList.length=size:=by simpa using X2);(have U1:∀ q,(kf Z (i*size) (av o).cells.toList)[q]?=if i*size≤q∧q<i*size+size then (av o).cells.toList[q-i*size]? else Z[q]?:=fun q=>by rw [kn _ _ _ _ (by rw [hlen];exact hmul),hlen]);refine⟨Z',?_,by rw [h2,ma],by simp [h3],fun q hq=>?_,fun q row hq=>?_⟩;(·simp only [cz,Instr.fill,X2];rw [if_neg (by simp;omega)];rw [← h1];congr 1;rw [← atd,atM];exact yF (i*size) (av o).cells.toList 0 Z);(·rw [h4 q (by rw [nX];omega),U1,if_neg (by omega)]);cases q with|zero =>simp only [ee,aB] at hq;subst hq;rw [J8 Ev];refine⟨by simpa using hc.1,fun j c hj=>?_⟩;(have Gw:j<size:=by rw [← hc.1];simpa using (aq.1 hj).1);obtain⟨x,hx,J4⟩:=(hr.pure hc.2).jS.get hj;refine⟨x,?_,qN x (ay hx),J4⟩;dsimp only;rw [Nat.zero_mul,aZ,h4 _ (by rw [nX];omega),U1,if_pos ⟨by omega,by omega⟩,← hx];congr 1;omega|succ q =>simp only [ia] at hq;obtain⟨h6,h7⟩:=h5 q row hq;refine⟨h6,fun j c hj=>?_⟩;obtain⟨x,hx,Pz,J4⟩:=h7 j c hj;refine⟨x,?_,Pz,J4⟩;dsimp only at hx ⊢;rw [← hx];congr 1;rw [nX,nX];omega);simp at hl);simp at hl);simp at hl
def xG (tt:Table) (T:TypeId) (len:Nat) (parts:List (Nat×Operand)) (ev:Operand→V):Option (Nat×List V) :=
 match jy tt T with
 | some e=>match pf tt e with
  | some size=>if so 0 parts=true∧parts.length=len∧len*size≤65536 then (match tG size (parts.map fun p=>ev p.2) with|some rs=>some (size,rs)|none=>none) else none
  | none=>none
 | none=>none
theorem ER {P:Program} {tt:Table} (ht:TT P tt) {E:Env} {w:World} {a:Act} {ev:Operand→V} {T:TypeId} {len size:Nat} {parts:Array (Nat×Operand)} {rs:List V} (iz:∀ p∈parts.toList,cV E (ev p.2) (a.eval p.2))
  (h:xG tt T len parts.toList ev=some (size,rs)) :
  ∃ (Z:Array Value) (e:TypeId),(Instr.buildSlice T len (parts.map fun (i,x)=>(i,a.eval x))).run P w = .ok (.slice (some ⟨w.heap.size,0,none⟩) len len) (w.alloc (.cells Z e (0,0)))∧Z.size=len*size∧rs.length=len∧mQ E.pure size rs (fun o=>Z[o]?):=by unfold xG jy pf at h;cases hT:tt T with|none=>rw [hT] at h;simp at h|some iT =>rw [hT] at h;simp only at h;cases he:iT.elem with|none=>rw [he] at h;simp at h|some e =>rw [he] at h;simp only at h;cases hE:tt e with|none=>rw [hE] at h;simp at h|some ie =>rw [hE] at h;simp only at h;split at h;(·rename_i hc;obtain⟨NI,hlen,ap4⟩:=hc;split at h;(·rename_i nC PW;simp only [aB,dE] at h;obtain⟨rfl,rfl⟩:=h;obtain⟨d,hd,-,EA,-⟩:=ht.desc T iT hT;obtain rfl:=EA e he;obtain⟨info,yG,X3,-,z,hz,CT⟩:=ht.size e ie hE;(have hzero:∀ w':World,(zeroValue e).run P w' = .ok z w':=fun w'=>by simp [zeroValue,gW yG,hz]);obtain⟨zc,hzc⟩:∃ zc:Array Value,zc=if len*ie.size=0 then #[] else z.cells:=⟨_,rfl⟩;obtain⟨Z',h1,h2,h3,-,h5⟩:=PV (size:=ie.size) parts.toList 0 ev a.eval ((Array.range (len*ie.size)).map (zc[· % zc.size]!)) nC iz NI PW (by simp [hlen]);refine⟨Z',e,?_,by simpa using h2,by omega,by simpa using h5⟩;(have uR:(parts.map fun (i,x)=>(i,a.eval x)).toList=parts.toList.map fun p=>(p.1,a.eval p.2):=by simp);unfold Instr.buildSlice;simp only [Sem.run_bind,bC hd,Result.andThen_ok,ht.sizeOf hE];rw [if_neg (by omega)];by_cases h0:len*ie.size=0;(·simp only [h0,if_true,Sem.run_pure,Result.andThen_ok,uR];rw [if_pos h0] at hzc;subst hzc;rw [h0] at h1;simp only [Sem.run_bind,Sem.run_pure,Result.andThen_ok,uR];simp only [h1];simp [newRow]);simp only [h0,if_false,Sem.run_bind,hzero,Sem.run_pure,Result.andThen_ok,uR];rw [if_neg h0] at hzc;subst hzc;simp only [h1];simp [newRow]);simp at h);simp at h
end Go.Eng
end
section
namespace Go.Eng
variable [bk]
open Go.RowKit (Below)
section
variable {P:Program} {w:World}
theorem AB {t u ty e e':TypeId} {i:TypeInfo} (ht:P.underlying t=some (.slice e)) (hu:P.underlying u=some (.slice e')) (hi:P.info? e=some i) (g rS jT n c:Nat) (aa:Option Addr) (news:Array Value)
  (hf:(Builtin.firstCells i.size n (.slice aa n c)).run P w = .ok news w) (vN:rS+n≤jT) {w':World} (oC:(storeCells ⟨g,rS*i.size,none⟩ news.toList).run P w = .ok () w') :
  (Builtin.append_ #[t,u] ty #[.slice (some ⟨g,0,none⟩) rS jT,.slice aa n c]).run P w = .ok (.slice (some ⟨g,0,none⟩) (rS+n) jT) w':=by simp [Builtin.append_,bC ht,bC hu,iF hi,Builtin.lenOf,vN,hf,add_lit,oC]
theorem kg {t u ty e e':TypeId} {i:TypeInfo} (ht:P.underlying t=some (.slice e)) (hu:P.underlying u=some (.slice e')) (hi:P.info? e=some i) (c:Nat) (aa:Option Addr) (news:Array Value)
  (hf:(Builtin.firstCells i.size 0 (.slice aa 0 c)).run P w = .ok news w) :
  (Builtin.append_ #[t,u] ty #[.slice none 0 0,.slice aa 0 c]).run P w = .ok (.slice none 0 0) w:=by simp [Builtin.append_,bC ht,bC hu,iF hi,Builtin.lenOf,hf]
theorem me {t u ty e e':TypeId} {i:TypeInfo} {z:Value} (ht:P.underlying t=some (.slice e)) (hu:P.underlying u=some (.slice e')) (hi:P.info? e=some i) (hz:i.zero=some z) (base:Option Addr) (rS jT n c:Nat)
  (aa:Option Addr) (aec news:Array Value) (PX:(Builtin.firstCells i.size rS (.slice base rS jT)).run P w.drew = .ok aec w.drew) (hf:(Builtin.firstCells i.size n (.slice aa n c)).run P w.drew = .ok news w.drew)
  (hg:jT<rS+n) (h63:((rS+n:Nat):Int)≤9223372036854775807) (vO:Builtin.nextslicecap (rS+n) jT*i.bytes≤281474976710656) :
  (Builtin.append_ #[t,u] ty #[.slice base rS jT,.slice aa n c]).run P w =
   .ok (.slice (some ⟨w.heap.size,0,none⟩) (rS+n) (grownCap w (rS+n) jT e))
    (w.drew.alloc (.cells (aec++news++Builtin.zeroCells z.cells (grownCap w (rS+n) jT e-(rS+n))) e)):=by
 have hn:¬ (rS+n≤jT):=by omega
 have akt:¬ (9223372036854775807<((rS:Int)+(n:Int))):=by omega
 have aku:¬ (281474976710656<Builtin.nextslicecap (rS+n) jT*i.bytes):=by omega
 simp [Builtin.append_,bC ht,bC hu,gW hi,iF hi,zeroValue,hz,Builtin.lenOf,hn,akt,aku,Question.forced,hf,PX,newRow,grownCap]
end
def mf (mem:List bm) (size:Nat):V→Option (Option (Nat×Nat)×List V)
 | .sc (.slice none 0 0)=>some (none,[])
 | .full rows=>if cM rows 0 size=true then some (none,rows) else none
 | .ms b v 0 l=>match mem[b]? with
  | some (.rows v' e rs)=>if v'=v∧e=size∧rs.length=l then some (some (b,v),rs) else none
  | _=>none
 | _=>none
def G1:V→List V→Bool
 | .full _,[]=>false
 | _,_=>true
theorem PY (b v s l:Nat) (xs:List V):G1 (.ms b v s l) xs=true:=rfl
theorem PZ (v:Value) (xs:List V):G1 (.sc v) xs=true:=rfl
theorem J9 (v x:V) (xs:List V):G1 v (x :: xs)=true:=by cases v <;> rfl
def gE (tt:Table) (mem:List bm) (ts:List TypeId) (s x:V):Option (Nat×Option (Nat×Nat)×List V) :=
 match ts with
 | [t,u]=>match tt t with
  | some it=>match it.elem with
   | some e=>match jy tt u with
    | some _=>match tt e with
     | some i =>
      if 0<i.size∧i.bytes≤4096∧i.zero.length=i.size then
       match mf mem i.size s with
       | some (sr,rs)=>match rowsOf mem i.size x with
        | some xs=>if rs.length+xs.length≤34359738368 then (if G1 s xs=true then some (i.size,sr,rs++xs) else none) else none
        | none=>none
       | none=>none
      else none
     | none=>none
    | none=>none
   | none=>none
  | none=>none
 | _=>none
def fu (mem:List bm) (key size:Nat) (rows:List V):Option (Nat×Nat)→List bm×V
 | none=>(dn mem key (.rows 0 size rows),.ms key 0 0 rows.length)
 | some (b,v)=>(mem.set b (.rows (v+1) size rows),.ms b (v+1) 0 rows.length)
theorem cY.renew {E:Env} {w w':World} {a:Act} {st:St} (hs:cY E w a st) {b v e0 g e c:Nat} {rs rows:List V} (hm:st.mem[b]?=some (.rows v e0 rs)) (hF:∀ ad x,E.F ad=some x→w'.cell? ad=some x) (nh:w.heap.size≤w'.heap.size)
  (hg:g<w'.heap.size) (aaa:∀ k B',k≠b→st.mem[k]?=some B'→B'.held=true→∀ g' e' c',E.cw k B'.dF=some (g',e',c')→w'.heap[g']?=w.heap[g']?∧g'≠g)
  (hB:oA (E.with b (v+1) (g,e,c)) w' b (.rows (v+1) e rows)) (zY:∀ k v' e' c',E.cw k v'=some (g,e',c')→k=b):cY (E.with b (v+1) (g,e,c)) w' a { st with mem:=st.mem.set b (.rows (v+1) e rows) }:=by
 have hn:∀ v',v<v'→E.cw b v'=none:=fun v' As=>hs.dF b _ hm v' As;have hle:E.le (E.with b (v+1) (g,e,c)):=Env.nj (hn _ (l5 v)) _;have fQ:(E.with b (v+1) (g,e,c)).cw b (v+1)=some (g,e,c):=if_pos ⟨rfl,rfl⟩;have iI:∀ k v',¬ (k=b∧v'=v+1)→(E.with b (v+1) (g,e,c)).cw k v'=E.cw k v':=fun k v' cK=>if_neg cK;have U2:∀ k v',k≠b→(E.with b (v+1) (g,e,c)).cw k v'=E.cw k v':=fun k v' cK=>iI k v' fun h=>cK h.1;have bR:b<st.mem.length:=(aq.1 hm).1;have jG:∀ (k:Nat) (B:bm),(st.mem.set b (.rows (v+1) e rows))[k]?=some B→(k=b∧B = .rows (v+1) e rows)∨(k≠b∧st.mem[k]?=some B):=fun k B hk=>by rw [bK] at hk;by_cases lf:b=k;(·subst lf;simp only [if_true,bR] at hk;cases hk;exact .inl ⟨rfl,rfl⟩);rw [if_neg lf] at hk;exact .inr ⟨fun e=>lf e.symm,hk⟩
 refine⟨hF,fun k v' g' e' c' hb=>?_,fun k B hk=>?_,fun k hk v'=>?_,fun k B hk v' As=>?_,fun k k' v1 v2 g' e1 c1 e2 c2 h5 h6=>?_,hs.fr.mono hle⟩;·by_cases hq:k=b∧v'=v+1;(·obtain⟨rfl,rfl⟩:=hq;rw [fQ] at hb;cases hb;exact hg);rw [iI k v' hq] at hb;exact rL (hs.lt _ _ _ _ _ hb) nh
 ·(rcases jG k B hk with ⟨rfl,rfl⟩|⟨lf,kX⟩);(·exact hB);cases U4:B.held with|false =>(have:=hs.mem k B kX;cases B with|hole=>(exact fun v'=>by rw [U2 k v' lf];exact this v')|dead=>trivial|_=>simp [bm.held] at U4)|true=>exact (hs.mem k B kX).mono hle (fun v' h=>by rw [U2 k v' lf];exact h) (fun g' e' c' gN=>(aaa k B lf kX U4 g' e' c' gN).1) fun _ _ _ _ _ h=>h
 ·(have kX:st.mem.length≤k:=by simpa using hk);rw [U2 k v' (by omega)];exact hs.top k kX v'
 ·(rcases jG k B hk with ⟨rfl,rfl⟩|⟨lf,kX⟩);(·have:v+1<v':=As;rw [iI k v' (by omega)];exact hn v' (by omega));rw [U2 k v' lf];exact hs.dF k B kX v' As
 by_cases hq:k=b∧v1=v+1 <;> by_cases U5:k'=b∧v2=v+1;·rw [hq.1,U5.1]
 ·obtain⟨rfl,rfl⟩:=hq;rw [fQ] at h5;cases h5;rw [iI k' _ U5] at h6;exact (zY _ _ _ _ h6).symm
 ·obtain⟨rfl,rfl⟩:=U5;rw [fQ] at h6;cases h6;rw [iI k _ hq] at h5;exact zY _ _ _ _ h5
 rw [iI k _ hq] at h5;rw [iI k' _ U5] at h6;exact hs.apart _ _ _ _ _ _ _ _ _ h5 h6
theorem cY.G2 {E:Env} {w:World} {a:Act} {st:St} (hs:cY E w a st) {b v e0 e:Nat} {rs:List V} (hm:st.mem[b]?=some (.rows v e0 rs)):cY E w a { st with mem:=st.mem.set b (.rows (v+1) e []) }:=by
 have hn:∀ v',v<v'→E.cw b v'=none:=fun v' As=>hs.dF b _ hm v' As;have bR:b<st.mem.length:=(aq.1 hm).1;have jG:∀ (k:Nat) (B:bm),(st.mem.set b (.rows (v+1) e []))[k]?=some B→(k=b∧B = .rows (v+1) e [])∨(k≠b∧st.mem[k]?=some B):=fun k B hk=>by rw [bK] at hk;by_cases lf:b=k;(·subst lf;simp only [if_true,bR] at hk;cases hk;exact .inl ⟨rfl,rfl⟩);rw [if_neg lf] at hk;exact .inr ⟨fun e=>lf e.symm,hk⟩
 refine⟨hs.F,hs.lt,fun k B hk=>?_,fun k hk v'=>hs.top k (by simpa using hk) v',fun k B hk v' As=>?_,hs.apart,hs.fr⟩;·(rcases jG k B hk with ⟨rfl,rfl⟩|⟨lf,kX⟩);(·exact .inl ⟨rfl,hn _ (l5 v)⟩);exact hs.mem k B kX
 rcases jG k B hk with ⟨rfl,rfl⟩|⟨lf,kX⟩
 ·exact hn v' (Nat.lt_of_succ_lt As)
 exact hs.dF k B kX v' As
theorem nm {E:Env} {e:Nat} {rs xs:List V} {A B C:Array Value} (h1:yE E e rs A) (h2:yE E e xs B):mQ E e (rs++xs) (fun o=>(A++B++C)[o]?):=by
 intro i row hi;rw [XW] at hi;split at hi;·rename_i bR;obtain⟨h3,h4⟩:=h1.2 i row hi;refine⟨h3,fun j c hj=>?_⟩;obtain⟨x,hx,hr⟩:=h4 j c hj;dsimp only at hx;have aab:i*e+j<A.size:=(dH.1 hx).1;refine⟨x,?_,hr⟩;dsimp only;rw [atE,atm aab,hx]
 rename_i hZ;obtain⟨h3,h4⟩:=h2.2 (i-rs.length) row hi;refine⟨h3,fun j c hj=>?_⟩;obtain⟨x,hx,hr⟩:=h4 j c hj;dsimp only at hx;have aab:(i-rs.length)*e+j<B.size:=(dH.1 hx).1;refine⟨x,?_,hr⟩;dsimp only;have hmul:i*e=A.size+(i-rs.length)*e:=by rw [h1.1,← jw];congr 1;omega
 rw [atE,atW (by omega),atm (by omega),← hx];congr 1;omega
theorem ES {E:Env} {b v s l:Nat} {x:Value} (h:cV E (.ms b v s l) x):(l=0∧x = .slice none 0 0) ∨
  ∃ g e c a cap,x = .slice a l cap∧E.cw b v=some (g,e,c)∧(0<l→a=some ⟨g,s*e,none⟩)∧(s=0→a=some ⟨g,0,none⟩∧cap=c)∧(l≤cap∧s+cap=c∧(0<cap→a=some ⟨g,s*e,none⟩)):=by cases h with|jl=>exact .inl ⟨rfl,rfl⟩|ms _ _ _ _ _ g e c a cap hb hl h0 hc=>exact .inr ⟨g,e,c,a,cap,rfl,hb,hl,h0,hc⟩
theorem yH {E:Env} {e:Nat} {xs:List V} {A:Array Value} (AE:0<e) (h:yE E e xs A):∀ v∈A.toList,v.oneCell'=true:=by
 intro v hv;obtain⟨q,hq,rfl⟩:=List.mem_iff_getElem.1 hv;have U5:q<xs.length*e:=by rw [← h.1];simpa using hq
 have hiq:q / e<xs.length:=by rwa [atQ AE]
 have xy:=af hiq;obtain⟨akv,vP⟩:=h.2 _ _ xy;obtain⟨vv,hvv,JL,-⟩:=vP (q % e) _ (af (by rw [akv];exact asZ _ AE));dsimp only at hvv;rw [Nat.mul_comm,atr] at hvv;have:A.toList[q]=vv:=by (have U6:q<A.size:=by simpa using hq);rw [b9 U6] at hvv;simpa using hvv
 rw [this];exact JL
theorem CU {P:Program} {tt:Table} (ht:TT P tt) {E:Env} {w:World} {a:Act} {st:St} (hs:cY E w a st) {ts:Array TypeId} {ty:TypeId} {s x:V} {y z:Value} {size:Nat} {sr:Option (Nat×Nat)} {rows:List V} {key:Nat}
  (hk:jH st.mem key) (xH:cV E s y) (J4:cV E x z) (h:gE tt st.mem ts.toList s x=some (size,sr,rows)) :
  ∃ v w' E',(Builtin.append_ ts ty #[y,z]).run P w = .ok v w'∧cY E' w' a { st with mem:=(fu st.mem key size rows sr).1 }∧il E w E' w'∧cV E' (fu st.mem key size rows sr).2 v:=by
 unfold gE at h;split at h
 ·rename_i t u Ds;obtain rfl:ts = #[t,u]:=by rw [← cX (xs:=ts),Ds]
  split at h
  ·rename_i it hT;split at h
   ·rename_i e he;split at h
    ·rename_i e' PA;split at h
     ·rename_i i hE;split at h
      ·rename_i hc;obtain⟨AE,AF,CT⟩:=hc;split at h
       ·rename_i ap6 rs nZ;split at h
        ·rename_i xs xt;split at h
         ·rename_i hlen;split at h;case isFalse=>cases h
          rename_i akw;simp only [aB,dE] at h;obtain⟨rfl,rfl,rfl⟩:=h;obtain⟨d,hd,-,EA,-⟩:=ht.desc t it hT;obtain rfl:=EA e he;have Dt:∃ e1,P.underlying u=some (.slice e1):=by unfold jy at PA;split at PA;(·rename_i iu hU;obtain⟨d,hd,-,EA,-⟩:=ht.desc u iu hU;exact⟨e',by rw [hd,EA e' PA]⟩);simp at PA
          obtain⟨e1,Dt⟩:=Dt;obtain⟨info,yG,X3,hi3,z0,P0,X1⟩:=ht.size e i hE;have hzs:z0.cells.size=info.size:=by rw [X3,← CT,← X1];simp
          rw [← X3] at xt nZ AE ⊢;rw [← hi3] at AF;have X4:cY E w.drew a st:=hs.drew;obtain⟨xa,xc,rfl,hxc,xA,Pz,U7⟩:=jI (P:=P) hs J4 xt;obtain⟨xa',xc',heq,-,xB,hx3,hx4⟩:=jI (P:=P) X4 J4 xt;simp only [Value.slice.injEq] at heq;obtain⟨rfl,-,rfl⟩:=heq
          have vO:∀ jT,jT<rs.length+xs.length→Builtin.nextslicecap (rs.length+xs.length) jT*info.bytes≤281474976710656:=fun jT bR =>
           growslice_fits bR (Di (atn hlen AF) (by decide))
          have ug:(rs++xs).length=rs.length+xs.length:=by simp
          have hZ:∀ jT,rs.length+xs.length≤grownCap w (rs.length+xs.length) jT e:=fun jT=>grownCap_ge w (rs.length+xs.length) jT e;have ss:∀ (jT:Nat) (A:Array Value),yE E.pure info.size rs A→(A++xB++Builtin.zeroCells z0.cells (grownCap w (rs.length+xs.length) jT e-(rs.length+xs.length))).size=grownCap w (rs.length+xs.length) jT e*info.size:=fun jT A hrA=>by simp only [ad1,size_zeroCells,hzs,hrA.1,hx4.1,← jw];congr 1;have:=hZ jT;omega
          unfold mf at nZ;split at nZ;·simp only [aB,dE] at nZ;obtain⟨rfl,rfl⟩:=nZ;obtain rfl:=gP xH;by_cases h0:xs.length=0;(·have aef:xs=[]:=b7.1 h0;subst aef;exact⟨_,w,E,kg (ty:=ty) hd Dt yG xc xa xA Pz,hs.Vp hk info.size,il.refl E w,.jl _ _ _ _⟩);have gS:=me (ty:=ty) hd Dt yG P0 none 0 0 xs.length xc xa #[] xB rfl hx3 (by omega) (by omega) (vO 0 (by simp;omega));obtain⟨E',h5,h6,h7⟩:=cY.vK X4 (key:=key) hk (xs := #[]++xB++Builtin.zeroCells z0.cells (grownCap w (([]:List V).length+xs.length) 0 e-(([]:List V).length+xs.length))) (rs:=[]++xs) (e:=info.size) (c:=grownCap w (([]:List V).length+xs.length) 0 e) e (ss 0 #[] ⟨by simp,fun i row hi=>by simp at hi⟩) (by rw [ug];exact hZ 0) (nm ⟨by simp,fun i row hi=>by simp at hi⟩ hx4);refine⟨_,_,E',gS,h5,(il.drew E w).trans h6,?_⟩;simp only [fu];rw [ug] at h7 ⊢;exact h7
          ·rename_i oD;split at nZ;(case isFalse=>cases nZ);rename_i xF;simp only [aB,dE] at nZ;obtain⟨rfl,rfl⟩:=nZ;(have Mg:0<xs.length:=by cases xs with|nil=>simp [G1] at akw|cons _ _=>simp);cases xH with|full _ _ sa xH =>(have ZY:rowsOf st.mem info.size (.slice oD)=some oD:=by simp only [rowsOf];rw [if_pos xF]);obtain⟨sa',sc,heq,hsc,A,Gx,G3⟩:=jI (P:=P) X4 xH ZY;simp only [Value.slice.injEq] at heq;obtain⟨rfl,-,rfl⟩:=heq;have gS:=me (ty:=ty) hd Dt yG P0 sa oD.length oD.length xs.length xc xa A xB Gx hx3 (by omega) (by omega) (vO _ (by omega));obtain⟨E',h5,h6,h7⟩:=cY.vK X4 (key:=key) hk (xs:=A++xB++Builtin.zeroCells z0.cells (grownCap w (oD.length+xs.length) oD.length e-(oD.length+xs.length))) (rs:=oD++xs) (e:=info.size) (c:=grownCap w (oD.length+xs.length) oD.length e) e (ss oD.length A G3) (by rw [ug];exact hZ _) (nm G3 hx4);refine⟨_,_,E',gS,h5,(il.drew E w).trans h6,?_⟩;simp only [fu];rw [ug] at h7 ⊢;exact h7
          ·rename_i b v l;split at nZ
           ·rename_i v' eb nC hm;split at nZ
            ·rename_i P1;obtain⟨rfl,rfl,Vq⟩:=P1;simp only [aB,dE] at nZ;obtain⟨rfl,rfl⟩:=nZ;have ZY:rowsOf st.mem info.size (.ms b v' 0 l)=some nC:=by simp [rowsOf,hm,Vq];rw [← Vq];simp
             obtain⟨sa,sc,rfl,hsc,A,Gx,G3⟩:=jI (P:=P) X4 xH ZY;simp only [fu];by_cases vN:nC.length+xs.length≤sc
             ·
              rcases ES xH with ⟨uf,P2⟩|⟨g,eb',c,sa',sc',P2,hb,hl,NC,Dm⟩
              ·simp only [Value.slice.injEq] at P2
               obtain⟨rfl,akx,rfl⟩:=P2
               have Mg:xs=[]:=b7.1 (by omega)
               have hr0:nC=[]:=b7.1 (by omega)
               subst Mg;subst hr0
               exact⟨_,w,E,kg (ty:=ty) hd Dt yG xc xa xA Pz,hs.G2 hm,il.refl E w,.jl _ _ _ _⟩
              simp only [Value.slice.injEq] at P2
              obtain⟨rfl,-,rfl⟩:=P2
              obtain⟨rfl,X5⟩:=NC rfl
              have aky:=X5.symm
              subst aky
              rcases hs.mem b _ hm with ⟨-,hn⟩|⟨g',T',cur,c',kV,hh,Ev,pO,Dp,hf⟩
              ·rw [hb] at hn;cases hn
              rw [hb] at kV;cases kV
              have AH:nC.length*info.size+xA.toList.length≤cur.size:=by
               have:=U7.1
               simp only [j6]
               rw [this,Ev,← jw];exact lS _ vN
              obtain⟨w',oC,U3,ET⟩:=lG (P:=P) (g:=g) (T:=T') (nC.length*info.size) xA.toList 0 w cur hh (by simpa using AH) (yH AE U7)
              have gS:=AB (ty:=ty) hd Dt yG g nC.length c xs.length xc xa xA Pz vN oC
              have hle:E.le (E.with b (v'+1) (g,info.size,c)):=Env.nj (hs.dF b _ hm _ (l5 v')) _
              have fQ:(E.with b (v'+1) (g,info.size,c)).cw b (v'+1)=some (g,info.size,c):=if_pos ⟨rfl,rfl⟩
              refine⟨_,w',E.with b (v'+1) (g,info.size,c),gS,hs.renew hm (fun ad y hy=>?_) (by rw [ET.size];exact ax _) (by rw [ET.size];exact hs.lt _ _ _ _ _ hb) (fun k B' lf kX X6 g' e' c' gN=>?_) ?_ (fun k v2 e2 c2 h=>hs.apart _ _ _ _ _ _ _ _ _ h hb),
               ⟨hle,fun k q g' e' c' lf=>?_,fun ad y hy=>.inl hy,ET.os,ET.tape,ET.output,by rw [ET.size];exact ax _,fun b' kV cK=>ET.heap b' fun e=>by subst e;exact cK _ _ _ _ hb⟩,?_⟩
              ·have cK:=hs.EM hf hy
               rw [← hs.F ad y hy];simp [World.cell?,ET.heap _ cK]
              ·have hgg:g'≠g:=fun e=>by
                subst e
                exact lf (hs.apart _ _ _ _ _ _ _ _ _ gN hb)
               exact⟨ET.heap _ hgg,hgg⟩
              ·refine .inr ⟨g,T',_,c,fQ,U3,by rw [ma];exact Ev,by rw [ug];exact vN,?_,hf⟩
               intro q row hq
               simp only [kG]
               have G4:xA.toList.length=xs.length*info.size:=by simpa using U7.1
               rw [XW] at hq
               split at hq
               ·rename_i bR
                obtain⟨h3,h4⟩:=Dp q row hq
                refine⟨h3,fun j cc hj=>?_⟩
                obtain⟨v,hv,JL,NJ⟩:=h4 j cc hj
                have Gw:j<info.size:=by rw [← h3];exact (aq.1 hj).1
                refine⟨v,?_,JL,NJ⟩
                rw [kn _ _ _ _ AH,if_neg (by have:=AA bR Gw;omega)]
                exact hv
               rename_i akz
               obtain⟨h3,h4⟩:=U7.2 _ row hq
               refine⟨h3,fun j cc hj=>?_⟩
               obtain⟨v,hv,JL,NJ⟩:=h4 j cc hj
               have Gw:j<info.size:=by rw [← h3];exact (aq.1 hj).1
               have hql:q-nC.length<xs.length:=(aq.1 hq).1
               have hmul:q*info.size=nC.length*info.size+(q-nC.length)*info.size:=by rw [← jw];congr 1;omega
               refine⟨v,?_,JL,NJ⟩
               rw [kn _ _ _ _ AH,if_pos (by have:=AA hql Gw;omega)]
               dsimp only at hv
               rw [← hv,eN]
               congr 1;omega
              ·by_cases hq:k=b∧q=v'+1
               ·obtain⟨rfl,rfl⟩:=hq;rw [fQ] at lf;cases lf;exact .inl ⟨_,_,_,_,hb⟩
               have:(E.with b (v'+1) (g,info.size,c)).cw k q=E.cw k q:=if_neg hq
               rw [this] at lf;exact .inl ⟨_,_,_,_,lf⟩
              rw [ug]
              exact .ms _ _ _ _ _ g info.size c _ _ fQ (fun _=>by simp) (fun _=>⟨rfl,rfl⟩) ⟨vN,aZ _,fun _=>by simp⟩
             have bR:sc<nC.length+xs.length:=by omega
             have gS:=me (ty:=ty) hd Dt yG P0 sa nC.length sc xs.length xc xa A xB Gx hx3 bR (by omega) (vO sc bR);have hle:E.le (E.with b (v'+1) (w.heap.size,info.size,grownCap w (nC.length+xs.length) sc e)):=Env.nj (hs.dF b _ hm _ (l5 v')) _;have fQ:(E.with b (v'+1) (w.heap.size,info.size,grownCap w (nC.length+xs.length) sc e)).cw b (v'+1)=some (w.heap.size,info.size,grownCap w (nC.length+xs.length) sc e):=if_pos ⟨rfl,rfl⟩
             refine⟨_,_,E.with b (v'+1) (w.heap.size,info.size,grownCap w (nC.length+xs.length) sc e),gS,hs.renew hm (fun ad y hy=>?_) (by simp) (by simp) (fun k B' lf kX X6 g' e' c' gN=>?_) ?_ (fun k v2 e2 c2 h=>absurd (hs.lt _ _ _ _ _ h) (asL _)),
              ⟨hle,fun k q g' e' c' lf=>?_,fun ad y hy=>.inl hy,rfl,rfl,rfl,by simp,fun b' kV cK=>ed w.drew _ b' kV⟩,?_⟩
             ·rw [World.cell?_alloc_lt w.drew _ ad (World.block_lt_of_cell? w ad (hs.F ad y hy))];exact hs.F ad y hy
             ·have:=hs.lt _ _ _ _ _ gN;exact⟨ed w.drew _ g' this,by omega⟩
             ·refine .inr ⟨w.heap.size,e,_,_,fQ,heap_alloc_new w.drew _,ss sc A G3,by rw [ug];exact hZ sc,?_,fun o=>?_⟩;(·intro q row hq;obtain⟨h3,h4⟩:=nm (C:=Builtin.zeroCells z0.cells (grownCap w (nC.length+xs.length) sc e-(nC.length+xs.length))) G3 hx4 q row hq;exact⟨h3,fun j cc hj=>let ⟨v,hv,JL,NJ⟩:=h4 j cc hj;⟨v,hv,JL,NJ.mono (Env.lA hle)⟩⟩);show E.F _=none;cases hx:E.F ⟨w.heap.size,o,none⟩ with|none=>rfl|some x=>have:=World.block_lt_of_cell? w _ (hs.F _ _ hx);simp at this
             ·by_cases hq:k=b∧q=v'+1;(·obtain⟨rfl,rfl⟩:=hq;rw [fQ] at lf;cases lf;exact .inr (ax _));have:(E.with b (v'+1) (w.heap.size,info.size,grownCap w (nC.length+xs.length) sc e)).cw k q=E.cw k q:=if_neg hq;rw [this] at lf;exact .inl ⟨_,_,_,_,lf⟩
             rw [ug];exact .ms _ _ _ _ _ w.heap.size info.size _ _ _ fQ (fun _=>by simp) (fun _=>⟨rfl,rfl⟩) ⟨hZ sc,aZ _,fun _=>by simp⟩
            simp at nZ
           simp at nZ
          simp at nZ
         simp at h
        simp at h
       simp at h
      simp at h
     simp at h
    simp at h
   simp at h
  simp at h
 simp at h
end Go.Eng
end
section
namespace Go.Eng
variable [bk]
theorem gL.set {E:Env} {dK:List (Value×Nat×V)} {es:List MapEntry} (h:gL E dK es) (i:Nat) {kb:Value×Nat×V} {e:MapEntry} (h1:e.key=kb.1) (h2:e.born=kb.2.1) (h3:cV E kb.2.2 e.val):gL E (dK.set i kb) (es.set i e):=by
  refine⟨by simp [h.1],fun j k e' hk he=>?_⟩;by_cases JM:i=j;·subst JM;rw [bK] at hk he;simp only [if_true] at hk he;split at hk;(·split at he;(·cases hk;cases he;exact⟨h1,h2,h3⟩);·cases he);·cases hk
  ·rw [cL JM] at hk he;exact h.2 j k e' hk he
theorem gL.push {E:Env} {dK:List (Value×Nat×V)} {es:List MapEntry} (h:gL E dK es) {kb:Value×Nat×V} {e:MapEntry} (h1:e.key=kb.1) (h2:e.born=kb.2.1) (h3:cV E kb.2.2 e.val):gL E (dK++[kb]) (es++[e]):=by
  refine⟨by simp [h.1],fun j k e' hk he=>?_⟩;by_cases hj:j<dK.length;·rw [bx hj] at hk;rw [bx (by have:=h.1;omega)] at he;exact h.2 j k e' hk he
  ·rw [a6 (by omega)] at hk;rw [a6 (by have:=h.1;omega)] at he;rw [h.1] at hk;cases hd:j-es.length with|zero=>rw [hd] at hk he;simp at hk he;subst hk;subst he;exact⟨h1,h2,h3⟩|succ n=>rw [hd] at hk;simp at hk
theorem gL.erase {E:Env}:∀ {dK:List (Value×Nat×V)} {es:List MapEntry},gL E dK es→∀ (i:Nat),gL E (dK.eraseIdx i) (es.eraseIdx i)
  | [],es,h,i=>by rw [h.of_nil];exact⟨rfl,fun j k e hk=>by simp at hk⟩
  | k :: r,es,h,i=>by
    obtain⟨e,es',rfl,h1,h2,h3,h4⟩:=h.of_cons
    cases i with
    | zero=>exact h4
    | succ i =>
      have h5:=gL.erase h4 i
      simp only [List.eraseIdx_cons_succ]
      refine⟨by simp [h5.1],fun j k' e' hk he=>?_⟩
      cases j with
      | zero=>simp at hk he;subst hk;subst he;exact⟨h1,h2,h3⟩
      | succ j=>exact h5.2 j k' e' (by simpa using hk) (by simpa using he)
def insertAt (P:Program) (kt:TypeId) (key:Value) (v:V) (dK:List (Value×Nat×V)) (clock:Nat):Option (List (Value×Nat×V)×Nat) :=
  match qg P kt key dK with
  | some (some (i,_))=>match dK[i]? with
    | some e=>if Instr.sameBits 10000 e.1 key=true then some (dK.set i (key,e.2.1,v),clock) else none
    | none=>none
  | some none=>some (dK++[(key,clock,v)],clock+1)
  | none=>none
def dP (P:Program) (mem:List bm) (T:TypeId) (m k v:V):Option (List bm) :=
  match ji P T with
  | some (kt,_)=>match fI k with
    | some key=>if uz P kt key=true then
        match m with
        | .mp b=>match mem[b]? with
          | some (.map dK clock)=>match insertAt P kt key v dK clock with
            | some (kvs',clock')=>some (mem.set b (.map kvs' clock'))
            | none=>none
          | _=>none
        | _=>none
      else none
    | none=>none
  | none=>none
def Mi (P:Program) (kt et:TypeId) (key:Value) (dK:List (Value×Nat×V)) (clock:Nat):Option (List (Value×Nat×V)×Nat×V) :=
  match qg P kt key dK with
  | some (some (i,v))=>match dK[i]? with
    | some e=>if Instr.sameBits 10000 e.1 key=true then some (dK.set i (key,e.2.1,e.2.2),clock,.ec [v,.sc (.int .i64 e.2.1)]) else none
    | none=>none
  | some none=>match zeroV P et with
    | some z=>some (dK++[(key,clock,z)],clock+1,.ec [z,.sc (.int .i64 clock)])
    | none=>none
  | none=>none
def xI (P:Program) (mem:List bm) (T:TypeId) (m k:V):Option (List bm×V) :=
  match ji P T with
  | some (kt,et)=>match fI k with
    | some key=>if uz P kt key=true then
        match m with
        | .mp b=>match mem[b]? with
          | some (.map dK clock)=>match Mi P kt et key dK clock with
            | some (kvs',clock',v)=>some (mem.set b (.map kvs' clock'),v)
            | none=>none
          | _=>none
        | _=>none
      else none
    | none=>none
  | none=>none
def xJ (mem:List bm) (m s v:V):Option (List bm) :=
  match m,s with
  | .mp b,.sc (.int _ n)=>match mem[b]? with
    | some (.map dK clock)=>match dK.findIdx? (fun e=>(e.2.1:Int)==n) with
      | some i=>match dK[i]? with
        | some e=>some (mem.set b (.map (dK.set i (e.1,e.2.1,v)) clock))
        | none=>none
      | none=>none
    | _=>none
  | _,_=>none
def tH (P:Program) (mem:List bm) (ts:Array TypeId):List V→Option (List bm)
  | [.mp b,k]=>match ts[0]? with
    | some T=>match ji P T with
      | some (kt,_)=>match fI k with
        | some key=>if uz P kt key=true then
            match mem[b]? with
            | some (.map dK clock)=>match qg P kt key dK with
              | some (some (i,_))=>some (mem.set b (.map (dK.eraseIdx i) clock))
              | some none=>some (mem.set b (.map dK clock))
              | none=>none
            | _=>none
          else none
        | none=>none
      | none=>none
    | none=>none
  | _=>none
theorem su {w:World} {g:Nat} {o:Obj}:vL w { w with heap:=w.heap.setIfInBounds g o } g :=
  ⟨rfl,rfl,rfl,by simp,fun b hb=>Eu (fun e=>hb e.symm)⟩
theorem heap_set {w:World} {g:Nat} {o o':Obj} (h:w.heap[g]?=some o):({ w with heap:=w.heap.setIfInBounds g o' }:World).heap[g]?=some o':=by
  have:g<w.heap.size:=by (rcases br g w.heap.size with h1|h1);(·exact h1);·rw [asM h1] at h;cases h
  simp [this]
theorem cY.qV {E:Env} {w:World} {a:Act} {st:St} (hs:cY E w a st) {b g e c:Nat} {dK kvs':List (Value×Nat×V)} {clock clock':Nat} {es es':Array MapEntry} (hm:st.mem[b]?=some (.map dK clock)) (hb:E.cw b 0=some (g,e,c)) (hh:w.heap[g]?=some (.map es clock))
    (hf:∀ o,E.F ⟨g,o,none⟩=none) (hr:gL E kvs' es'.toList) :
    cY E { w with heap:=w.heap.setIfInBounds g (.map es' clock') } a { st with mem:=st.mem.set b (.map kvs' clock') }∧il E w E { w with heap:=w.heap.setIfInBounds g (.map es' clock') }:=by obtain⟨-,-,-,-,h0⟩:=ni hs hm hb;cases h0;exact hs.GZ hm rfl (B':=.map kvs' clock') rfl hb hf su ⟨g,es',hb,heap_set hh,hr,hf⟩
theorem uS {es:Array MapEntry} {i:Nat} {e:MapEntry} (h:es[i]?=some e) (f:MapEntry→MapEntry):(es.modify i f).toList=es.toList.set i (f e):=by
  apply dq;intro j;rw [eN,atP,bK];by_cases JM:i=j;·subst JM;have:i<es.size:=(dH.1 h).1;have he:es[i]=e:=(dH.1 h).2;simp [this,he]
  ·simp [JM]
theorem Du {P:Program} {w:World} {sr new:Value} (h:Instr.sameBits 10000 sr new=true):(Instr.keyThatStays sr new).run P w = .ok new w:=by simp [Instr.keyThatStays,h]
theorem uC {P:Program} {E:Env} {w:World} {a:Act} {st:St} (hs:cY E w a st) {T:TypeId} {m k v:V} {x y z:Value} {bV:List bm} (hm:cV E m x) (hk:cV E k y) (hv:cV E v z) (h:dP P st.mem T m k v=some bV) :
    ∃ w',(Instr.mapUpdate T x y z).run P w = .ok () w'∧cY E w' a { st with mem:=bV }∧il E w E w':=by
  unfold dP at h;split at h;·rename_i kt et hd;have hd:=lF hd;split at h;(·rename_i key fQ;cases kJ hk fQ;split at h;(·rename_i fF;have J0:=fun b=>po fF b w;split at h;(·rename_i b;obtain⟨g,e,c,rfl,hb⟩:=uQ hm;split at h;(·rename_i dK clock hB;obtain⟨es,hh,hr,hf,-⟩:=ni hs hB hb;split at h;(·rename_i kvs' clock' hi;cases h;unfold insertAt at hi;split at hi;(·rename_i i u AI;obtain⟨r',h1,h2⟩:=iG hr w AI;match r',h2 with|some (j',z'),h2 =>obtain⟨rfl,h3,kb,en,h4,h5,h6,h7⟩:=h2;(have h5':es[i]?=some en:=by simpa using h5);split at hi;(·rename_i kb' lf;rw [lf] at h4;cases h4;split at hi;(·rename_i P3;cases hi;obtain⟨p1,p2,p3⟩:=hr.2 i _ _ lf h5;(have gS:(Instr.mapUpdate T (.map (some g)) y z).run P w = .ok () { w with heap:=w.heap.setIfInBounds g (.map (es.modify i fun e => { e with key:=y,val:=z }) clock) }:=by have:=jF (P:=P) (o':=.map (es.modify i fun e => { e with key:=y,val:=z }) clock) hh (by simp);simp [Instr.mapUpdate,bC hd,fU hh,J0,h1,h5',p1,Du P3,this]);obtain⟨q1,q2⟩:=hs.qV hB hb hh hf (clock':=clock) (kvs':=dK.set i (y,kb.2.1,v)) (es':=es.modify i fun e => { e with key:=y,val:=z }) (by rw [uS h5'];exact hr.set i rfl p2 hv);exact⟨_,gS,q1,q2⟩);·cases hi);·cases hi);(·rename_i AI;obtain⟨r',h1,h2⟩:=iG hr w AI;match r',h2 with|none,h2 =>cases hi;(have gS:(Instr.mapUpdate T (.map (some g)) y z).run P w = .ok () { w with heap:=w.heap.setIfInBounds g (.map (es.push { key:=y,val:=z,born:=clock }) (clock+1)) }:=by have:=jF (P:=P) (o':=.map (es.push { key:=y,val:=z,born:=clock }) (clock+1)) hh (by simp);simp [Instr.mapUpdate,bC hd,fU hh,J0,h1,this]);obtain⟨q1,q2⟩:=hs.qV hB hb hh hf (clock':=clock+1) (kvs':=dK++[(y,clock,v)]) (es':=es.push { key:=y,val:=z,born:=clock }) (by rw [atz];exact hr.push rfl rfl hv);exact⟨_,gS,q1,q2⟩);·cases hi);·cases h);·cases h);·cases h);·cases h);·cases h
  ·cases h
theorem G5 {E:Env} {v:V} {x:Value} (h:cV E v x) (n:Nat):cV E (.ec [v,.sc (.int .i64 n)]) (.tuple #[x,goInt n]):=by refine .ec _ _ _ rfl fun i c y hc hy=>?_;match i with|0=>simp at hc hy;subst hc;subst hy;exact h|1=>simp at hc hy;subst hc;subst hy;exact .sc _ _|i+2=>simp at hc
theorem EU {P:Program} {E:Env} {w:World} {a:Act} {st:St} (hs:cY E w a st) {T:TypeId} {m k v:V} {x y:Value} {bV:List bm} (hm:cV E m x) (hk:cV E k y) (h:xI P st.mem T m k=some (bV,v)) :
    ∃ z w',(Instr.mapEntry T x y).run P w = .ok z w'∧cY E w' a { st with mem:=bV }∧il E w E w'∧cV E v z:=by
  unfold xI at h;split at h;·rename_i kt et hd;have hd:=lF hd;split at h;(·rename_i key fQ;cases kJ hk fQ;split at h;(·rename_i fF;have J0:=fun b=>po fF b w;split at h;(·rename_i b;obtain⟨g,e,c,rfl,hb⟩:=uQ hm;split at h;(·rename_i dK clock hB;obtain⟨es,hh,hr,hf,-⟩:=ni hs hB hb;split at h;(·rename_i kvs' clock' v' hi;cases h;unfold Mi at hi;split at hi;(·rename_i i u AI;obtain⟨r',h1,h2⟩:=iG hr w AI;match r',h2 with|some (j',z'),h2 =>obtain⟨rfl,h3,kb,en,h4,h5,h6,h7⟩:=h2;(have h5':es[i]?=some en:=by simpa using h5);split at hi;(·rename_i kb' lf;rw [lf] at h4;cases h4;split at hi;(·rename_i P3;cases hi;obtain⟨p1,p2,p3⟩:=hr.2 i _ _ lf h5;(have gS:(Instr.mapEntry T (.map (some g)) y).run P w = .ok (.tuple #[z',goInt en.born]) { w with heap:=w.heap.setIfInBounds g (.map (es.modify i fun e => { e with key:=y }) clock) }:=by have:=jF (P:=P) (o':=.map (es.modify i fun e => { e with key:=y }) clock) hh (by simp);simp [Instr.mapEntry,bC hd,fU hh,J0,h1,h5',p1,Du P3,this]);obtain⟨q1,q2⟩:=hs.qV hB hb hh hf (clock':=clock) (kvs':=dK.set i (y,kb.2.1,kb.2.2)) (es':=es.modify i fun e => { e with key:=y }) (by rw [uS h5'];exact hr.set i rfl p2 p3);exact⟨_,_,gS,q1,q2,by rw [p2];exact G5 h3 _⟩);·cases hi);·cases hi);(·rename_i AI;obtain⟨r',h1,h2⟩:=iG hr w AI;match r',h2 with|none,h2 =>split at hi;(·rename_i z0 P0;cases hi;obtain⟨zz,h3,h4⟩:=sk P0 E w;(have gS:(Instr.mapEntry T (.map (some g)) y).run P w = .ok (.tuple #[zz,goInt clock]) { w with heap:=w.heap.setIfInBounds g (.map (es.push { key:=y,val:=zz,born:=clock }) (clock+1)) }:=by have:=jF (P:=P) (o':=.map (es.push { key:=y,val:=zz,born:=clock }) (clock+1)) hh (by simp);simp [Instr.mapEntry,bC hd,fU hh,J0,h1,h3,this]);obtain⟨q1,q2⟩:=hs.qV hB hb hh hf (clock':=clock+1) (kvs':=dK++[(y,clock,z0)]) (es':=es.push { key:=y,val:=zz,born:=clock }) (by rw [atz];exact hr.push rfl rfl h4);exact⟨_,_,gS,q1,q2,G5 h4 _⟩);·cases hi);·cases hi);·cases h);·cases h);·cases h);·cases h);·cases h
  ·cases h
theorem yI {E:Env} (n:Int):∀ {dK:List (Value×Nat×V)} {es:List MapEntry},gL E dK es→dK.findIdx? (fun e=>(e.2.1:Int)==n)=es.findIdx? (fun e=>(e.born:Int)==n)
  | [],es,h=>by rw [h.of_nil];rfl
  | k :: r,es,h=>by
    obtain⟨e,es',rfl,h1,h2,h3,h4⟩:=h.of_cons
    rw [atF,atF,h2,yI n h4]
theorem EV {P:Program} {E:Env} {w:World} {a:Act} {st:St} (hs:cY E w a st) {T:TypeId} {m s v:V} {x y z:Value} {bV:List bm} (hm:cV E m x) (hk:cV E s y) (hv:cV E v z) (h:xJ st.mem m s v=some bV) :
    ∃ w',(Instr.entryStore T x y z).run P w = .ok () w'∧cY E w' a { st with mem:=bV }∧il E w E w':=by
  unfold xJ at h;split at h;·rename_i b k n;obtain⟨g,e,c,rfl,hb⟩:=uQ hm;obtain rfl:=tD hk;split at h;(·rename_i dK clock hB;obtain⟨es,hh,hr,hf,-⟩:=ni hs hB hb;split at h;(·rename_i i hi;split at h;(·rename_i kb lf;cases h;obtain⟨en,h5,p1,p2,p3⟩:=hr.get lf;(have h5':es[i]?=some en:=by simpa using h5);(have Vr:es.findIdx? (fun e=>(e.born:Int)==n)=some i:=by rw [yI n hr,← List.findIdx?_toArray,cX] at hi;exact hi);(have gS:(Instr.entryStore T (.map (some g)) (.int k n) z).run P w = .ok () { w with heap:=w.heap.setIfInBounds g (.map (es.modify i fun e => { e with val:=z }) clock) }:=by have:=jF (P:=P) (o':=.map (es.modify i fun e => { e with val:=z }) clock) hh (by simp);simp [Instr.entryStore,fU hh,asInt,asIntOf,Vr,this]);obtain⟨q1,q2⟩:=hs.qV hB hb hh hf (clock':=clock) (kvs':=dK.set i (kb.1,kb.2.1,v)) (es':=es.modify i fun e => { e with val:=z }) (by rw [uS h5'];exact hr.set i p1 p2 hv);exact⟨_,gS,q1,q2⟩);·cases h);·cases h);·cases h
  ·cases h
theorem CV {P:Program} {E:Env} {w:World} {a:Act} {st:St} (hs:cY E w a st) {ts:Array TypeId} {ty:TypeId} {xs:List V} {ys:Array Value} {bV:List bm} (hx:cJ E xs ys.toList) (h:tH P st.mem ts xs=some bV) :
    ∃ w',(Builtin.delete_ ts ty ys).run P w = .ok (.tuple #[]) w'∧cY E w' a { st with mem:=bV }∧il E w E w':=by
  unfold tH at h;split at h;·rename_i b k;obtain⟨x,r,hy,EH,hx⟩:=hx.of_cons;obtain⟨y,r2,hz,EW,hx⟩:=hx.of_cons;have:=hx.of_nil;subst this;subst hz;(obtain rfl:ys = #[x,y]:=by rw [← cX (xs:=ys),hy]);obtain⟨g,e,c,rfl,hb⟩:=uQ EH;split at h;(·rename_i T h0;split at h;(·rename_i kt et hd;have hd:=lF hd;split at h;(·rename_i key fQ;cases kJ EW fQ;split at h;(·rename_i fF;have J0:=fun b=>po fF b w;split at h;(·rename_i dK clock hB;obtain⟨es,hh,hr,hf,-⟩:=ni hs hB hb;split at h;(·rename_i i u AI;cases h;obtain⟨r',h1,h2⟩:=iG hr w AI;match r',h2 with|some (j',z'),h2 =>obtain⟨rfl,h3,kb,en,h4,h5,h6,h7⟩:=h2;(have gS:(Builtin.delete_ ts ty #[.map (some g),y]).run P w = .ok (.tuple #[]) { w with heap:=w.heap.setIfInBounds g (.map (es.eraseIdxIfInBounds i) clock) }:=by have:=jF (P:=P) (o':=.map (es.eraseIdxIfInBounds i) clock) hh (by simp);simp [Builtin.delete_,h0,bC hd,fU hh,J0,h1,this]);obtain⟨q1,q2⟩:=hs.qV hB hb hh hf (clock':=clock) (kvs':=dK.eraseIdx i) (es':=es.eraseIdxIfInBounds i) (by rw [Array.toList_eraseIdxIfInBounds];exact hr.erase i);exact⟨_,gS,q1,q2⟩);(·rename_i AI;cases h;obtain⟨r',h1,h2⟩:=iG hr w AI;match r',h2 with|none,h2 =>(have gS:(Builtin.delete_ ts ty #[.map (some g),y]).run P w = .ok (.tuple #[]) { w with heap:=w.heap.setIfInBounds g (.map es clock) }:=by have:=jF (P:=P) (o':=.map es clock) hh (by simp);simp [Builtin.delete_,h0,bC hd,fU hh,J0,h1,this]);obtain⟨q1,q2⟩:=hs.qV hB hb hh hf (clock':=clock) (kvs':=dK) (es':=es) hr;exact⟨_,gS,q1,q2⟩);·cases h);·cases h);·cases h);·cases h);·cases h);·cases h
  ·cases h
def leftOf (dK:List (Value×Nat×V)) (seen:List Nat):List (Value×Nat×V):=dK.filter fun e=>!seen.contains e.2.1
def AJ (dK:List (Value×Nat×V)) (seen:List Nat) (since:Nat):List (Value×Nat×V):=(leftOf dK seen).filter fun e=>e.2.1<since
def P4 (dK:List (Value×Nat×V)) (seen:List Nat) (since:Nat):List (Value×Nat×V):=(leftOf dK seen).filter fun e=>e.2.1≥since
def EX (dK:List (Value×Nat×V)) (seen:List Nat) (last:Nat):Bool:=!seen.isEmpty && !dK.isEmpty&&dK.all fun e=>e.2.1≥last
def AK:V:=.ec [.sc (.bool false)]
def P5 (e:Value×Nat×V):V:=.ec [.sc (.bool true),lj e.1,e.2.2]
def X7 (s:ByteArray) (pos:Nat):V:=.ec [.sc (.bool true),.sc (.int .i64 pos),.sc (.int .i32 (Utf8.decode s pos).1)]
def vS (st:St) (dst:Option Tmp) (it:V) (str:Bool) (Q:St→Prop):Prop :=
  match it with
  | .ptr b 0=>match st.mem[b]? with
    | some (.jR m since seen last)=>match st.mem[m]? with
      | some (.map dK clock)=>str=false∧EX dK seen last=false∧(AJ dK seen since=[]→Q (st.put dst AK)) ∧
          ∀ e∈AJ dK seen since++P4 dK seen since,Q ({ st with mem:=st.mem.set b (.jR m since (seen++[e.2.1]) clock) }.put dst (P5 e))
      | _=>False
    | some (.nY s pos)=>str=true∧if pos<s.size then Q ({ st with mem:=st.mem.set b (.nY s (pos+(Utf8.decode s pos).2)) }.put dst (X7 s pos)) else Q (st.put dst AK)
    | some .oz=>str=false∧Q (st.put dst AK)
    | _=>False
  | _=>False
theorem gL.filter {E:Env} (p:Nat→Bool):∀ {dK:List (Value×Nat×V)} {es:List MapEntry},gL E dK es→gL E (dK.filter fun e=>p e.2.1) (es.filter fun e=>p e.born)
  | [],es,h=>by rw [h.of_nil];exact⟨rfl,fun j k e hk=>by simp at hk⟩
  | k :: r,es,h=>by
    obtain⟨e,es',rfl,h1,h2,h3,h4⟩:=h.of_cons
    have h5:=gL.filter p h4
    simp only [List.filter_cons,h2]
    split
    · refine⟨by simp [h5.1],fun j k' e' hk he=>?_⟩
      cases j with
      | zero=>simp at hk he;subst hk;subst he;exact⟨h1,h2,h3⟩
      | succ j=>exact h5.2 j k' e' (by simpa using hk) (by simpa using he)
    · exact h5
theorem gL.all {E:Env} (p:Nat→Bool):∀ {dK:List (Value×Nat×V)} {es:List MapEntry},gL E dK es→(dK.all fun e=>p e.2.1)=es.all fun e=>p e.born
  | [],es,h=>by rw [h.of_nil];rfl
  | k :: r,es,h=>by
    obtain⟨e,es',rfl,h1,h2,h3,h4⟩:=h.of_cons
    simp only [ct,h2,gL.all p h4]
theorem gL.append {E:Env} {a b:List (Value×Nat×V)} {x y:List MapEntry} (h:gL E a x) (k:gL E b y):gL E (a++b) (x++y):=by
  refine⟨by simp [h.1,k.1],fun j kk e hk he=>?_⟩;by_cases hj:j<a.length;·rw [bx hj] at hk;rw [bx (by have:=h.1;omega)] at he;exact h.2 j kk e hk he
  ·rw [a6 (by omega)] at hk;rw [a6 (by have:=h.1;omega)] at he;rw [h.1] at hk;exact k.2 _ kk e hk he
theorem NK {E:Env} {k:Value×Nat×V} {e:MapEntry} (h1:e.key=k.1) (h3:cV E k.2.2 e.val):cV E (P5 k) (.tuple #[.bool true,e.key,e.val]):=by refine .ec _ _ _ rfl fun i c y hc hy=>?_;match i with|0=>simp at hc hy;subst hc;subst hy;exact .sc _ _|1=>simp at hc hy;subst hc;subst hy;rw [h1];exact ll E _|2=>simp at hc hy;subst hc;subst hy;exact h3|i+3=>simp at hc
theorem AL {P:Program} {w:World} {n:Nat} (hn:0<n):∃ i w',(choose (.mapNext n)).run P w = .ok i w'∧i<n∧(w'=w∨w'=w.drew):=by
  unfold choose;rw [Sem.run];split;·exact⟨0,w,rfl,hn,.inl rfl⟩
  ·exact⟨_,_,rfl,asZ _ hn,.inr rfl⟩
theorem cY.aag {E:Env} {w w':World} {a:Act} {st:St} (hs:cY E w a st) (h:w'=w∨w'=w.drew):cY E w' a st∧il E w E w'∧w'.heap=w.heap:=by
  rcases h with rfl|rfl
  ·exact⟨hs,il.refl _ _,rfl⟩
  ·exact⟨hs.drew,il.drew _ _,rfl⟩
theorem G6 {P:Program} {E:Env} {w:World} {a:Act} {st:St} (hs:cY E w a st) {dst:Option Tmp} {it:V} {x:Value} {str:Bool} {ty:TypeId} {Q:St→Prop} (hi:cV E it x) (h:vS st dst it str Q) :
    ∃ z w' st',(Instr.next x str ty).run P w = .ok z w'∧cY E w' (a.put dst z) st'∧il E w E w'∧Q st':=by
  unfold vS at h;split at h
  · rename_i b;split at h
    · rename_i m since seen last hB;split at h
      · rename_i dK clock hM;obtain⟨rfl,oC,aeh,cD⟩:=h;obtain⟨g,gm,em,cm,hb,UZ,hh,hf⟩:=hs.mem b _ hB;obtain⟨es,hhm,hr,hfm,h0⟩:=ni hs hM UZ;cases h0
        cases hi with
        | ptr _ _ _ g' e' c' kV =>
        rw [hb] at kV;cases kV
        have jG:(getObj g).run P w = .ok (.mapIter (some gm) since seen.toArray last) w:=by simp [getObj,Sem.run,hh]
        have aah:(!seen.toArray.isEmpty && !es.isEmpty&&es.all (fun e=>decide (e.born≥last)))=false:=by
          rw [← oC]
          unfold EX
          have e1:seen.toArray.isEmpty=seen.isEmpty:=by simp
          have e2:es.isEmpty=dK.isEmpty:=by
            have h1:=hr.1
            rw [ju,atx,as9,← b7,h1,j6]
          rw [e1,e2,← Array.all_toList,← gL.all (fun n=>decide (n≥last)) hr]
        have X8:(es.filter fun e=>!seen.toArray.contains e.born).toList=es.toList.filter fun e=>!seen.contains e.born:=by
          rw [ate];simp
        have hl:=gL.filter (fun n=>!seen.contains n) hr
        have ho:=gL.filter (fun n=>decide (n<since)) hl
        have hw:=gL.filter (fun n=>decide (n≥since)) hl
        have hon:=ho.append hw
        obtain⟨L,hL⟩:∃ L,L=es.filter fun e=>!seen.toArray.contains e.born:=⟨_,rfl⟩
        have hO:(L.filter fun e=>decide (e.born<since)).toList=(es.toList.filter fun e=>!seen.contains e.born).filter fun e=>decide (e.born<since):=by rw [ate,hL,X8]
        have hN:(L.filter fun e=>decide (e.born≥since)).toList=(es.toList.filter fun e=>!seen.contains e.born).filter fun e=>decide (e.born≥since):=by rw [ate,hL,X8]
        rw [← hO] at ho
        rw [← hO,← hN] at hon
        generalize hOO:L.filter (fun e=>decide (e.born<since))=O at ho hon
        generalize hNN:L.filter (fun e=>decide (e.born≥since))=N at hon
        have akA:O.isEmpty=(AJ dK seen since).isEmpty:=by
          have h1:=ho.1
          rw [ju,atx,as9,← b7,← j6,← h1];rfl
        have aej:0<((if O.isEmpty then #[none] else #[])++(O++N).map some:Array (Option MapEntry)).size:=by
          by_cases P6:O.isEmpty=true
          · rw [if_pos P6];simp;omega
          · rw [if_neg P6]
            have:O.size≠0:=fun h=>P6 (atx.2 h)
            simp;omega
        obtain⟨i,w1,hc1,P1,Vq⟩:=AL (P:=P) (w:=w) aej
        obtain⟨s1,v1,hp1⟩:=hs.aag Vq
        have gS:∀ {R},(match ((if O.isEmpty then #[none] else #[])++(O++N).map some:Array (Option MapEntry))[i]? with
            | some (some e)=>do setObj g (.mapIter (some gm) since (seen.toArray.push e.born) clock);pure (Value.tuple #[.bool true,e.key,e.val])
            | some none=>(pure (Value.tuple #[.bool false]):Sem Value)
            | none=>stuck "Next: no such candidate").run P w1=R→(Instr.next (.pointer (some ⟨g,0,none⟩)) false ty).run P w=R:=fun hR=>by
          rw [← hR]
          simp only [Instr.next,Sem.run_bind,jG,Result.andThen_ok,fU hhm,aah,bJ,if_false,← hL,hOO,hNN,hc1]
          rfl
        have hci:=b9 P1
        by_cases o7:i<(if O.isEmpty then #[none] else #[]:Array (Option MapEntry)).size
        · have P6:O.isEmpty=true:=by
            by_cases P6:O.isEmpty=true
            · exact P6
            · rw [if_neg P6] at o7;simp at o7
          rw [if_pos P6] at o7
          have hi0:i=0:=by simp at o7;omega
          subst hi0
          have hold:AJ dK seen since=[]:=by rw [akA] at P6;exact as9.1 P6
          refine⟨_,w1,_,gS (R:=Result.ok (Value.tuple #[.bool false]) w1) ?_,s1.put dst (.ec _ _ _ rfl fun i c y hc hy=>?_),v1,aeh hold⟩
          · rw [if_pos P6,atm (by simp)];rfl
          · match i with
            | 0=>simp at hc hy;subst hc;subst hy;exact .sc _ _
            | i+1=>simp at hc
        · obtain⟨j,hj,hje⟩:∃ j,j<(O++N).size∧((if O.isEmpty then #[none] else #[])++(O++N).map some:Array (Option MapEntry))[i]?=some (some ((O++N)[j]!)):=by
            refine⟨i-(if O.isEmpty then #[none] else #[]:Array (Option MapEntry)).size,?_,?_⟩
            · have:=P1;simp only [ad1,ato] at this ⊢;omega
            · rw [atW (by omega),atG]
              have bR:i-(if O.isEmpty then #[none] else #[]:Array (Option MapEntry)).size<(O++N).size:=by have:=P1;simp only [ad1,ato] at this ⊢;omega
              rw [b9 bR,getElem!_pos (O++N) _ bR];rfl
          rw [getElem!_pos (O++N) _ hj] at hje
          obtain⟨kb,lf⟩:∃ kb,(AJ dK seen since++P4 dK seen since)[j]?=some kb:=⟨_,af (by have h1:=hon.1;simp only [bc,j6] at h1;simp only [bc];simp only [ad1] at hj;exact Nat.lt_of_lt_of_eq hj h1.symm)⟩
          obtain⟨en,fX,p1,p2,p3⟩:=hon.get lf
          have akB:(O++N)[j]=en:=by
            have:(O++N).toList[j]?=some en:=by rw [j7];exact fX
            rw [eN,b9 hj] at this
            simpa using this
          rw [akB] at hje
          have hh1:w1.heap[g]?=some (.mapIter (some gm) since seen.toArray last):=by rw [hp1];exact hh
          have vC:oA E { w1 with heap:=w1.heap.setIfInBounds g (.mapIter (some gm) since (seen.toArray.push en.born) clock) } b (.jR m since (seen++[kb.2.1]) clock):=by
            refine⟨g,gm,0,0,hb,UZ,?_,hf⟩
            rw [heap_set hh1,p2];simp
          obtain⟨q1,q2⟩:=s1.GZ hB rfl (B':=.jR m since (seen++[kb.2.1]) clock) rfl hb hf su vC
          refine⟨.tuple #[.bool true,en.key,en.val],_,_,gS ?_,q1.put dst (NK p1 p3),v1.trans q2,cD kb (ay lf)⟩
          rw [hje]
          have:=jF (P:=P) (o':=.mapIter (some gm) since (seen.toArray.push en.born) clock) hh1 (by simp)
          dsimp only
          rw [Sem.run_bind,this];rfl
      ·exact h.elim
    ·rename_i s pos hB;obtain⟨rfl,AM⟩:=h;obtain⟨g,hb,hh,hf⟩:=hs.mem b _ hB;cases hi with|ptr _ _ _ g' e' c' kV =>rw [hb] at kV;cases kV;(have jG:(getObj g).run P w = .ok (.stringIter s pos) w:=by simp [getObj,Sem.run,hh]);split at AM;(·rename_i bR;obtain⟨q1,q2⟩:=hs.GZ hB rfl (B':=.nY s (pos+(Utf8.decode s pos).2)) rfl hb hf (su (o:=.stringIter s (pos+(Utf8.decode s pos).2))) ⟨g,hb,heap_set hh,hf⟩;refine⟨.tuple #[.bool true,goInt pos,.int .i32 (Utf8.decode s pos).1],_,_,?_,q1.put dst (.ec _ _ _ rfl fun i c y hc hy=>?_),q2,AM⟩;(·have:=jF (P:=P) (o':=.stringIter s (pos+(Utf8.decode s pos).2)) hh (by simp);simp [Instr.next,jG,bR,this]);·match i with|0=>simp at hc hy;subst hc;subst hy;exact .sc _ _|1=>simp at hc hy;subst hc;subst hy;exact .sc _ _|2=>simp at hc hy;subst hc;subst hy;exact .sc _ _|i+3=>simp at hc);·rename_i bR;refine⟨.tuple #[.bool false],w,_,by simp [Instr.next,jG,bR],hs.put dst (.ec _ _ _ rfl fun i c y hc hy=>?_),il.refl _ _,AM⟩;match i with|0=>simp at hc hy;subst hc;subst hy;exact .sc _ _|i+1=>simp at hc
    ·rename_i hB;obtain⟨rfl,AM⟩:=h;obtain⟨g,hb,hh,hf⟩:=hs.mem b _ hB;cases hi with|ptr _ _ _ g' e' c' kV =>rw [hb] at kV;cases kV;(have jG:(getObj g).run P w = .ok (.mapIter none 0 #[] 0) w:=by simp [getObj,Sem.run,hh]);refine⟨.tuple #[.bool false],w,_,by simp [Instr.next,jG],hs.put dst (.ec _ _ _ rfl fun i c y hc hy=>?_),il.refl _ _,AM⟩;match i with|0=>simp at hc hy;subst hc;subst hy;exact .sc _ _|i+1=>simp at hc
    ·exact h.elim
  ·exact h.elim
def qk (P:Program) (mem:List bm) (T:TypeId) (x:V):Option bm :=
  match x with
  | .mp b=>match mem[b]? with
    | some (.map _ clock)=>match ji P T with|some _=>some (.jR b clock [] clock)|none=>none
    | _=>none
  | .sc (.map none)=>match ji P T with|some _=>some .oz|none=>none
  | .sc (.string s)=>match P.underlying T with|some .string=>some (.nY s 0)|_=>none
  | _=>none
theorem Mj {E:Env} {w:World} {a:Act} {st:St} (hs:cY E w a st) (o:Nat):E.F ⟨w.heap.size,o,none⟩=none:=by cases hx:E.F ⟨w.heap.size,o,none⟩ with|none=>rfl|some x=>have:=World.block_lt_of_cell? w _ (hs.F _ _ hx);simp at this
theorem cY.newObj {E:Env} {w:World} {a:Act} {st:St} (hs:cY E w a st) {key:Nat} (hk:jH st.mem key) {obj:Obj} {B:bm} (hv:B.dF=0) (hB:oA (E.with key 0 (w.heap.size,0,0)) (w.alloc obj) key B) :
    ∃ E',cY E' (w.alloc obj) a { st with mem:=dn st.mem key B }∧il E w E' (w.alloc obj)∧E'.cw key 0=some (w.heap.size,0,0):=by have:=hs.new (obj:=obj) (B:=B) (e:=0) (c:=0) hk hv hB;exact⟨_,this.1,this.2,if_pos ⟨rfl,rfl⟩⟩
theorem AN {P:Program} {E:Env} {w:World} {a:Act} {st:St} (hs:cY E w a st) {key:Nat} (hk:jH st.mem key) {T:TypeId} {x:V} {y:Value} {B:bm} (hx:cV E x y) (h:qk P st.mem T x=some B) :
    ∃ E' w',(Instr.range T y).run P w = .ok (.pointer (some ⟨w.heap.size,0,none⟩)) w'∧cY E' w' a { st with mem:=dn st.mem key B }∧il E w E' w'∧cV E' (.ptr key 0) (.pointer (some ⟨w.heap.size,0,none⟩)):=by
  have fQ:(E.with key 0 (w.heap.size,0,0)).cw key 0=some (w.heap.size,0,0):=if_pos ⟨rfl,rfl⟩;unfold qk at h;split at h;·rename_i b;split at h;(·rename_i dK clock hB;split at h;(·rename_i p hp;cases h;obtain⟨kt,et⟩:=p;have hd:=lF hp;obtain⟨g,e,c,rfl,hb⟩:=uQ hx;obtain⟨es,hh,hr,-⟩:=ni hs hB hb;(have cK:b≠key:=fun e=>by subst e;rw [hs.free hk 0] at hb;cases hb);obtain⟨E',h1,h2,h3⟩:=hs.newObj hk (obj:=.mapIter (some g) clock #[] clock) (B:=.jR b clock [] clock) rfl ⟨w.heap.size,g,e,c,fQ,(if_neg fun h=>cK h.1).trans hb,heap_alloc_new w _,fun o=>Mj (E:=E) hs o⟩;exact⟨E',_,by simp [Instr.range,bC hd,fU hh,newObj,Sem.run],h1,h2,.ptr _ _ _ _ 0 0 h3⟩);·cases h);·cases h
  ·obtain rfl:=tD hx;split at h;(·rename_i p hp;cases h;obtain⟨kt,et⟩:=p;have hd:=lF hp;obtain⟨E',h1,h2,h3⟩:=hs.newObj hk (obj:=.mapIter none 0 #[] 0) (B:=.oz) rfl ⟨w.heap.size,fQ,heap_alloc_new w _,fun o=>Mj (E:=E) hs o⟩;exact⟨E',_,by simp [Instr.range,bC hd,newObj,Sem.run],h1,h2,.ptr _ _ _ _ 0 0 h3⟩);·cases h
  ·rename_i s;obtain rfl:=tD hx;split at h;(·rename_i hd;cases h;obtain⟨E',h1,h2,h3⟩:=hs.newObj hk (obj:=.stringIter s 0) (B:=.nY s 0) rfl ⟨w.heap.size,fQ,heap_alloc_new w _,fun o=>Mj (E:=E) hs o⟩;exact⟨E',_,by simp [Instr.range,bC hd,newObj,Sem.run],h1,h2,.ptr _ _ _ _ 0 0 h3⟩);·cases h
  ·cases h
theorem CW {P:Program} {E:Env} {w:World} {a:Act} {st:St} (hs:cY E w a st) {key:Nat} (hk:jH st.mem key) (T:TypeId) :
    ∃ E' w',(Instr.makeMap T none).run P w = .ok (.map (some w.heap.size)) w'∧cY E' w' a { st with mem:=dn st.mem key (.map [] 0) }∧il E w E' w'∧cV E' (.mp key) (.map (some w.heap.size)):=by have fQ:(E.with key 0 (w.heap.size,0,0)).cw key 0=some (w.heap.size,0,0):=if_pos ⟨rfl,rfl⟩;obtain⟨E',h1,h2,h3⟩:=hs.newObj hk (obj:=.map #[] 0) (B:=.map [] 0) rfl ⟨w.heap.size,#[],fQ,heap_alloc_new w _,⟨rfl,fun i k e h=>by simp at h⟩,fun o=>Mj (E:=E) hs o⟩;exact⟨E',_,by simp [Instr.makeMap,newObj,Sem.run],h1,h2,.mp _ _ _ 0 0 h3⟩
def z6 (i:Ti):V:=if i.agg=true then .agg (i.zero.map fun z=>jS (.sc z)) else match i.zero with|z :: _=>jS (.sc z)|[]=>.undef
def yJ (tt:Table) (T:TypeId) (l c:V):Option (Nat×List V×Nat) :=
  match l,c with
  | .sc (.int _ l),.sc (.int _ c)=>match jy tt T with
    | some e=>match tt e with
      | some i=>if 0≤l∧l≤c∧i.bytes*c≤281474976710656∧c≤1152921504606846976∧0<i.size∧i.zero.length=i.size∧i.zero.all Value.oneCell'=true∧(i.agg=true∨i.size=1) then some (i.size,List.replicate l.toNat (z6 i),c.toNat) else none
      | none=>none
    | none=>none
  | _,_=>none
theorem CX {i:Ti} (h:i.agg=true∨i.size=1) (hz:i.zero.length=i.size):(z6 i).cells=i.zero.map fun z=>jS (.sc z):=by
  unfold z6;split;·rfl
  · rename_i hn
    have h1 : i.size = 1 := by rcases h with h|h
                               · exact absurd h hn
                               · exact h
    match hzz:i.zero with|[]=>rw [hzz] at hz;simp at hz;omega|[z]=>simp only [cz,bW];unfold jS;split <;> rfl|_ :: _ :: _=>rw [hzz] at hz;simp at hz;omega
theorem G7 {P:Program} {tt:Table} (ht:TT P tt) {E:Env} {w:World} {a:Act} {st:St} (hs:cY E w a st) {key:Nat} (hk:jH st.mem key) {T:TypeId} {l c:V} {x y:Value} {size cap:Nat} {rs:List V} (hl:cV E l x) (hc:cV E c y)
    (h:yJ tt T l c=some (size,rs,cap)) :
    ∃ E' w',(Instr.makeSlice T x y).run P w = .ok (.slice (some ⟨w.heap.size,0,none⟩) rs.length cap) w'∧cY E' w' a { st with mem:=dn st.mem key (.rows 0 size rs) }∧il E w E' w'∧cV E' (.ms key 0 0 rs.length) (.slice (some ⟨w.heap.size,0,none⟩) rs.length cap):=by
  unfold yJ at h;split at h;·rename_i k1 l k2 c;obtain rfl:=tD hl;obtain rfl:=tD hc;unfold jy at h;cases hT:tt T with|none=>rw [hT] at h;simp at h|some iT =>rw [hT] at h;simp only at h;cases he:iT.elem with|none=>rw [he] at h;simp at h|some e =>rw [he] at h;simp only at h;cases hE:tt e with|none=>rw [hE] at h;simp at h|some i =>rw [hE] at h;simp only at h;split at h;(·rename_i sn;obtain⟨h0,h1,hb,CY,AE,CT,qN,Vs⟩:=sn;cases h;obtain⟨d,hd,-,EA,-⟩:=ht.desc T iT hT;obtain rfl:=EA e he;obtain⟨info,yG,X3,hi3,z,hz,hzz⟩:=ht.size e i hE;(have hzs:z.cells.size=i.size:=by rw [← CT,← hzz];simp);(have hwl:IntKind.i64.wrap l=l:=by rw [IntWalk.i64_in _ (by omega)]);(have hwc:IntKind.i64.wrap c=c:=by rw [IntWalk.i64_in _ (by omega)]);obtain⟨xs,xt⟩:∃ xs:Array Value,xs=(Array.range (c.toNat*i.size)).map (z.cells[· % z.cells.size]!):=⟨_,rfl⟩;(have gS:(Instr.makeSlice T (.int k1 l) (.int k2 c)).run P w = .ok (.slice (some ⟨w.heap.size,0,none⟩) l.toNat c.toNat) (w.alloc (.cells xs e (0,0))):=by (have e0:(decide (c<0)||decide ((info.bytes:Int)*c>2 ^ 48))=false:=by rw [hi3];simp only [pe,decide_eq_false_iff_not];exact⟨by omega,by omega⟩);(have e1:(decide (l<0))=false:=by simp;omega);(have e2:(decide (l>c))=false:=by simp;omega);(have hzv:(zeroValue e).run P (w) = .ok z w:=by simp [zeroValue,gW yG,hz]);simp only [Instr.makeSlice,Sem.run_bind,bC hd,Result.andThen_ok,asInt,asIntOf,Sem.run_pure,gW yG,hwl,hwc,e0,e1,e2,aY,bJ,if_false,run_askRoom,iF yG,X3];by_cases hn:c.toNat*i.size=0;(·(have Mg:xs = #[]:=by rw [xt,hn];simp);have hr0:∀ f:Nat→Value,Array.map f (Array.range 0) = #[]:=fun f=>Array.eq_empty_of_size_eq_zero (by simp);simp only [hn,if_true,Sem.run_pure,Result.andThen_ok,hr0,Mg];rfl);·simp only [hn,if_false,Sem.run_bind,hzv,Result.andThen_ok,Sem.run_pure];simp [newRow,xt]);obtain⟨E',g1,g2,g3⟩:=hs.vK hk (xs:=xs) (rs:=List.replicate l.toNat (z6 i)) (e:=i.size) (c:=c.toNat) e (by rw [xt];simp) (by simp;omega) (fun q row hq=>by rw [atg] at hq;split at hq;(·rename_i hql;cases hq;have ss:=CX Vs CT;refine⟨by rw [ss];simpa using CT,fun j cc hj=>?_⟩;rw [ss,ae,bH] at hj;obtain⟨v,hv,rfl⟩:=hj;(have Gw:j<i.size:=by rw [← CT];exact (aq.1 hv).1);(have bR:q*i.size+j<c.toNat*i.size:=by have:(q+1)*i.size≤c.toNat*i.size:=lS _ (by omega);rw [nX] at this;omega);(have akC:(q*i.size+j) % i.size=j:=by rw [UU,Nat.add_mul_mod_self_right,Nat.mod_eq_of_lt Gw]);refine⟨v,?_,aX.1 qN v (ay hv),qj (.sc _ _)⟩;rw [xt];(have hzj:z.cells[j]?=some v:=by rw [← eN,hzz];exact hv);(have hjz:j<z.cells.size:=by omega);simp only [atG,Array.getElem?_range,bR,if_true,aC,hzs,akC];rw [getElem!_pos z.cells j hjz];rw [b9 hjz] at hzj;exact hzj);·cases hq);refine⟨E',_,?_,g1,g2,?_⟩;(·simpa using gS);·simpa using g3);·cases h
  ·cases h
end Go.Eng
end
section
namespace Go.Eng
variable [bk]
open Go.RowKit (Below)
def pq (tt:Table) (mem:List bm) (ts:List TypeId) (s x:V):Option (Nat×Nat×Nat×Nat×List V×List V) :=
 match s with
 | .ms b v o l=>match mem[b]? with
  | some (.rows v' eb rs)=>match ts with
   | [t,u]=>match jy tt t with
    | some e=>match jy tt u with
     | some _=>match tt e with
      | some i =>
       if v'=v∧eb=i.size∧o+l=rs.length∧0<i.size∧i.bytes≤4096∧i.zero.length=i.size then
        match rowsOf mem i.size x with
        | some xs=>if l+xs.length≤34359738368 then some (i.size,b,v,l,rs.drop o,xs) else none
        | none=>none
       else none
      | none=>none
     | none=>none
    | none=>none
   | _=>none
  | _=>none
 | _=>none
theorem CZ {P:Program} {tt:Table} (ht:TT P tt) {E:Env} {w:World} {a:Act} {st:St} (hs:cY E w a st) {ts:Array TypeId} {ty:TypeId} {s x:V} {y z:Value} {size b v l:Nat} {rs0 xs:List V}
  (xH:cV E s y) (J4:cV E x z) (h:pq tt st.mem ts.toList s x=some (size,b,v,l,rs0,xs)) :
  ∃ u w' E' o' nC,(Builtin.append_ ts ty #[y,z]).run P w = .ok u w'∧nC.drop o'=rs0++xs∧o'+(l+xs.length)=nC.length∧cY E' w' a { st with mem:=st.mem.set b (.rows (v+1) size nC) }∧il E w E' w'∧cV E' (.ms b (v+1) o' (l+xs.length)) u:=by
 unfold pq at h;split at h
 ·rename_i b1 v1 o l1;split at h
  ·rename_i v' eb rs hm;split at h
   ·rename_i t u Ds;obtain rfl:ts = #[t,u]:=by rw [← cX (xs:=ts),Ds]
    split at h
    ·rename_i e he;split at h
     ·rename_i e' PA;split at h
      ·rename_i i hE;split at h
       ·rename_i hc;obtain⟨rfl,rfl,PB,AE,AF,CT⟩:=hc;split at h
        ·rename_i uT xt;split at h
         ·rename_i hlen;simp only [aB,dE] at h;obtain⟨rfl,rfl,rfl,rfl,rfl,rfl⟩:=h;have und:∀ {t e:TypeId},jy tt t=some e→P.underlying t=some (.slice e):=fun {t e} he=>by unfold jy at he;split at he;(·rename_i iu hU;obtain⟨d,hd,-,EA,-⟩:=ht.desc t iu hU;rw [hd,EA e he]);simp at he
          have hd:=und he;have Dt:=und PA;obtain⟨info,yG,X3,hi3,z0,P0,X1⟩:=ht.size e i hE;have hzs:z0.cells.size=info.size:=by rw [X3,← CT,← X1];simp
          rw [← X3] at xt AE hm ⊢;rw [← hi3] at AF;have X4:cY E w.drew a st:=hs.drew;obtain⟨xa,xc,rfl,hxc,xA,Pz,U7⟩:=jI (P:=P) hs J4 xt;obtain⟨xa',xc',heq,-,xB,hx3,hx4⟩:=jI (P:=P) X4 J4 xt;simp only [Value.slice.injEq] at heq;obtain⟨rfl,-,rfl⟩:=heq
          have vO:∀ jT,jT<l1+uT.length→Builtin.nextslicecap (l1+uT.length) jT*info.bytes≤281474976710656:=fun jT bR =>
           growslice_fits bR (Di (atn hlen AF) (by decide))
          have iJ:(rs.drop o).length=l1:=by rw [ux];omega
          have ug:(rs.drop o++uT).length=l1+uT.length:=by rw [bc,iJ]
          have hZ:∀ jT,l1+uT.length≤grownCap w (l1+uT.length) jT e:=fun jT=>grownCap_ge w (l1+uT.length) jT e;have ZY:rowsOf st.mem info.size (.ms b1 v' o l1)=some (rs.drop o):=by (have h1:o+l1≤rs.length:=by omega);simp [rowsOf,hm,h1];rw [bu (by rw [ux];omega)]
          obtain⟨sa,sc,rfl,hsc,A,Gx,G3⟩:=jI (P:=P) X4 xH ZY;rw [iJ] at Gx xH ⊢;have ss:∀ jT,(A++xB++Builtin.zeroCells z0.cells (grownCap w (l1+uT.length) jT e-(l1+uT.length))).size=grownCap w (l1+uT.length) jT e*info.size:=fun jT=>by simp only [ad1,size_zeroCells,hzs,G3.1,hx4.1,iJ,← jw];congr 1;have:=hZ jT;omega
          by_cases vN:l1+uT.length≤sc
          ·rcases ES xH with ⟨uf,P2⟩|⟨g,eb',c,sa',sc',P2,hb,hl,NC,Dm⟩
           ·simp only [Value.slice.injEq] at P2;obtain⟨rfl,akx,rfl⟩:=P2;have Mg:uT=[]:=b7.1 (by omega);subst Mg;(have Ka:l1=0:=by omega);subst Ka;have hr0:rs.drop o=[]:=b7.1 iJ;rw [hr0];exact⟨_,w,E,0,[],kg (ty:=ty) hd Dt yG xc xa xA Pz,rfl,rfl,hs.G2 hm,il.refl E w,.jl _ _ _ _⟩
           simp only [Value.slice.injEq] at P2;obtain⟨rfl,-,rfl⟩:=P2;obtain⟨hc1,P1,Vq⟩:=Dm;rcases hs.mem b1 _ hm with ⟨-,hn⟩|⟨g',T',cur,c',kV,hh,Ev,pO,Dp,hf⟩
           ·rw [hb] at hn;cases hn
           rw [hb] at kV;cases kV;by_cases akD:sc=0
           ·
            have Mg:uT=[]:=b7.1 (by omega)
            subst Mg
            have Ka:l1=0:=by omega
            subst Ka
            subst akD
            have hr0:rs.drop o=[]:=b7.1 iJ
            have gS:(Builtin.append_ #[t,u] ty #[.slice sa 0 0,.slice xa 0 xc]).run P w = .ok (.slice sa 0 0) w:=by
             cases sa with
             | none=>exact kg (ty:=ty) hd Dt yG xc xa xA Pz
             | some ad =>
              have hxe:xA.toList=[]:=by
               have:=U7.1
               simp at this
               simpa using this
              have hfc:(Builtin.firstCells info.size 0 (.slice xa 0 xc)).run P w = .ok xA w:=Pz
              simp [Builtin.append_,bC hd,bC Dt,iF yG,Builtin.lenOf,hfc,hxe,storeCells]
            have hle:E.le (E.with b1 (v'+1) (g,info.size,c)):=Env.nj (hs.dF b1 _ hm _ (l5 v')) _
            have fQ:(E.with b1 (v'+1) (g,info.size,c)).cw b1 (v'+1)=some (g,info.size,c):=if_pos ⟨rfl,rfl⟩
            refine⟨_,w,E.with b1 (v'+1) (g,info.size,c),o,rs,gS,by simp [hr0],by omega,hs.renew hm hs.F (ax _) (hs.lt _ _ _ _ _ hb) (fun k B' lf kX X6 g' e' c' gN=>⟨rfl,fun e=>by subst e;exact lf (hs.apart _ _ _ _ _ _ _ _ _ gN hb)⟩) ?_ (fun k v2 e2 c2 h=>hs.apart _ _ _ _ _ _ _ _ _ h hb),
             ⟨hle,fun k q g' e' c' lf=>?_,fun ad y hy=>.inl hy,rfl,rfl,rfl,ax _,fun _ _ _=>rfl⟩,?_⟩
            ·exact .inr ⟨g,T',cur,c,fQ,hh,Ev,pO,fun q row hq=>let ⟨h3,h4⟩:=Dp q row hq;⟨h3,fun j cc hj=>let ⟨v,hv,JL,NJ⟩:=h4 j cc hj;⟨v,hv,JL,NJ.mono (Env.lA hle)⟩⟩,hf⟩
            ·by_cases hq:k=b1∧q=v'+1
             ·obtain⟨rfl,rfl⟩:=hq;rw [fQ] at lf;cases lf;exact .inl ⟨_,_,_,_,hb⟩
             have:(E.with b1 (v'+1) (g,info.size,c)).cw k q=E.cw k q:=if_neg hq
             rw [this] at lf;exact .inl ⟨_,_,_,_,lf⟩
            exact .ms _ _ _ _ _ g info.size c _ _ fQ (fun h=>absurd h (by simp)) (fun h=>NC h) ⟨by simp,P1,fun h=>absurd h (asL _)⟩
           obtain rfl:=Vq (by omega);have AH:rs.length*info.size+xA.toList.length≤cur.size:=by have:=U7.1;simp only [j6];rw [this,Ev,← jw];exact lS _ (by omega)
           obtain⟨w',oC,U3,ET⟩:=lG (P:=P) (g:=g) (T:=T') (rs.length*info.size) xA.toList 0 w cur hh (by simpa using AH) (yH AE U7);have gS:(Builtin.append_ #[t,u] ty #[.slice (some ⟨g,o*info.size,none⟩) l1 sc,.slice xa uT.length xc]).run P w = .ok (.slice (some ⟨g,o*info.size,none⟩) (l1+uT.length) sc) w':=by (have P7:(storeCells (Addr.add ⟨g,o*info.size,none⟩ (l1*info.size)) xA.toList).run P w = .ok () w':=by rw [add_lit,← jw,PB];exact oC);simp [Builtin.append_,bC hd,bC Dt,iF yG,Builtin.lenOf,vN,Pz,P7]
           have hle:E.le (E.with b1 (v'+1) (g,info.size,c)):=Env.nj (hs.dF b1 _ hm _ (l5 v')) _;have fQ:(E.with b1 (v'+1) (g,info.size,c)).cw b1 (v'+1)=some (g,info.size,c):=if_pos ⟨rfl,rfl⟩
           refine⟨_,w',E.with b1 (v'+1) (g,info.size,c),o,rs++uT,gS,by rw [List.drop_append_of_le_length (by omega)],by rw [bc];omega,hs.renew hm (fun ad y hy=>?_) (by rw [ET.size];exact ax _) (by rw [ET.size];exact hs.lt _ _ _ _ _ hb) (fun k B' lf kX X6 g' e' c' gN=>?_) ?_ (fun k v2 e2 c2 h=>hs.apart _ _ _ _ _ _ _ _ _ h hb),
            ⟨hle,fun k q g' e' c' lf=>?_,fun ad y hy=>.inl hy,ET.os,ET.tape,ET.output,by rw [ET.size];exact ax _,fun b' kV cK=>ET.heap b' fun e=>by subst e;exact cK _ _ _ _ hb⟩,?_⟩
           ·have cK:=hs.EM hf hy;rw [← hs.F ad y hy];simp [World.cell?,ET.heap _ cK]
           ·(have hgg:g'≠g:=fun e=>by subst e;exact lf (hs.apart _ _ _ _ _ _ _ _ _ gN hb));exact⟨ET.heap _ hgg,hgg⟩
           ·refine .inr ⟨g,T',_,c,fQ,U3,by rw [ma];exact Ev,by rw [bc];omega,?_,hf⟩;intro q row hq;simp only [kG];(have G4:xA.toList.length=uT.length*info.size:=by simpa using U7.1);rw [XW] at hq;split at hq;(·rename_i bR;obtain⟨h3,h4⟩:=Dp q row hq;refine⟨h3,fun j cc hj=>?_⟩;obtain⟨v,hv,JL,NJ⟩:=h4 j cc hj;(have Gw:j<info.size:=by rw [← h3];exact (aq.1 hj).1);refine⟨v,?_,JL,NJ⟩;rw [kn _ _ _ _ AH,if_neg (by have:=AA bR Gw;omega)];exact hv);rename_i akz;obtain⟨h3,h4⟩:=U7.2 _ row hq;refine⟨h3,fun j cc hj=>?_⟩;obtain⟨v,hv,JL,NJ⟩:=h4 j cc hj;(have Gw:j<info.size:=by rw [← h3];exact (aq.1 hj).1);have hql:q-rs.length<uT.length:=(aq.1 hq).1;(have hmul:q*info.size=rs.length*info.size+(q-rs.length)*info.size:=by rw [← jw];congr 1;omega);refine⟨v,?_,JL,NJ⟩;rw [kn _ _ _ _ AH,if_pos (by have:=AA hql Gw;omega)];dsimp only at hv;rw [← hv,eN];congr 1;omega
           ·by_cases hq:k=b1∧q=v'+1;(·obtain⟨rfl,rfl⟩:=hq;rw [fQ] at lf;cases lf;exact .inl ⟨_,_,_,_,hb⟩);have:(E.with b1 (v'+1) (g,info.size,c)).cw k q=E.cw k q:=if_neg hq;rw [this] at lf;exact .inl ⟨_,_,_,_,lf⟩
           exact .ms _ _ _ _ _ g info.size c _ _ fQ (fun _=>rfl) (fun h=>NC h) ⟨vN,P1,fun _=>rfl⟩
          have bR:sc<l1+uT.length:=by omega
          have gS:=me (ty:=ty) hd Dt yG P0 sa l1 sc uT.length xc xa A xB Gx hx3 bR (by omega) (vO sc bR);have hle:E.le (E.with b1 (v'+1) (w.heap.size,info.size,grownCap w (l1+uT.length) sc e)):=Env.nj (hs.dF b1 _ hm _ (l5 v')) _;have fQ:(E.with b1 (v'+1) (w.heap.size,info.size,grownCap w (l1+uT.length) sc e)).cw b1 (v'+1)=some (w.heap.size,info.size,grownCap w (l1+uT.length) sc e):=if_pos ⟨rfl,rfl⟩
          refine⟨_,_,E.with b1 (v'+1) (w.heap.size,info.size,grownCap w (l1+uT.length) sc e),0,rs.drop o++uT,gS,rfl,by rw [ug];omega,hs.renew hm (fun ad y hy=>?_) (by simp) (by simp) (fun k B' lf kX X6 g' e' c' gN=>?_) ?_ (fun k v2 e2 c2 h=>absurd (hs.lt _ _ _ _ _ h) (asL _)),
           ⟨hle,fun k q g' e' c' lf=>?_,fun ad y hy=>.inl hy,rfl,rfl,rfl,by simp,fun b' kV cK=>ed w.drew _ b' kV⟩,?_⟩
          ·rw [World.cell?_alloc_lt w.drew _ ad (World.block_lt_of_cell? w ad (hs.F ad y hy))];exact hs.F ad y hy
          ·have:=hs.lt _ _ _ _ _ gN;exact⟨ed w.drew _ g' this,by omega⟩
          ·refine .inr ⟨w.heap.size,e,_,_,fQ,heap_alloc_new w.drew _,ss sc,by rw [ug];exact hZ sc,?_,fun o=>?_⟩;(·intro q row hq;obtain⟨h3,h4⟩:=nm (C:=Builtin.zeroCells z0.cells (grownCap w (l1+uT.length) sc e-(l1+uT.length))) G3 hx4 q row hq;exact⟨h3,fun j cc hj=>let ⟨v,hv,JL,NJ⟩:=h4 j cc hj;⟨v,hv,JL,NJ.mono (Env.lA hle)⟩⟩);show E.F _=none;cases hx:E.F ⟨w.heap.size,o,none⟩ with|none=>rfl|some x=>have:=World.block_lt_of_cell? w _ (hs.F _ _ hx);simp at this
          ·by_cases hq:k=b1∧q=v'+1;(·obtain⟨rfl,rfl⟩:=hq;rw [fQ] at lf;cases lf;exact .inr (ax _));have:(E.with b1 (v'+1) (w.heap.size,info.size,grownCap w (l1+uT.length) sc e)).cw k q=E.cw k q:=if_neg hq;rw [this] at lf;exact .inl ⟨_,_,_,_,lf⟩
          exact .ms _ _ _ _ _ w.heap.size info.size _ _ _ fQ (fun _=>by simp) (fun _=>⟨rfl,rfl⟩) ⟨hZ sc,aZ _,fun _=>by simp⟩
         simp at h
        simp at h
       simp at h
      simp at h
     simp at h
    simp at h
   simp at h
  simp at h
 simp at h
end Go.Eng
end
section
namespace Go.Eng
variable [bk]
open Go.RowKit (Below)
def dk (mem:List bm):V→Option V
  | .undef=>some .undef
  | .sc v=>some (jS (.sc v))
  | .slice rows=>some (.slice rows)
  | .full rows=>some (.slice rows)
  | .eW cs=>some (.eW cs)
  | .gn=>some .gn
  | .ms b v s l=>match mem[b]? with
    | some (.rows v' _ rs)=>if v'=v∧s+l≤rs.length then some (.slice ((rs.drop s).take l)) else none
    | some (.vB v' _ rs)=>if v'=v∧s+l≤rs.length then some (.slice ((rs.drop s).take l)) else none
    | _=>none
  | .dU f [] []=>some (.sc (.func f #[] #[]))
  | _=>none
def iK (mem:List bm):List V→Option (List V)
  | []=>some []
  | c :: r=>match dk mem c with
    | some c'=>match iK mem r with|some r'=>some (c' :: r')|none=>none
    | none=>none
def gH (mem:List bm):V→Option V
  | .agg cs=>match iK mem cs with|some l=>some (.agg l)|none=>none
  | v=>dk mem v
def fw (mem:List bm):List V→Option (List V)
  | []=>some []
  | c :: r=>match gH mem c with
    | some c'=>match fw mem r with|some r'=>some (c' :: r')|none=>none
    | none=>none
def G8 (mem:List bm):V→Option V
  | .ec vs=>match fw mem vs with|some l=>some (.ec l)|none=>none
  | v=>gH mem v
def lB:V→List (Nat×Nat)
  | .ms b v _ _=>[(b,v)]
  | _=>[]
def fg:V→List (Nat×Nat)
  | .agg cs=>cs.flatMap lB
  | v=>lB v
def refs:V→List (Nat×Nat)
  | .ec vs=>vs.flatMap fg
  | v=>fg v
def Env.qL (E:Env) (w:World) (keys:List (Nat×Nat)):Env :=
  { F:=fun ad=>match E.F ad with
      | some x=>some x
      | none=>if keys.any (fun k=>match E.cw k.1 k.2 with|some (g,_,_)=>g==ad.block|none=>false) then w.cell? ad else none
    cw:=E.cw
    gl:=E.gl.mono fun ad x h=>by simp only [h] }
theorem Env.xK (E:Env) (w:World) (keys:List (Nat×Nat)):E.le (E.qL w keys):=⟨fun ad x h=>by simp [Env.qL,h],fun _ _ _ h=>h⟩
theorem Env.Mk {E:Env} {w:World} {keys:List (Nat×Nat)} (hF:∀ ad x,E.F ad=some x→w.cell? ad=some x) {ad:Addr} {x:Value} (h:(E.qL w keys).F ad=some x):w.cell? ad=some x:=by
  unfold Env.qL at h;dsimp only at h;split at h;·rename_i y hy;cases h;exact hF _ _ hy
  ·split at h;(·exact h);·cases h
theorem Env.EY {E:Env} {w:World} {keys:List (Nat×Nat)} {ad:Addr} {x:Value} (h:(E.qL w keys).F ad=some x):E.F ad=some x∨∃ k∈keys,∃ e c,E.cw k.1 k.2=some (ad.block,e,c):=by
  unfold Env.qL at h;dsimp only at h;split at h;·rename_i y hy;cases h;exact .inl hy
  ·split at h;(·rename_i AO;obtain⟨k,hk,hm⟩:=Gu.1 AO;split at hm;(·rename_i g e c hb;simp only [beq_iff_eq] at hm;subst hm;exact .inr ⟨k,hk,e,c,hb⟩);·cases hm);·cases h
theorem Env.aaj {E:Env} {w:World} {keys:List (Nat×Nat)} {k v g e c:Nat} (hk:(k,v)∈keys) (hb:E.cw k v=some (g,e,c)) {o:Nat} {x:Value} (hn:E.F ⟨g,o,none⟩=none) (hx:w.cell? ⟨g,o,none⟩=some x):(E.qL w keys).F ⟨g,o,none⟩=some x:=by have:keys.any (fun k=>match E.cw k.1 k.2 with|some (g',_,_)=>g'==g|none=>false)=true:=Gu.2 ⟨(k,v),hk,by simp [hb]⟩;unfold Env.qL;dsimp only;rw [hn];dsimp only;rw [if_pos this];exact hx
theorem G9 {E:Env} {w:World} {a:Act} {st:St} (hs:cY E w a st) {keys:List (Nat×Nat)} {k v g e c:Nat} (hk:(k,v)∈keys) (hb:E.cw k v=some (g,e,c)) {B:bm} (hm:st.mem[k]?=some B) {rs:List V} {e':Nat}
    (hB:B = .rows v e' rs∨B = .vB v e' rs):e'=e∧rs.length≤c∧mQ E.pure e rs (fun o=>(E.qL w keys).F ⟨g,o,none⟩):=by
  rcases hB with rfl|rfl
  ·(rcases hs.mem k _ hm with ⟨-,hn⟩|⟨g',T,xs,c',kV,hh,nh,hl,hr,hf⟩);(·rw [hb] at hn;cases hn);·rw [hb] at kV;cases kV;refine⟨rfl,hl,fun i row hi=>?_⟩;obtain⟨h1,h2⟩:=hr i row hi;exact⟨h1,fun j cc hj=>let ⟨x,hx,h⟩:=h2 j cc hj;⟨x,Env.aaj hk hb (hf _) (by rw [ph hh];exact hx),h⟩⟩
  ·(rcases hs.mem k _ hm with ⟨-,hn⟩|⟨g',c',kV,hl,hr⟩);(·rw [hb] at hn;cases hn);rw [hb] at kV;cases kV;refine⟨rfl,hl,fun i row hi=>?_⟩;obtain⟨h1,h2⟩:=hr i row hi;exact⟨h1,fun j cc hj=>let ⟨x,hx,h⟩:=h2 j cc hj;⟨x,(Env.xK E w keys).F _ _ hx,h⟩⟩
theorem pS {E:Env} {w:World} {a:Act} {st:St} (hs:cY E w a st) {keys:List (Nat×Nat)} {v v':V} {x:Value} (hr:cV E v x) (h:dk st.mem v=some v') (hk:∀ k∈lB v,k∈keys):cV (E.qL w keys).pure v' x:=by
  have hle:=Env.lA (Env.xK E w keys)
  have ZZ:∀ {b v s l:Nat} {B:bm} {rs:List V} {e':Nat},cV E (.ms b v s l) x→(b,v)∈keys→st.mem[b]?=some B→(B = .rows v e' rs∨B = .vB v e' rs)→s+l≤rs.length→cV (E.qL w keys).pure (.slice ((rs.drop s).take l)) x:=by
    intro b v s l B rs e' hr gN hm hB hl;have hlen:((rs.drop s).take l).length=l:=by simp;omega
    rcases ES hr with ⟨rfl,rfl⟩|⟨g,e,c,aa,cap,rfl,hb,Ka,-,hlc⟩
    ·rw [show (rs.drop s).take 0=[] from by simp];exact .slice _ [] none 0 0 default (fun _ _=>default) (by simp) (by simp) (by simp) (by simp) (by simp) (by simp)
    · obtain⟨rfl,ug,hrk⟩:=G9 hs gN hb hm hB
      have jG:∀ (i:Nat) (row:V) (j:Nat) (cc:V),((rs.drop s).take l)[i]?=some row→row.cells[j]?=some cc→∃ y,(E.qL w keys).F ⟨g,(s+i)*e'+j,none⟩=some y∧y.oneCell'=true∧cV E.pure cc y:=fun i row j cc hi hj =>
        (hrk _ _ (zX hi)).2 j cc hj
      let xf:Nat→Nat→Value:=fun i j=>((E.qL w keys).F ⟨g,(s+i)*e'+j,none⟩).getD default;have GK:cV (E.qL w keys).pure (.slice ((rs.drop s).take l)) (.slice aa ((rs.drop s).take l).length cap):=by refine .slice _ _ _ _ e' ⟨g,s*e',none⟩ xf (fun cK=>Ka ?_) (by rw [hlen];exact hlc.1) (fun i row hi=>(hrk _ _ (zX hi)).1) (fun i row j cc hi hj=>?_) (fun i row j cc hi hj=>?_) fun i row j cc hi hj=>?_;(·have:((rs.drop s).take l).length≠0:=fun h0=>cK (b7.1 h0);omega);(·obtain⟨y,hy,-⟩:=jG i row j cc hi hj;(have Vr:s*e'+(i*e'+j)=(s+i)*e'+j:=by rw [jw];omega);rw [add_lit,Vr];show (E.qL w keys).F _=some (xf i j);simp [xf,hy]);(·obtain⟨y,hy,h1,-⟩:=jG i row j cc hi hj;simp [xf,hy,h1]);·obtain⟨y,hy,-,h2⟩:=jG i row j cc hi hj;(have:xf i j=y:=by simp [xf,hy]);rw [this];exact h2.mono hle
      rw [hlen] at GK;exact GK
  unfold dk at h;split at h;·simp only [aB] at h;subst h;exact .undef _ _
  ·simp only [aB] at h;subst h;exact qj (by rw [gP hr];exact .sc _ _)
  ·simp only [aB] at h;subst h;cases hr with|slice _ _ a cap uO ad xf ha n6 hz hF h1 hR=>exact (cV.slice E.pure _ a cap uO ad xf ha n6 hz hF h1 hR).mono hle
  ·simp only [aB] at h;subst h;cases hr with|full _ _ a h =>cases h with|slice _ _ a cap uO ad xf ha n6 hz hF h1 hR=>exact (cV.slice E.pure _ a _ uO ad xf ha (ax _) hz hF h1 hR).mono hle
  ·simp only [aB] at h;subst h;cases hr with|eW _ _ ad xf hF hR=>exact (cV.eW E.pure _ ad xf hF hR).mono hle
  ·simp only [aB] at h;subst h;cases hr with|gn=>exact .gn _
  ·rename_i b v s l;have gN:(b,v)∈keys:=hk (b,v) (by simp [lB]);split at h;(·rename_i v' e rs hm;split at h;(·rename_i hl;obtain⟨rfl,hl⟩:=hl;simp only [aB] at h;subst h;exact ZZ hr gN hm (.inl rfl) hl);·cases h);(·rename_i v' e rs hm;split at h;(·rename_i hl;obtain⟨rfl,hl⟩:=hl;simp only [aB] at h;subst h;exact ZZ hr gN hm (.inr rfl) hl);·cases h);·cases h
  ·simp only [aB] at h;subst h;cases hr with|dU _ f _ _ xs ys hx hy h1 h2 =>(have e1:xs = #[]:=by simpa using hx.symm);(have e2:ys = #[]:=by simpa using hy.symm);subst e1;subst e2;exact .sc _ _
  ·cases h
theorem sw {E:Env} {w:World} {a:Act} {st:St} (hs:cY E w a st) {keys:List (Nat×Nat)}:∀ {vs vs':List V} {xs:List Value},cJ E vs xs→iK st.mem vs=some vs'→(∀ k∈vs.flatMap lB,k∈keys) →
    cJ (E.qL w keys).pure vs' xs
  | [],vs',xs,hr,h,_=>by simp [iK] at h;subst h;rw [hr.of_nil];exact .nil _
  | v :: vs,vs',xs,hr,h,hk=>by
    obtain⟨x,ys,rfl,h1,h2⟩:=hr.of_cons
    simp only [iK] at h
    split at h
    · rename_i c' hc
      split at h
      · rename_i r' Gy
        simp only [aB] at h;subst h
        exact .cons (pS hs h1 hc fun k kX=>hk k (by simp [kX])) (sw hs h2 Gy fun k kX=>hk k (by simp at kX ⊢;exact .inr kX))
      · cases h
    · cases h
theorem AP {E:Env} {w:World} {a:Act} {st:St} (hs:cY E w a st) {keys:List (Nat×Nat)} {v v':V} {x:Value} (hr:cV E v x) (h:gH st.mem v=some v') (hk:∀ k∈fg v,k∈keys):cV (E.qL w keys).pure v' x:=by
  unfold gH at h;split at h;·split at h;(·rename_i cs l hl;simp only [aB] at h;subst h;cases hr with|agg _ _ xs hlen hh =>have:=sw hs (xs:=xs.toList) ⟨by simpa using hlen,fun i c x hc hx=>hh i c x hc (by simpa using hx)⟩ hl (by simpa [fg] using hk);exact .agg _ _ _ (by simpa using this.1) fun i c x hc hx=>this.2 i c x hc (by simpa using hx));·cases h
  ·rename_i cK;refine pS hs hr h fun k kX=>hk k ?_;cases v <;> first|exact kX|exact absurd rfl (cK _)
theorem mS {E:Env} {w:World} {a:Act} {st:St} (hs:cY E w a st) {keys:List (Nat×Nat)}:∀ {vs vs':List V} {xs:List Value},cJ E vs xs→fw st.mem vs=some vs'→(∀ k∈vs.flatMap fg,k∈keys) →
    cJ (E.qL w keys).pure vs' xs
  | [],vs',xs,hr,h,_=>by simp [fw] at h;subst h;rw [hr.of_nil];exact .nil _
  | v :: vs,vs',xs,hr,h,hk=>by
    obtain⟨x,ys,rfl,h1,h2⟩:=hr.of_cons
    simp only [fw] at h
    split at h
    · rename_i c' hc
      split at h
      · rename_i r' Gy
        simp only [aB] at h;subst h
        exact .cons (AP hs h1 hc fun k kX=>hk k (by simp [kX])) (mS hs h2 Gy fun k kX=>hk k (by simp at kX ⊢;exact .inr kX))
      · cases h
    · cases h
theorem Dv {E:Env} {w:World} {a:Act} {st:St} (hs:cY E w a st) {keys:List (Nat×Nat)} {v v':V} {x:Value} (hr:cV E v x) (h:G8 st.mem v=some v') (hk:∀ k∈refs v,k∈keys):cV (E.qL w keys).pure v' x:=by
  unfold G8 at h;split at h;·split at h;(·rename_i vs l hl;simp only [aB] at h;subst h;cases hr with|ec _ _ xs hlen hh =>have:=mS hs (xs:=xs.toList) ⟨by simpa using hlen,fun i c x hc hx=>hh i c x hc (by simpa using hx)⟩ hl (by simpa [refs] using hk);exact .ec _ _ _ (by simpa using this.1) fun i c x hc hx=>this.2 i c x hc (by simpa using hx));·cases h
  ·rename_i cK;refine AP hs hr h fun k kX=>hk k ?_;cases v <;> first|exact kX|exact absurd rfl (cK _)
def cx (P:Program) (f:FuncId) (args:List V) (r:V):Prop :=
  (∀ (xs:Array Value) (w:World),(callFunc f xs).run P w = .ok (.enter f xs) w) ∧
  ∀ (F:Addr→Option Value) (hg:Gl F) (w:World) (xs:Array Value),(∀ ad x,F ad=some x→w.cell? ad=some x)→cJ ⟨F,fun _ _=>none,hg⟩ args xs.toList →
    Calls P f xs w fun e w'=>∃ F' x,e = .returned x∧(∀ ad y,F ad=some y→F' ad=some y)∧(∀ ad y,F' ad=some y→w'.cell? ad=some y)∧(∀ ad y,F' ad=some y→F ad=some y∨w.heap.size≤ad.block) ∧
      (∃ Ha,cV ⟨F',fun _ _=>none,Ha⟩ r x)∧Below w.heap.size w w'
def Hb:V→Bool
  | .undef=>true
  | .sc _=>true
  | .agg cs=>cs.all (fun c=>match c with|.sc _=>true|_=>false)
  | _=>false
def P8:V→Bool
  | .ec vs=>vs.all Hb
  | v=>Hb v
theorem Dw {E E':Env} {v:V} {x:Value} (h:cV E v x) (hf:Hb v=true):cV E' v x:=by cases h with|undef=>exact .undef _ _|sc=>exact .sc _ _|agg _ cs xs hl hh =>refine .agg _ _ _ hl fun i c x hc hx=>?_;have h1:=hh i c x hc hx;simp only [Hb,aX] at hf;have:=hf c (ay hc);cases c <;> simp at this;rw [gP h1];exact .sc _ _|_=>simp [Hb] at hf
theorem NL {E E':Env} {v:V} {x:Value} (h:cV E v x) (hf:P8 v=true):cV E' v x:=by
  unfold P8 at hf;split at hf;·cases h with|ec _ vs xs hl hh =>refine .ec _ _ _ hl fun i c x hc hx=>Dw (hh i c x hc hx) ?_;simp only [aX] at hf;exact hf c (ay hc)
  ·exact Dw h hf
def Hc (mem:List bm) (k:Nat×Nat):List bm:=match mem[k.1]? with|some (.rows v e rs)=>if v=k.2 then mem.set k.1 (.vB v e rs) else mem|_=>mem
def eP (mem:List bm) (keys:List (Nat×Nat)):List bm:=keys.foldl Hc mem
def pw (keys:List (Nat×Nat)) (q:Nat):Option bm→Option bm
  | some (.rows v e rs)=>if (q,v)∈keys then some (.vB v e rs) else some (.rows v e rs)
  | B=>B
theorem P9 (mem:List bm) (k:Nat×Nat) (q:Nat):(Hc mem k)[q]?=pw [k] q mem[q]?:=by
  obtain⟨k,kv⟩:=k;unfold Hc;dsimp only;split;·rename_i v e rs hk;split;(·rename_i hv;subst hv;rw [bK];by_cases hq:k=q;(·subst hq;rw [hk];simp [pw,(aq.1 hk).1]);·rw [if_neg hq];have U5:¬ q=k:=fun e=>hq e.symm;cases hB:mem[q]? with|none=>rfl|some B=>cases B <;> simp [pw,U5]);·rename_i hv;cases hB:mem[q]? with|none=>rfl|some B =>(cases B <;> first|rfl|skip);rename_i v' e' nC;simp only [pw,dX,dE];rw [if_neg];rintro⟨rfl,rfl⟩;rw [hk] at hB;cases hB;exact hv rfl
  ·rename_i hk;cases hB:mem[q]? with|none=>rfl|some B =>(cases B <;> first|rfl|skip);rename_i v e rs;simp only [pw,dX,dE];rw [if_neg];rintro⟨rfl,rfl⟩;exact hk _ _ _ hB
theorem qW (keys:List (Nat×Nat)):∀ (mem:List bm) (q:Nat),(eP mem keys)[q]?=pw keys q mem[q]?:=by induction keys with|nil=>(intro mem q;simp only [eP,as6];cases hB:mem[q]? with|none=>rfl|some B=>cases B <;> simp [pw])|cons k r ih =>intro mem q;show (eP (Hc mem k) r)[q]?=_;rw [ih,P9];cases hB:mem[q]? with|none=>rfl|some B =>(cases B <;> first|rfl|skip);rename_i v e rs;simp only [pw,dj,o3,or_false];by_cases hq:(q,v)=k;(·rw [if_pos hq,if_pos (.inl hq)]);·rw [if_neg hq];by_cases hr:(q,v)∈r;(·rw [if_pos (.inr hr)];simp [hr]);·rw [if_neg (fun h=>h.elim hq hr)];simp [hr]
theorem uD (keys:List (Nat×Nat)):∀ (mem:List bm),(eP mem keys).length=mem.length:=by induction keys with|nil=>intro mem;rfl|cons k r ih =>intro mem;show (eP (Hc mem k) r).length=_;rw [ih];unfold Hc;split;(·split <;> simp);·rfl
def gv (mem:List bm) (keys:List (Nat×Nat)) (r:V):List bm:=if P8 r=true then mem else eP mem keys
theorem NM {mem:List bm} {k:Nat×Nat}:∀ {us Qa:List V},fw mem us=some Qa→k∈us.flatMap fg→∃ B,mem[k.1]?=some B∧B.dF=k.2∧∃ e rs,B = .rows k.2 e rs∨B = .vB k.2 e rs:=by
  have X9:∀ (cs uB:List V),iK mem cs=some uB→k∈cs.flatMap lB→∃ B,mem[k.1]?=some B∧B.dF=k.2∧∃ e rs,B = .rows k.2 e rs∨B = .vB k.2 e rs:=by intro cs;induction cs with|nil=>intro uB _ hm;simp at hm|cons c r ih =>intro uB hp hm;simp only [iK] at hp;split at hp;(·rename_i c' hc;split at hp;(·rename_i r' hr;simp only [jx,ft] at hm;(rcases hm with hm|hm);(·cases c <;> simp only [lB,dX,o3] at hm;subst hm;simp only [dk] at hc;split at hc;(·rename_i h;split at hc;(·rename_i hv;obtain⟨rfl,-⟩:=hv;exact⟨_,h,rfl,_,_,.inl rfl⟩);·cases hc);(·rename_i h;split at hc;(·rename_i hv;obtain⟨rfl,-⟩:=hv;exact⟨_,h,rfl,_,_,.inr rfl⟩);·cases hc);·cases hc);·exact ih _ hr hm);·cases hp);·cases hp
  intro us;induction us with|nil=>intro Qa _ hm;simp at hm|cons c r ih =>intro Qa hp hm;simp only [fw] at hp;split at hp;(·rename_i c' hc;split at hp;(·rename_i r' hr;simp only [jx,ft] at hm;(rcases hm with hm|hm);(·unfold gH at hc;split at hc;(·split at hc;(·rename_i l hl;exact X9 _ _ hl hm);·cases hc);·rename_i cK;refine X9 [c] [c'] (by simp [iK,hc]) ?_;simp only [jx,ata,ij];cases c <;> first|exact hm|exact absurd rfl (cK _));·exact ih hr hm);·cases hp);·cases hp
theorem AQ {E:Env} {w w':World} {a:Act} {st:St} (hs:cY E w a st) {vs vs':List V} (hp:fw st.mem vs=some vs') {F':Addr→Option Value} (Kb:∀ ad y,(E.qL w (vs.flatMap fg)).F ad=some y→F' ad=some y)
    (kM:∀ ad y,F' ad=some y→w'.cell? ad=some y) (hF3:∀ ad y,F' ad=some y→(E.qL w (vs.flatMap fg)).F ad=some y∨w.heap.size≤ad.block) (hb:Below w.heap.size w w') :
    ∃ hg,il E w ⟨F',E.cw,hg⟩ w'∧cY ⟨F',E.cw,hg⟩ w' a { st with mem:=eP st.mem (vs.flatMap fg) }:=by
  have hg:Gl F':=E.gl.mono fun ad x h=>Kb _ _ ((Env.xK E w _).F _ _ h);refine⟨hg,?_⟩;have hle:E.le ⟨F',E.cw,hg⟩:=⟨fun ad y hy=>Kb _ _ ((Env.xK E w _).F _ _ hy),fun _ _ _ h=>h⟩;have akE:(E.qL w (vs.flatMap fg)).le ⟨F',E.cw,hg⟩:=⟨Kb,fun _ _ _ h=>h⟩;have clean:∀ k B,st.mem[k]?=some B→B.held=true→(∀ v e rs,B ≠ .vB v e rs)→(∀ v e rs,B = .rows v e rs→(k,v) ∉ vs.flatMap fg)→∀ g e c o,E.cw k B.dF=some (g,e,c)→E.F ⟨g,o,none⟩=none→F' ⟨g,o,none⟩=none:=by intro k B hB hh PC AR g e c o gN hn;cases hy:F' ⟨g,o,none⟩ with|none=>rfl|some y =>exfalso;(rcases hF3 _ y hy with h|h);(·(rcases Env.EY h with h|⟨k',kX,e',c',h⟩);(·rw [hn] at h;cases h);·obtain⟨B',vC,As,e1,rs1,U4⟩:=NM hp kX;(have U3:B'.held=true:=by rcases U4 with rfl|rfl <;> rfl);rw [← As] at h;have fN:=hs.apart _ _ _ _ _ _ _ _ _ gN h;subst fN;rw [hB] at vC;cases vC;(rcases U4 with rfl|rfl);(·exact AR _ _ _ rfl (by rw [show (k'.1,k'.2)=k' from rfl];exact kX));·exact PC _ _ _ rfl);·have:=hs.lt _ _ _ _ _ gN;simp at h;omega
  refine⟨⟨hle,fun k v g e c h=>.inl ⟨k,v,e,c,h⟩,fun ad y hy=>?_,hb.os,hb.tape,hb.output,hb.size,fun b bR _=>hb.block b bR⟩,?_⟩;·(rcases hF3 ad y hy with h|h);(·(rcases Env.EY h with h|⟨k,-,e,c,h⟩);(·exact .inl h);·exact .inr (.inr ⟨k.1,k.2,e,c,h⟩));·exact .inr (.inl h)
  ·(have sr:∀ (q:Nat) (B:bm),(eP st.mem (vs.flatMap fg))[q]?=some B→∃ B',st.mem[q]?=some B'∧B.dF=B'.dF∧B.held=B'.held∧(B=B'∧(∀ v e rs,B = .rows v e rs→(q,v) ∉ vs.flatMap fg)∨∃ v e rs,B' = .rows v e rs∧B = .vB v e rs∧(q,v)∈vs.flatMap fg):=fun q B hq=>by rw [qW] at hq;cases Ml:st.mem[q]? with|none=>rw [Ml] at hq;simp [pw] at hq|some B0 =>rw [Ml] at hq;refine⟨B0,rfl,?_⟩;cases B0 with|rows v e rs =>(simp only [pw] at hq;split at hq;(·rename_i o7;cases hq;exact⟨rfl,rfl,.inr ⟨v,e,rs,rfl,rfl,o7⟩⟩);·rename_i o7;cases hq;exact⟨rfl,rfl,.inl ⟨rfl,fun v' e' nC h=>by cases h;exact o7⟩⟩)|_=>cases hq;exact⟨rfl,rfl,.inl ⟨rfl,fun v' e' nC h=>by cases h⟩⟩);refine⟨kM,fun k v g e c h=>rL (hs.lt _ _ _ _ _ h) hb.size,fun k B hk=>?_,fun k hk v=>hs.top k (by simpa [uD] using hk) v,fun k B hk v hv=>?_,hs.apart,hs.fr.mono hle⟩;(·obtain⟨B',vC,-,-,AM⟩:=sr k B hk;(rcases AM with ⟨rfl,AR⟩|⟨v,e,rs,rfl,rfl,o7⟩);(·have AS:=(hs.mem k B vC).mono (E':=⟨F',E.cw,hg⟩) (w':=w') hle (fun _ h=>h) (fun g e c h=>hb.block _ (hs.lt _ _ _ _ _ h));cases Vt:B with|vB v e rs =>(subst Vt;(rcases hs.mem k _ vC with h9|⟨g,c,nn,hl,hr⟩);(·exact .inl h9);refine .inr ⟨g,c,nn,hl,fun i row hi=>?_⟩;obtain⟨h5,h6⟩:=hr i row hi;exact⟨h5,fun j cc hj=>let ⟨x,hx,h7,h8⟩:=h6 j cc hj;⟨x,hle.F _ _ hx,h7,h8.mono (Env.lA hle)⟩⟩)|hole=>subst Vt;exact hs.mem k _ vC|dead=>trivial|loop s n7 fr params assign body=>subst Vt;exact AS (clean k _ vC rfl (fun _ _ _ h=>by cases h) (fun _ _ _ h=>by cases h))|box cs=>subst Vt;exact AS (clean k _ vC rfl (fun _ _ _ h=>by cases h) (fun _ _ _ h=>by cases h))|map dK clock=>subst Vt;exact AS (clean k _ vC rfl (fun _ _ _ h=>by cases h) (fun _ _ _ h=>by cases h))|jR m since seen last=>subst Vt;exact AS (clean k _ vC rfl (fun _ _ _ h=>by cases h) (fun _ _ _ h=>by cases h))|nY s pos=>subst Vt;exact AS (clean k _ vC rfl (fun _ _ _ h=>by cases h) (fun _ _ _ h=>by cases h))|oz=>subst Vt;exact AS (clean k _ vC rfl (fun _ _ _ h=>by cases h) (fun _ _ _ h=>by cases h))|rows v e rs=>subst Vt;exact AS (clean k _ vC rfl (fun _ _ _ h=>by cases h) AR));·(rcases hs.mem k _ vC with h9|⟨g,T,cur,c,nn,-⟩);(·exact .inl h9);·obtain⟨-,hl,hr⟩:=G9 hs o7 nn vC (.inl rfl);refine .inr ⟨g,c,nn,hl,fun i row hi=>?_⟩;obtain⟨h5,h6⟩:=hr i row hi;exact⟨h5,fun j cc hj=>let ⟨x,hx,h7,h8⟩:=h6 j cc hj;⟨x,akE.F _ _ hx,h7,h8.mono (Env.lA hle)⟩⟩);·obtain⟨B',vC,JL,-,-⟩:=sr k B hk;exact hs.dF k B' vC v (by omega)
theorem cY.freeze {E:Env} {w:World} {a:Act} {st:St} (hs:cY E w a st) {vs vs':List V} (hp:fw st.mem vs=some vs') :
    ∃ E',cY E' w a { st with mem:=eP st.mem (vs.flatMap fg) }∧il E w E' w∧∀ xs,cJ E vs xs→cJ E' vs' xs:=by obtain⟨hg,h1,h2⟩:=AQ hs hp (F':=(E.qL w (vs.flatMap fg)).F) (fun _ _ h=>h) (fun ad y h=>Env.Mk hs.F h) (fun _ _ h=>.inl h) (Below.refl _ w);exact⟨_,h2,h1,fun xs hx=>(mS hs (keys:=vs.flatMap fg) hx hp fun k hk=>hk).mono ⟨fun _ _ h=>h,fun _ _ _ h=>by cases h⟩⟩
theorem NN {P:Program} {f:FuncId} {E:Env} {w:World} {a:Act} {st:St} (hs:cY E w a st) {vs vs':List V} {r:V} {xs:Array Value} (hx:cJ E vs xs.toList) (hp:fw st.mem vs=some vs') (hf:cx P f vs' r) :
    Calls P f xs w fun e w'=>∃ E' x,e = .returned x∧il E w E' w'∧cY E' w' a { st with mem:=gv st.mem (vs.flatMap fg) r }∧cV E' r x:=by
  have h1:=mS hs (keys:=vs.flatMap fg) hx hp fun k hk=>hk;refine (hf.2 (E.qL w (vs.flatMap fg)).F (E.qL w (vs.flatMap fg)).gl w xs (fun ad x h=>Env.Mk hs.F h) h1).mono ?_;rintro e w' ⟨F',x,rfl,Kb,kM,hF3,⟨Ha,nB⟩,hb⟩;unfold gv;split;·rename_i aeo;refine⟨E,x,rfl,⟨E.le_refl,fun k v g e c h=>.inl ⟨k,v,e,c,h⟩,fun _ _ h=>.inl h,hb.os,hb.tape,hb.output,hb.size,fun b bR _=>hb.block b bR⟩,?_,NL nB aeo⟩;refine⟨fun ad y hy=>?_,fun k v g e c h=>rL (hs.lt _ _ _ _ _ h) hb.size,fun k B hk=>?_,hs.top,hs.dF,hs.apart,hs.fr⟩;(·rw [hb.cell (World.block_lt_of_cell? w ad (hs.F ad y hy))];exact hs.F ad y hy);·exact (hs.mem k B hk).mono E.le_refl (fun _ h=>h) (fun g e c h=>hb.block _ (hs.lt _ _ _ _ _ h)) fun _ _ _ _ _ h=>h
  ·obtain⟨hg,e1,s1⟩:=AQ hs hp Kb kM hF3 hb;exact⟨_,x,rfl,e1,s1,nB.mono ⟨fun _ _ h=>h,fun _ _ _ h=>by simp at h⟩⟩
end Go.Eng
end
