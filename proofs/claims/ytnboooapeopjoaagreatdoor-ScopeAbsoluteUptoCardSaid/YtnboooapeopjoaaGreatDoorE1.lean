import Derived.Orders
import Derived.Below
import Derived.Laws.AppendOwn
import Derived.Laws.Cells
import Derived.Laws.Entries
import Derived.Laws.ResultCell
import Derived.Laws.BytesArg
import Derived.Laws.Append
import Derived.IntWalk
open Array renaming append_assoc→aqo,foldl_toList→apX,getD_eq_getD_getElem?→kU,getElem?_append_left→ap5,getElem?_append_right→aqH,getElem?_eq_getElem→ch,getElem?_eq_none→apz,getElem?_eq_some_iff→dN,getElem?_map→aqq,getElem?_modify→aqB,getElem?_setIfInBounds_ne→Dm,getElem?_toList→fC,isEmpty_iff_size_eq_zero→aqh,length_toList→jY,size_append→abr,size_map→ap7,toArray_toList→di,toList_append→jZ,toList_filter→apY,toList_push→aqj,toList_zipIdx→aqw
open Bool renaming and_eq_true→aL,and_true→aN,eq_iff_iff→mB,false_eq_true→cf,or_eq_false_iff→apZ,or_self→bJ
open Go.RowKit.Below renaming heap_alloc→ey
open List renaming all_cons→cZ,all_eq_true→a7,all_nil→dY,any_eq_true→agH,append_nil→jv,drop_eq_getElem_cons→dp,drop_eq_nil_of_le→eI,drop_zero→xJ,ext_getElem?→dy,findIdx?_cons→aqp,flatMap_cons→kV,flatMap_nil→apS,foldl_cons→aM,foldl_nil→ba,getD_eq_getElem?_getD→eZ,getElem?_append→VW,getElem?_append_left→bF,getElem?_append_right→aW,getElem?_cons_succ→dx,getElem?_cons_zero→dk,getElem?_drop→BU,getElem?_eq_getElem→ak,getElem?_eq_none→dQ,getElem?_eq_some_iff→az,getElem?_map→ae,getElem?_replicate→ap0,getElem?_set→bK,getElem?_set_ne→eY,getElem?_take→iZ,getElem?_take_of_lt→jN,head?_eq_getElem?→aqD,isEmpty_iff→apR,length_append→aQ,length_cons→ay,length_drop→gG,length_eq_zero_iff→cC,length_nil→aI,length_take→cd,map_cons→cR,map_nil→cP,mem_append→ew,mem_cons→cb,mem_cons_of_mem→bP,mem_cons_self→b9,mem_of_getElem?→aB,mem_singleton→eJ,not_mem_nil→tv,take_nil→NT,take_of_length_le→aX,take_zero→e8
open Nat renaming add_assoc→oI,add_comm→SO,add_mul→jx,add_zero→kC,div_add_mod→aqb,div_lt_iff_lt_mul→aqC,eq_zero_or_pos→apW,le_refl→aw,le_trans→Co,lt_irrefl→apy,lt_of_lt_of_le→qL,lt_or_ge→bL,lt_succ_self→lR,mod_lt→apK,mul_le_mul→ap6,mul_le_mul_right→lE,sub_self→cU,succ_mul→nO,zero_add→bE
open Option renaming getD_none→apQ,getD_some→agG,isSome_none→aqm,isSome_some→aqn,map_eq_some_iff→bA,map_none→apx,map_some→cA
open Option.some renaming injEq→aF
open Prod.mk renaming injEq→eA
set_option linter.all false
section
namespace Go.Eng

class bg where
 n:Int
 κ:Int→Option Bool
 ok:∀ k b,κ k=some b→decide (k≤n)=b
 g:Option Nat
 Xx:Nat→Option (List Value)
variable [bg]
structure Gl (F:Addr→Option Value):Prop where
 n:∀ g,bg.g=some g→F ⟨g,0,none⟩=some (.int .i64 bg.n)
 t:∀ g cs (j:Nat) x,bg.Xx g=some cs→cs[j]?=some x→F ⟨g,j,none⟩=some x
theorem Gl.mono {F F':Addr→Option Value} (h:Gl F) (hF:∀ ad x,F ad=some x→F' ad=some x):Gl F':=⟨fun g hg=>hF _ _ (h.n g hg),fun g cs j x h1 h2=>hF _ _ (h.t g cs j x h1 h2)⟩

inductive V where
 | undef
 | sc (v:Value)
 | agg (cs:List V)
 | slice (rows:List V)
 | ms (b v s l:Nat)
 | ptr (b o:Nat)
 | iy (b v i o:Nat)
 | fa (cs:List V)
 | cX (f:Fn) (first cap:List V)
 | eV (vs:List V)
 | ke (b:Nat)
 | mp (b:Nat)
 | gn
 | full (rows:List V)
 deriving Inhabited

def V.cells:V→List V
 | .agg cs=>cs
 | v=>[v]

structure Env where
 F:Addr→Option Value
 cI:Nat→Nat→Option (Nat×Nat×Nat)
 gl:Gl F

def Env.pure (E:Env):Env := { F:=E.F,cI:=fun _ _=>none,gl:=E.gl }

inductive dh:Env→V→Value→Prop
 | undef (E:Env) (x:Value):dh E .undef x
 | sc (E:Env) (v:Value):dh E (.sc v) v
 | agg (E:Env) (cs:List V) (xs:Array Value) (hl:cs.length=xs.size) (h:∀ (i:Nat) (c:V) (x:Value),cs[i]?=some c→xs[i]?=some x→dh E c x):dh E (.agg cs) (.agg xs)
 | slice (E:Env) (rows:List V) (a:Option Addr) (cap tR:Nat) (ad:Addr) (xf:Nat→Nat→Value) (ha:rows≠[]→a=some ad) (nR:rows.length≤cap)
   (hs:∀ (i:Nat) (row:V),rows[i]?=some row→row.cells.length=tR)
   (hF:∀ (i:Nat) (row:V) (j:Nat) (c:V),rows[i]?=some row→row.cells[j]?=some c→E.F (ad.add (i*tR+j))=some (xf i j))
   (h1:∀ (i:Nat) (row:V) (j:Nat) (c:V),rows[i]?=some row→row.cells[j]?=some c→(xf i j).oneCell'=true)
   (h:∀ (i:Nat) (row:V) (j:Nat) (c:V),rows[i]?=some row→row.cells[j]?=some c→dh E.pure c (xf i j)):dh E (.slice rows) (.slice a rows.length cap)
 | ms (E:Env) (b v s l g e c:Nat) (a:Option Addr) (cap:Nat) (hb:E.cI b v=some (g,e,c)) (hl:0<l→a=some ⟨g,s*e,none⟩) (h0:s=0→a=some ⟨g,0,none⟩∧cap=c) (hc:l≤cap∧s+cap=c∧(0<cap→a=some ⟨g,s*e,none⟩)) :
   dh E (.ms b v s l) (.slice a l cap)
 | jl (E:Env) (b v s:Nat):dh E (.ms b v s 0) (.slice none 0 0)
 | ptr (E:Env) (b o g e c:Nat) (hb:E.cI b 0=some (g,e,c)):dh E (.ptr b o) (.pointer (some ⟨g,o,none⟩))
 | iy (E:Env) (b v i o g e c:Nat) (hb:E.cI b v=some (g,e,c)):dh E (.iy b v i o) (.pointer (some ⟨g,i*e+o,none⟩))
 | fa (E:Env) (cs:List V) (ad:Addr) (xf:Nat→Value) (hF:∀ (j:Nat) (c:V),cs[j]?=some c→E.F (ad.add j)=some (xf j)) (h:∀ (j:Nat) (c:V),cs[j]?=some c→dh E.pure c (xf j)) :
   dh E (.fa cs) (.pointer (some ad))
 | cX (E:Env) (f:Fn) (first cap:List V) (xs ys:Array Value) (hx:first.length=xs.size) (hy:cap.length=ys.size)
   (h1:∀ (i:Nat) (c:V) (x:Value),first[i]?=some c→xs[i]?=some x→dh E c x) (h2:∀ (i:Nat) (c:V) (x:Value),cap[i]?=some c→ys[i]?=some x→dh E c x):dh E (.cX f first cap) (.func f xs ys)
 | ke (E:Env) (b l e c:Nat) (hb:E.cI b 0=some (l,e,c)):dh E (.ke b) (.func (.yield l) #[] #[])
 | mp (E:Env) (b l e c:Nat) (hb:E.cI b 0=some (l,e,c)):dh E (.mp b) (.map (some l))
 | gn (E:Env):dh E .gn (.int .i64 bg.n)
 | full (E:Env) (rows:List V) (a:Option Addr) (h:dh E (.slice rows) (.slice a rows.length rows.length)):dh E (.full rows) (.slice a rows.length rows.length)
 | eV (E:Env) (vs:List V) (xs:Array Value) (hl:vs.length=xs.size) (h:∀ (i:Nat) (c:V) (x:Value),vs[i]?=some c→xs[i]?=some x→dh E c x):dh E (.eV vs) (.tuple xs)

def cY (E:Env) (vs:List V) (xs:List Value):Prop:=vs.length=xs.length∧∀ (i:Nat) (v:V) (x:Value),vs[i]?=some v→xs[i]?=some x→dh E v x

theorem Env.LW {a b:Env} (h1:a.F=b.F) (h2:a.cI=b.cI):a=b:=by cases a; cases b; dsimp only at h1 h2; subst h1; subst h2; rfl

structure Env.le (E E':Env):Prop where
 F:∀ ad x,E.F ad=some x→E'.F ad=some x
 cI:∀ b v t,E.cI b v=some t→E'.cI b v=some t

theorem Env.le_refl (E:Env):E.le E:=⟨fun _ _ h=>h,fun _ _ _ h=>h⟩
theorem Env.le_trans {a b c:Env} (h:a.le b) (k:b.le c):a.le c:=⟨fun ad x hx=>k.F _ _ (h.F _ _ hx),fun b v t hx=>k.cI _ _ _ (h.cI _ _ _ hx)⟩
theorem Env.ld {a b:Env} (h:a.le b):a.pure.le b.pure:=⟨h.F,fun _ _ _ h=>h⟩
theorem Env.sx (a:Env):a.pure.le a:=⟨fun _ _ h=>h,fun _ _ _ h=>by simp [Env.pure] at h⟩

theorem dh.mono {E E':Env} {v:V} {x:Value} (h:dh E v x) (hle:E.le E'):dh E' v x:=by induction h generalizing E' with | undef=>exact .undef _ _ | sc=>exact .sc _ _ | agg E cs xs hl h ih=>exact .agg _ _ _ hl fun i c x hc hx=>ih i c x hc hx hle | slice E rows a cap tR ad xf ha nR hs hF h1 h ih=>exact .slice _ _ _ _ tR ad xf ha nR hs (fun i row j c hi hj=>hle.F _ _ (hF i row j c hi hj)) h1 fun i row j c hi hj=>ih i row j c hi hj (Env.ld hle) | ms E b v s l g e c a cap hb hl h0 hc=>exact .ms _ _ _ _ _ g e c _ _ (hle.cI _ _ _ hb) hl h0 hc | jl E b v s=>exact .jl _ _ _ _ | ptr E b o g e c hb=>exact .ptr _ _ _ g e c (hle.cI _ _ _ hb) | iy E b v i o g e c hb=>exact .iy _ _ _ _ _ g e c (hle.cI _ _ _ hb) | fa E cs ad xf hF h ih=>exact .fa _ _ _ xf (fun j c hj=>hle.F _ _ (hF j c hj)) fun j c hj=>ih j c hj (Env.ld hle) | cX E f first cap xs ys hx hy h1 h2 Xy Xz=>exact .cX _ _ _ _ _ _ hx hy (fun i c x hc hx=>Xy i c x hc hx hle) fun i c x hc hx=>Xz i c x hc hx hle | ke E b l e c hb=>exact .ke _ _ l e c (hle.cI _ _ _ hb) | mp E b l e c hb=>exact .mp _ _ l e c (hle.cI _ _ _ hb) | gn E=>exact .gn _ | full E rows a h ih=>exact .full _ _ _ (ih hle) | eV E vs xs hl h ih=>exact .eV _ _ _ hl fun i c x hc hx=>ih i c x hc hx hle

theorem cY.mono {E E':Env} {vs:List V} {xs:List Value} (h:cY E vs xs) (hle:E.le E'):cY E' vs xs :=
 ⟨h.1,fun i v x hv hx=>(h.2 i v x hv hx).mono hle⟩
theorem cY.nil (E:Env):cY E [] []:=⟨rfl,fun i v x h=>by simp at h⟩
theorem cY.cons {E:Env} {v:V} {x:Value} {vs:List V} {xs:List Value} (h:dh E v x) (hs:cY E vs xs):cY E (v :: vs) (x :: xs):=by refine⟨by simp [hs.1],fun i=>?_⟩;cases i with | zero=>intro v' x' hv hx; simp at hv hx; subst hv; subst hx; exact h | succ i=>intro v' x' hv hx; simp at hv hx; exact hs.2 i v' x' hv hx
theorem cY.of_cons {E:Env} {v:V} {vs:List V} {xs:List Value} (h:cY E (v :: vs) xs):∃ x ys,xs=x :: ys∧dh E v x∧cY E vs ys:=by cases xs with | nil=>have:=h.1; simp at this | cons x ys=>exact⟨x,ys,rfl,h.2 0 v x rfl rfl,by have:=h.1; simpa using this,fun i v' x' hv hx=>h.2 (i+1) v' x' (by simpa using hv) (by simpa using hx)⟩
theorem cY.of_nil {E:Env} {xs:List Value} (h:cY E [] xs):xs=[]:=by have:=h.1; simp at this; exact cC.1 this.symm
theorem cY.append {E:Env} {vs us:List V} {xs ys:List Value} (h:cY E vs xs) (k:cY E us ys):cY E (vs++us) (xs++ys):=by
 refine⟨by simp [h.1,k.1],fun i v x hv hx=>?_⟩;by_cases hi:i<vs.length;·rw [bF hi] at hv; rw [bF (h.1 ▸ hi)] at hx; exact h.2 i v x hv hx
 rw [aW (by omega)] at hv; rw [aW (by have:=h.1; omega),← h.1] at hx; exact k.2 _ v x hv hx
theorem cY.get {E:Env} {vs:List V} {xs:List Value} (h:cY E vs xs) {i:Nat} {v:V} (hv:vs[i]?=some v):∃ x,xs[i]?=some x∧dh E v x:=by
 have hi:i<xs.length:=by rw [← h.1]; exact (az.1 hv).1
 exact⟨xs[i],ak hi,h.2 i v _ hv (ak hi)⟩
theorem cY.drop {E:Env} {vs:List V} {xs:List Value} (h:cY E vs xs) (n:Nat):cY E (vs.drop n) (xs.drop n) :=
 ⟨by simp [h.1],fun i v x hv hx=>h.2 (n+i) v x (by simpa using hv) (by simpa using hx)⟩
theorem cY.take {E:Env} {vs:List V} {xs:List Value} (h:cY E vs xs) (n:Nat):cY E (vs.take n) (xs.take n):=by
 refine⟨by simp [h.1],fun i v x hv hx=>?_⟩;have hi:i<n:=by by_cases hi:i<n;(·exact hi);rw [iZ] at hv; simp [hi] at hv
 rw [jN hi] at hv hx;exact h.2 i v x hv hx
theorem cY.set {E:Env} {vs:List V} {xs:List Value} (h:cY E vs xs) (n:Nat) {v:V} {x:Value} (hv:dh E v x):cY E (vs.set n v) (xs.set n x):=by
 refine⟨by simp [h.1],fun i v' x' zp SQ=>?_⟩;by_cases hi:n=i;·subst hi;rw [bK] at zp SQ;simp only [if_true] at zp SQ;split at zp;(·split at SQ;(·simp at zp SQ; subst zp; subst SQ; exact hv);simp at SQ);simp at zp
 rw [eY hi] at zp SQ; exact h.2 i v' x' zp SQ

theorem dh.cells {E:Env} {v:V} {x:Value} (h:dh E v x) (hu:v ≠ .undef) (hs:∀ y,v = .sc y→∀ cs,y ≠ .agg cs):cY E v.cells x.cells.toList:=by cases h with | undef=>exact absurd rfl hu | sc =>(have:x.cells = #[x]:=by have:=hs x rfl;cases x <;> simp [Value.cells] at this ⊢);simp only [V.cells,this]; exact .cons (.sc _ _) (.nil _) | agg _ cs xs hl h=>exact⟨by simpa [V.cells,Value.cells] using hl,fun i c x hc hx=>h i c x hc (by simpa [Value.cells] using hx)⟩ | slice _ rows a cap tR ad xf ha nR hz hF h1 h=>exact .cons (.slice _ _ _ _ tR ad xf ha nR hz hF h1 h) (.nil _) | ms _ b v s l g e c a cap hb hl h0 hc=>exact .cons (.ms _ _ _ _ _ g e c _ _ hb hl h0 hc) (.nil _) | jl _ b v s=>exact .cons (.jl _ _ _ _) (.nil _) | ptr _ b o g e c hb=>exact .cons (.ptr _ _ _ g e c hb) (.nil _) | iy _ b v i o g e c hb=>exact .cons (.iy _ _ _ _ _ g e c hb) (.nil _) | fa _ cs ad xf hF h=>exact .cons (.fa _ _ _ xf hF h) (.nil _) | cX _ f first cap xs ys hx hy h1 h2=>exact .cons (.cX _ _ _ _ _ _ hx hy h1 h2) (.nil _) | ke _ b l e c hb=>exact .cons (.ke _ _ l e c hb) (.nil _) | mp _ b l e c hb=>exact .cons (.mp _ _ l e c hb) (.nil _) | gn=>exact .cons (.gn _) (.nil _) | full _ rows a h=>exact .cons (.full _ _ _ h) (.nil _) | eV _ vs xs hl h=>exact .cons (.eV _ _ _ hl h) (.nil _)
end Go.Eng
end

section
namespace Go.Eng
variable [bg]

structure Ti where
 size:Nat
 agg:Bool
 zero:List Value
 bD:List (Nat×Nat):=[]
 elem:Option TypeId:=none
 bytes:Nat:=0
 deriving Inhabited

abbrev Table:=TypeId→Option Ti

structure TT (P:Program) (tt:Table):Prop where
 size:∀ t i,tt t=some i→∃ info,P.info? t=some info∧info.size=i.size∧info.bytes=i.bytes∧∃ z,info.zero=some z∧z.cells.toList=i.zero
 desc:∀ t i,tt t=some i→∃ d,P.underlying t=some d∧(i.agg=true↔((∃ fs,d = .struct fs)∨∃ n e,d = .array n e)) ∧
  (∀ e,i.elem=some e→d = .slice e) ∧
  (∀ (f off sz:Nat),i.bD[f]?=some (off,sz)→∃ fs fd inf,d = .struct fs∧fs.size=i.bD.length∧fs[f]?=some fd∧fd.offset=off∧P.info? fd.type=some inf∧inf.size=sz∧sz≠0)

def cQ {α:Type} (P:Program):Sem α→Option α
 | .pure a=>some a
 | .program k=>cQ P (k P)
 | .mark _ k=>cQ P k
 | _=>none

theorem gM {α:Type} {P:Program} (s:Sem α) {v:α} (h:cQ P s=some v) (w:World):s.run P w = .ok v w:=by induction s with | pure a=>simp [cQ] at h; subst h; rfl | program k ih=>exact ih P h | mark m k ih=>exact ih h | _=>simp [cQ] at h

def kX:Value→V
 | .agg cs=>.agg (cs.toList.map V.sc)
 | .tuple vs=>.eV (vs.toList.map V.sc)
 | v=>.sc v

theorem n9 (E:Env) (cs:Array Value) (i:Nat) (c:V) (x:Value) (hc:(cs.toList.map V.sc)[i]?=some c) (hx:cs[i]?=some x):dh E c x:=by simp only [ae,fC,hx,cA,aF] at hc;subst hc; exact .sc _ _
theorem kY (E:Env) (v:Value):dh E (kX v) v:=by cases v with | agg cs=>exact .agg _ _ _ (by simp) (n9 E cs) | tuple cs=>exact .eV _ _ _ (by simp) (n9 E cs) | _=>exact .sc _ _

inductive bm where
 | hole
 | dead
 | box (cs:List V)
 | rows (v e:Nat) (rs:List V)
 | uR (v e:Nat) (rs:List V)
 | loop (s:LoopState) (nS:Option Code) (fr:List V) (params:Array Tmp) (assign body:Code)
 | map (dO:List (Value×Nat×V)) (clock:Nat)
 | jO (m since:Nat) (seen:List Nat) (last:Nat)
 | nP (s:ByteArray) (pos:Nat)
 | oa
 deriving Inhabited

structure St where
 fr:List V
 mem:List bm

def St.eval (st:St):Operand→V
 | .tmp t=>st.fr.getD t .undef
 | .const v=>kX v
 | .global g=>if bg.g=some g then .fa [.gn] else match bg.Xx g with | some cs=>.fa (cs.map V.sc) | none=>.undef
 | .func f=>.sc (.func (.func f) #[] #[])

def St.put (st:St) (dst:Option Tmp) (v:V):St :=
 match dst with
 | some d => { st with fr:=st.fr.set d v }
 | none=>st

def mC (E:Env) (e:Nat) (rs:List V) (at_:Nat→Option Value):Prop :=
 ∀ (i:Nat) (row:V),rs[i]?=some row→row.cells.length=e∧∀ (j:Nat) (c:V),row.cells[j]?=some c→∃ x,at_ (i*e+j)=some x∧x.oneCell'=true∧dh E c x

def gH (E:Env) (dO:List (Value×Nat×V)) (es:List MapEntry):Prop :=
 dO.length=es.length∧∀ (i:Nat) (k:Value×Nat×V) (e:MapEntry),dO[i]?=some k→es[i]?=some e→e.key=k.1∧e.born=k.2.1∧dh E k.2.2 e.val
theorem gH.mono {E E':Env} {dO:List (Value×Nat×V)} {es:List MapEntry} (h:gH E dO es) (hle:E.le E'):gH E' dO es :=
 ⟨h.1,fun i k e hk he=>let ⟨h1,h2,h3⟩:=h.2 i k e hk he; ⟨h1,h2,h3.mono hle⟩⟩

def ob (E:Env) (w:World) (k:Nat):bm→Prop
 | .hole=>∀ v,E.cI k v=none
 | .dead=>True
 | .box cs=>∃ g T xs,E.cI k 0=some (g,0,0)∧w.heap[g]?=some (.cells xs T (0,0))∧cY E cs xs.toList∧∀ o,E.F ⟨g,o,none⟩=none
 | .rows v e rs=>(rs=[]∧E.cI k v=none)∨∃ g T xs c,E.cI k v=some (g,e,c)∧w.heap[g]?=some (.cells xs T (0,0))∧xs.size=c*e∧rs.length≤c∧mC E.pure e rs (fun o=>xs[o]?)∧∀ o,E.F ⟨g,o,none⟩=none
 | .uR v e rs=>(rs=[]∧E.cI k v=none)∨∃ g c,E.cI k v=some (g,e,c)∧rs.length≤c∧mC E.pure e rs (fun o=>E.F ⟨g,o,none⟩)
 | .loop s nS fr params assign body=>∃ l fn tmps db,E.cI k 0=some (l,0,0)∧w.heap[l]?=some (.loop { state:=s,pending:=nS,fn:=fn,tmps:=tmps,params:=params,assign:=assign,body:=body,defers:=db })∧cY E fr tmps.toList∧∀ o,E.F ⟨l,o,none⟩=none

 | .map dO clock=>∃ g es,E.cI k 0=some (g,0,0)∧w.heap[g]?=some (.map es clock)∧gH E dO es.toList∧∀ o,E.F ⟨g,o,none⟩=none
 | .jO m since seen last=>∃ g gm e c,E.cI k 0=some (g,0,0)∧E.cI m 0=some (gm,e,c)∧w.heap[g]?=some (.mapIter (some gm) since seen.toArray last)∧∀ o,E.F ⟨g,o,none⟩=none
 | .nP s pos=>∃ g,E.cI k 0=some (g,0,0)∧w.heap[g]?=some (.stringIter s pos)∧∀ o,E.F ⟨g,o,none⟩=none
 | .oa=>∃ g,E.cI k 0=some (g,0,0)∧w.heap[g]?=some (.mapIter none 0 #[] 0)∧∀ o,E.F ⟨g,o,none⟩=none

def bm.dV:bm→Nat
 | .rows v _ _=>v
 | .uR v _ _=>v
 | _=>0
def bm.held:bm→Bool
 | .hole | .dead=>false
 | _=>true

structure dr (E:Env) (w:World) (a:Act) (st:St):Prop where
 F:∀ ad x,E.F ad=some x→w.cell? ad=some x
 lt:∀ k v g e c,E.cI k v=some (g,e,c)→g<w.heap.size
 mem:∀ k B,st.mem[k]?=some B→ob E w k B
 top:∀ k,st.mem.length≤k→∀ v,E.cI k v=none
 dV:∀ k B,st.mem[k]?=some B→∀ v,B.dV<v→E.cI k v=none
 apart:∀ k k' v v' g e c e' c',E.cI k v=some (g,e,c)→E.cI k' v'=some (g,e',c')→k=k'
 fr:cY E st.fr a.tmps.toList

theorem dr.eval {E:Env} {w:World} {a:Act} {st:St} (h:dr E w a st) (x:Operand):dh E (st.eval x) (a.eval x):=by cases x with | tmp t =>(simp only [St.eval,Act.eval];cases hv:st.fr[t]? with | none=>rw [eZ,hv]; exact .undef _ _ | some v =>obtain⟨x,hx,hr⟩:=h.fr.get hv;rw [eZ,hv,kU];simp only [fC] at hx;rw [hx]; exact hr) | const v=>exact kY E v | global g =>(simp only [St.eval,Act.eval];split;(·rename_i hg;refine .fa _ _ _ (fun _=>.int .i64 bg.n) (fun j c hc=>?_) fun j c hc=>?_;(·match j with | 0=>exact E.gl.n g hg | j+1=>simp at hc);match j with | 0=>simp at hc; subst hc; exact .gn _ | j+1=>simp at hc);split;(·rename_i cs Dn;refine .fa _ _ _ (fun j=>(cs[j]?).getD undef) (fun j c hc=>?_) fun j c hc=>?_;(·simp only [ae,bA] at hc;obtain⟨x,hx,rfl⟩:=hc;(have h1:(Addr.mk g 0 none).add j=⟨g,j,none⟩:=by unfold Addr.add; by_cases hj:j=0 <;> simp [hj]);rw [h1,hx];exact E.gl.t g cs j x Dn hx);simp only [ae,bA] at hc;obtain⟨x,hx,rfl⟩:=hc;rw [hx]; exact .sc _ _);exact .undef _ _) | func f=>exact .sc _ _

structure iC (E:Env) (w:World) (E':Env) (w':World):Prop where
 le:E.le E'
 cI:∀ k v g e c,E'.cI k v=some (g,e,c)→(∃ k0 v0 e0 c0,E.cI k0 v0=some (g,e0,c0))∨w.heap.size≤g
 F:∀ ad x,E'.F ad=some x→E.F ad=some x∨w.heap.size≤ad.block∨∃ k0 v0 e0 c0,E.cI k0 v0=some (ad.block,e0,c0)
 os:w'.os=w.os
 tape:w'.tape=w.tape
 output:w'.output=w.output
 size:w.heap.size≤w'.heap.size
 heap:∀ b,b<w.heap.size→(∀ k v e c,E.cI k v≠some (b,e,c))→w'.heap[b]?=w.heap[b]?

theorem iC.refl (E:Env) (w:World):iC E w E w :=
 ⟨E.le_refl,fun k v g e c h=>.inl ⟨k,v,e,c,h⟩,fun _ _ h=>.inl h,rfl,rfl,rfl,aw _,fun _ _ _=>rfl⟩
theorem iC.trans {E E1 E2:Env} {w w1 w2:World} (h:iC E w E1 w1) (k:iC E1 w1 E2 w2):iC E w E2 w2:=by
 refine⟨Env.le_trans h.le k.le,?_,?_,k.os.trans h.os,k.tape.trans h.tape,k.output.trans h.output,Co h.size k.size,?_⟩;·intro q v g e c hq;(rcases k.cI q v g e c hq with ⟨k0,v0,e0,c0,h0⟩ | h0);(·exact h.cI _ _ _ _ _ h0);exact .inr (Co h.size h0)
 ·intro ad x hx;(rcases k.F ad x hx with h0 | h0 | ⟨k0,v0,e0,c0,h0⟩);(·exact h.F _ _ h0);(·exact .inr (.inl (Co h.size h0)));(rcases h.cI _ _ _ _ _ h0 with h1 | h1);(·exact .inr (.inr h1));exact .inr (.inl h1)
 intro b hb ep;rw [k.heap b (qL hb h.size) ?_,h.heap b hb ep];intro q v e c hq;rcases h.cI _ _ _ _ _ hq with ⟨k0,v0,e0,c0,h0⟩ | h0
 ·exact ep _ _ _ _ h0
 omega
theorem iC.drew (E:Env) (w:World):iC E w E w.drew :=
 ⟨E.le_refl,fun k v g e c h=>.inl ⟨k,v,e,c,h⟩,fun _ _ h=>.inl h,rfl,rfl,rfl,aw _,fun _ _ _=>rfl⟩
theorem dr.drew {E:Env} {w:World} {a:Act} {st:St} (h:dr E w a st):dr E w.drew a st :=
 ⟨h.F,h.lt,fun k B hB=>by have:=h.mem k B hB; cases B <;> exact this,h.top,h.dV,h.apart,h.fr⟩

theorem dr.put {E:Env} {w:World} {a:Act} {st:St} (h:dr E w a st) (dst:Option Tmp) {v:V} {x:Value} (hr:dh E v x):dr E w (a.put dst x) (st.put dst v):=by cases dst with | none=>exact h | some d=>exact⟨h.F,h.lt,h.mem,h.top,h.dV,h.apart,by simpa [St.put,Act.put] using h.fr.set d hr⟩
end Go.Eng
end

section
namespace Go.Eng
variable [bg]

def jR (tt:Table) (T:TypeId) (cs:List V):Option V :=
 match tt T with
 | some i=>if i.agg then (if i.size≤cs.length then some (.agg (cs.take i.size)) else none) else cs.head?
 | none=>none

def rowOf (mem:List bm) (b v i:Nat):Option V :=
 match mem[b]? with
 | some (.rows v' _ rs)=>if v'=v then rs[i]? else none
 | some (.uR v' _ rs)=>if v'=v then rs[i]? else none
 | _=>none

def qN (tt:Table) (mem:List bm) (T:TypeId):V→Option V
 | .ptr b o=>match mem[b]? with | some (.box cs)=>jR tt T (cs.drop o) | _=>none
 | .iy b v i o=>match rowOf mem b v i with | some row=>jR tt T (row.cells.drop o) | none=>none
 | .fa cs=>jR tt T cs
 | _=>none

def Tq (tt:Table) (S:TypeId) (f:Nat):Option Nat:=match tt S with | some i=>(match i.bD[f]? with | some p=>some p.1 | none=>none) | none=>none
def jy (tt:Table) (T:TypeId):Option TypeId:=match tt T with | some i=>i.elem | none=>none
def oN (tt:Table) (T:TypeId):Option Nat:=match tt T with | some i=>some i.size | none=>none

def fieldAt (off:Nat):V→Option V
 | .ptr b o=>some (.ptr b (o+off))
 | .iy b v i o=>some (.iy b v i (o+off))
 | .fa cs=>some (.fa (cs.drop off))
 | _=>none
def Dp (tt:Table) (S:TypeId) (f:Nat) (x:V):Option V:=match Tq tt S f with | some off=>fieldAt off x | none=>none

def mD (mem:List bm) (b v:Nat):Option Nat :=
 match mem[b]? with
 | some (.rows v' e _)=>if v'=v then some e else none
 | some (.uR v' e _)=>if v'=v then some e else none
 | _=>none

def indexAt (mem:List bm) (size:Nat) (n:Int):V→Option V
 | .slice rows=>if 0≤n then (match rows[n.toNat]? with | some row=>if row.cells.length=size then some (.fa row.cells) else none | none=>none) else none
 | .ms b v s l=>if 0≤n∧n<l∧mD mem b v=some size then some (.iy b v (s+n.toNat) 0) else none
 | _=>none
def oc (tt:Table) (mem:List bm) (T:TypeId) (x i:V):Option V :=
 match i with
 | .sc (.int _ n)=>match jy tt T with
  | some e=>match oN tt e with
   | some size=>indexAt mem size n x
   | none=>none
  | none=>none
 | _=>none

theorem add_add (a:Addr) (m n:Nat):(a.add m).add n=a.add (m+n):=by unfold Addr.add;by_cases hm:m=0 <;> by_cases hn:n=0 <;> simp [hm,hn,oI]
theorem add_lit (b o n:Nat):(Addr.mk b o none).add n=⟨b,o+n,none⟩:=by unfold Addr.add; by_cases hn:n=0 <;> simp [hn]

theorem bG {P:Program} {t:TypeId} {d:TypeDesc} (h:P.underlying t=some d) (w:World):(underlying t).run P w = .ok d w:=by simp [underlying,h]
theorem hY {P:Program} {t:TypeId} {i:TypeInfo} (h:P.info? t=some i) (w:World):(typeInfo t).run P w = .ok i w:=by simp [typeInfo,h]
theorem iE {P:Program} {t:TypeId} {i:TypeInfo} (h:P.info? t=some i) (w:World):(sizeOf t).run P w = .ok i.size w:=by simp [sizeOf,hY h]
theorem TT.isAgg {P:Program} {tt:Table} (h:TT P tt) {t:TypeId} {i:Ti} (ht:tt t=some i) (w:World):(isAgg t).run P w = .ok i.agg w:=by obtain⟨d,hd,ha,-⟩:=h.desc t i ht;simp only [Go.isAgg,Sem.run_bind,bG hd,Result.andThen_ok];cases hi:i.agg with | true =>(rcases ha.1 hi with ⟨fs,rfl⟩ | ⟨n,e,rfl⟩ <;> rfl) | false =>(have:¬ ((∃ fs,d = .struct fs)∨∃ n e,d = .array n e):=fun hh=>by rw [ha.2 hh] at hi; cases hi);cases d <;> first | rfl | (exfalso; apply this; first | exact .inl ⟨_,rfl⟩ | exact .inr ⟨_,_,rfl⟩)
theorem TT.sizeOf {P:Program} {tt:Table} (h:TT P tt) {t:TypeId} {i:Ti} (ht:tt t=some i) (w:World):(Go.sizeOf t).run P w = .ok i.size w:=by obtain⟨info,h1,h2,-⟩:=h.size t i ht;rw [iE h1,h2]

def oO (E:Env) (w:World) (ad:Addr) (cs:List V):Prop:=∀ (j:Nat) (c:V),cs[j]?=some c→∃ x,w.cell? (ad.add j)=some x∧dh E c x
theorem oO.drop {E:Env} {w:World} {ad:Addr} {cs:List V} (h:oO E w ad cs) (n:Nat):oO E w (ad.add n) (cs.drop n):=fun j c hc=>by rw [add_add]; exact h _ _ (by simpa using hc)

theorem yF {P:Program} {tt:Table} (ht:TT P tt) {E:Env} {w:World} {ad:Addr} {cs:List V} {T:TypeId} {v:V} (h:oO E w ad cs) (hp:jR tt T cs=some v) :
  ∃ x,(loadVar T ad).run P w = .ok x w∧dh E v x:=by unfold jR at hp;cases hi:tt T with | none=>rw [hi] at hp; simp at hp | some i =>rw [hi] at hp; simp only at hp;cases ha:i.agg with | false =>simp only [ha,cf,if_false] at hp;obtain⟨x,hx,hr⟩:=h 0 v (by simpa [aqD] using hp);(have h0:ad.add 0=ad:=by simp [Addr.add]);rw [h0] at hx;refine⟨x,?_,hr⟩;simp [loadVar,ht.isAgg hi,ha,hx] | true =>simp only [ha,if_true] at hp;split at hp;(·rename_i hle;simp only [aF] at hp; subst hp;(have hx:∀ j,j<i.size→∃ x,w.cell? (ad.add j)=some x∧∀ c,cs[j]?=some c→dh E c x:=fun j hj=>by (have E8:j<cs.length:=by omega);obtain⟨x,hx,hr⟩:=h j _ (ak E8);exact⟨x,hx,fun c hc=>by rw [ak E8] at hc; cases hc; exact hr⟩);let f:Nat→Value:=fun j=>(w.cell? (ad.add j)).getD default;(have hf:∀ j,j<i.size→w.cell? (ad.add j)=some (f j):=fun j hj=>by obtain⟨x,hx,-⟩:=hx j hj;simp [f,hx]);refine⟨.agg ((List.range i.size).map f).toArray,?_,?_⟩;(·simp only [loadVar,Sem.run_bind,ht.isAgg hi,Result.andThen_ok,ha,if_true,ht.sizeOf hi];rw [run_loadCells w ad i.size f hf];simp);refine .agg _ _ _ (by simp; omega) fun j c x hc hxx=>?_;(have hj:j<i.size:=by by_cases hj:j<i.size;(·exact hj);rw [iZ] at hc; simp [hj] at hc);rw [jN hj] at hc;obtain⟨y,hy,hr⟩:=hx j hj;simp [hj] at hxx;rw [← hxx];(have:f j=y:=by simp [f,hy]);rw [this]; exact hr c hc);simp at hp

theorem Io {E:Env} {w:World} (hF:∀ ad x,E.F ad=some x→w.cell? ad=some x) {cs:List V} {x:Value} (h:dh E (.fa cs) x):∃ ad,x = .pointer (some ad)∧oO E w ad cs:=by cases h with | fa _ _ ad xf hf hr=>exact⟨ad,rfl,fun j c hc=>⟨xf j,hF _ _ (hf j c hc),(hr j c hc).mono E.sx⟩⟩

theorem oP {w:World} {g:Nat} {xs:Array Value} {T:TypeId} {fz:Nat×Nat} (h:w.heap[g]?=some (.cells xs T fz)) (o:Nat):w.cell? ⟨g,o,none⟩=xs[o]?:=by simp [World.cell?,h]

theorem LX {E:Env} {w:World} {a:Act} {st:St} (hs:dr E w a st) {b o:Nat} {cs:List V} (hm:st.mem[b]?=some (.box cs)) {x:Value} (h:dh E (.ptr b o) x) :
  ∃ ad,x = .pointer (some ad)∧oO E w ad (cs.drop o):=by cases h with | ptr _ _ _ g e c hb =>obtain⟨g',T,xs,kc,hh,hr,-⟩:=hs.mem b _ hm;rw [hb] at kc; cases kc;refine⟨_,rfl,fun j c hc=>?_⟩;rw [add_lit,oP hh];obtain⟨y,hy,N8⟩:=hr.get (i:=o+j) (by simpa using hc);exact⟨y,by simpa using hy,N8⟩

theorem Ip {E:Env} {w:World} {a:Act} {st:St} (hs:dr E w a st) {b v i o:Nat} {row:V} (hm:rowOf st.mem b v i=some row) {x:Value} (h:dh E (.iy b v i o) x) :
  ∃ ad,x = .pointer (some ad)∧oO E w ad (row.cells.drop o):=by cases h with | iy _ _ _ _ _ g e c hb =>refine⟨_,rfl,fun j cc hc=>?_⟩;rw [add_lit];(have hc':row.cells[o+j]?=some cc:=by simpa using hc);unfold rowOf at hm;split at hm;(·rename_i v' e' rs hk;split at hm;(·rename_i hv;subst hv;(rcases hs.mem b _ hk with ⟨rfl,-⟩ | ⟨g',T,xs,c',kc,hh,-,-,hr,-⟩);(·simp at hm);rw [hb] at kc; cases kc;obtain⟨-,h2⟩:=hr i row hm;obtain⟨y,hy,-,N8⟩:=h2 _ _ hc';exact⟨y,by rw [oP hh,oI]; exact hy,N8.mono E.sx⟩);cases hm);(·rename_i v' e' rs hk;split at hm;(·rename_i hv;subst hv;(rcases hs.mem b _ hk with ⟨rfl,-⟩ | ⟨g',c',kc,-,hr⟩);(·simp at hm);rw [hb] at kc; cases kc;obtain⟨-,h2⟩:=hr i row hm;obtain⟨y,hy,-,N8⟩:=h2 _ _ hc';exact⟨y,hs.F _ _ (by rw [oI]; exact hy),N8.mono E.sx⟩);cases hm);simp at hm

theorem xK {P:Program} {tt:Table} (ht:TT P tt) {E:Env} {w:World} {a:Act} {st:St} (hs:dr E w a st) {T:TypeId} {p v:V} {x:Value} (hr:dh E p x) (h:qN tt st.mem T p=some v) :
  ∃ y,(Instr.loadAt T x).run P w = .ok y w∧dh E v y:=by
 have key:∃ ad cs,x = .pointer (some ad)∧oO E w ad cs∧jR tt T cs=some v:=by unfold qN at h;split at h;(·split at h;(·rename_i hm;obtain⟨ad,h1,h2⟩:=LX hs hm hr;exact⟨ad,_,h1,h2,h⟩);simp at h);(·split at h;(·rename_i hm;obtain⟨ad,h1,h2⟩:=Ip hs hm hr;exact⟨ad,_,h1,h2,h⟩);simp at h);(·obtain⟨ad,h1,h2⟩:=Io hs.F hr;exact⟨ad,_,h1,h2,h⟩);simp at h
 obtain⟨ad,cs,rfl,hc,hp⟩:=key;obtain⟨y,hy,N8⟩:=yF ht hc hp;exact⟨y,by simp [Instr.loadAt,Instr.sureAddr,hy],N8⟩

theorem Dq {P:Program} {tt:Table} (ht:TT P tt) {E:Env} {S:TypeId} {f:Nat} {p v:V} {x:Value} (hr:dh E p x) (h:Dp tt S f p=some v) (w:World) :
  ∃ y,(Instr.fieldAt S x f).run P w = .ok y w∧dh E v y:=by unfold Dp Tq at h;cases hi:tt S with | none=>rw [hi] at h; simp at h | some i =>rw [hi] at h; simp only at h;cases ho:i.bD[f]? with | none=>rw [ho] at h; simp at h | some off =>rw [ho] at h; simp only at h;obtain⟨d,hd,-,-,aho⟩:=ht.desc S i hi;obtain⟨fs,fd,inf,rfl,-,hf,ho1,o7,tS,E9⟩:=aho f off.1 off.2 ho;(have mY:inf.size≠0:=by omega);obtain⟨off,sz⟩:=off;dsimp only at ho1;subst ho1;(have run:∀ ad,(Instr.fieldAt S (.pointer (some ad)) f).run P w = .ok (.pointer (some (ad.add fd.offset))) w:=fun ad=>by simp [Instr.fieldAt,bG hd,hf,Instr.sureAddr,fieldPlace,iE o7,mY]);unfold Eng.fieldAt at h;split at h;(·simp only [aF] at h; subst h;cases hr with | ptr _ _ _ g e c hb=>exact⟨_,run _,by rw [add_lit]; exact .ptr _ _ _ g e c hb⟩);(·simp only [aF] at h; subst h;cases hr with | iy _ _ _ _ _ g e c hb=>exact⟨_,run _,by rw [add_lit,oI]; exact .iy _ _ _ _ _ g e c hb⟩);(·simp only [aF] at h; subst h;cases hr with | fa _ _ ad xf hf hr=>exact⟨_,run _,.fa _ _ _ (fun j=>xf (fd.offset+j)) (fun j c hc=>by rw [add_add]; exact hf _ _ (by simpa using hc)) fun j c hc=>hr _ _ (by simpa using hc)⟩);simp at h

theorem Fi {E:Env} {w:World} {a:Act} {st:St} (hs:dr E w a st) {b v size g e c:Nat} (h:mD st.mem b v=some size) (hb:E.cI b v=some (g,e,c)):e=size:=by
 unfold mD at h;split at h;·rename_i hk;split at h;(·rename_i hv;subst hv;(rcases hs.mem b _ hk with ⟨-,hn⟩ | ⟨g',T',xs,c',kc,-⟩);(·rw [hb] at hn; cases hn);rw [hb] at kc; cases kc; simpa using h);cases h
 ·rename_i hk;split at h;(·rename_i hv;subst hv;(rcases hs.mem b _ hk with ⟨-,hn⟩ | ⟨g',c',kc,-⟩);(·rw [hb] at hn; cases hn);rw [hb] at kc; cases kc; simpa using h);cases h
 simp at h

theorem Dr {P:Program} {tt:Table} (ht:TT P tt) {E:Env} {w:World} {a:Act} {st:St} (hs:dr E w a st) {T:TypeId} {p i v:V} {x y:Value} (hp:dh E p x) (hi:dh E i y) (h:oc tt st.mem T p i=some v) :
  ∃ z,(Instr.indexAt T x y).run P w = .ok z w∧dh E v z:=by
 unfold oc at h;split at h;·rename_i k n;cases hi with | sc =>unfold jy oN at h;cases hT:tt T with | none=>rw [hT] at h; simp at h | some iT =>rw [hT] at h; simp only at h;cases he:iT.elem with | none=>rw [he] at h; simp at h | some e =>rw [he] at h; simp only at h;cases hE:tt e with | none=>rw [hE] at h; simp at h | some ie =>rw [hE] at h; simp only at h;obtain⟨d,hd,-,Ds,-⟩:=ht.desc T iT hT;obtain rfl:=Ds e he;(have run:∀ (ad:Addr) (len cap:Nat),0≤n→n<len→(Instr.indexAt T (.slice (some ad) len cap) (.int k n)).run P w = .ok (.pointer (some (ad.add (n.toNat*ie.size)))) w:=fun ad len cap h0 h1=>by simp [Instr.indexAt,asIntOf,bG hd,ht.sizeOf hE,h0,h1]);unfold Eng.indexAt at h;split at h;(·rename_i rows;split at h;(·rename_i h0;split at h;(·rename_i row wQ;split at h;(·rename_i hlen;simp only [aF] at h; subst h;cases hp with | slice _ _ aa cap tR ad xf ha nR hz hF h1 hR =>have ca:n.toNat<rows.length:=(az.1 wQ).1;(have ep:rows≠[]:=by rintro rfl; simp at ca);obtain rfl:=ha ep;(have ahp:tR=ie.size:=by rw [← hz _ _ wQ,hlen]);subst ahp;exact⟨_,run ad _ cap h0 (by omega),.fa _ _ _ (fun j=>xf n.toNat j) (fun j c hc=>by rw [add_add]; exact hF _ _ _ _ wQ hc) fun j c hc=>hR _ _ _ _ wQ hc⟩);simp at h);simp at h);simp at h);(·rename_i b v s l;split at h;(·rename_i h0;obtain⟨h0,h1,h2⟩:=h0;simp only [aF] at h; subst h;cases hp with | jl=>simp at h1; omega | ms _ _ _ _ _ g e' c aa cap hb hl SR hc =>obtain rfl:=hl (by omega);have hee:e'=ie.size:=Fi hs h2 hb;subst hee;refine⟨_,run _ _ cap h0 h1,?_⟩;have:=dh.iy E b v (s+n.toNat) 0 g ie.size c hb;rw [add_lit,← jx];simpa using this);simp at h);simp at h
 simp at h
end Go.Eng
end

section
namespace Go.Eng
variable [bg]

def xL:List V→Option (List Value)
 | []=>some []
 | .sc v :: r=>match xL r with | some l=>some (v :: l) | none=>none
 | _ :: _=>none

def fG:V→Option Value
 | .sc v=>some v
 | .agg cs=>match xL cs with | some l=>some (.agg l.toArray) | none=>none
 | _=>none

theorem Cr {E:Env}:∀ {vs:List V} {xs:List Value} {l:List Value},cY E vs xs→xL vs=some l→xs=l
 | [],xs,l,h,hl=>by simp [xL] at hl; subst hl; exact h.of_nil
 | v :: vs,xs,l,h,hl=>by
  obtain⟨x,ys,rfl,h1,h2⟩:=h.of_cons
  cases v with
  | sc v =>
   simp only [xL] at hl
   split at hl
   ·rename_i l' hl'
    simp only [aF] at hl; subst hl
    cases h1
    rw [Cr h2 hl']
   simp at hl
  | _=>simp [xL] at hl

theorem kE {E:Env} {v:V} {x y:Value} (h:dh E v x) (hv:fG v=some y):x=y:=by cases v with | sc v=>cases h; simpa [fG] using hv | agg cs =>(simp only [fG] at hv;split at hv;(·rename_i l hl;simp only [aF] at hv; subst hv;cases h with | agg _ _ xs hlen hr =>have:=Cr (E:=E) (xs:=xs.toList) ⟨by simpa using hlen,fun i c x hc hx=>hr i c x hc (by simpa using hx)⟩ hl;rw [← this]);simp at hv) | _=>simp [fG] at hv

def tz (P:Program) (f:Value→Sem Value) (x:V):Option V :=
 match fG x with
 | some a=>match cQ P (f a) with | some v=>some (kX v) | none=>none
 | none=>none
def eR (P:Program) (f:Value→Value→Sem Value) (x y:V):Option V :=
 match fG x with
 | some a=>match fG y with
  | some b=>match cQ P (f a b) with | some v=>some (kX v) | none=>none
  | none=>none
 | none=>none

theorem rk {P:Program} {f:Value→Sem Value} {E:Env} {w:World} {x v:V} {a:Value} (hx:dh E x a) (h:tz P f x=some v):∃ y,(f a).run P w = .ok y w∧dh E v y:=by
 unfold tz at h;split at h;·rename_i a' ha;cases kE hx ha;split at h;(·rename_i y hy;simp only [aF] at h; subst h;exact⟨y,gM _ hy w,kY E y⟩);simp at h
 simp at h
theorem ng {P:Program} {f:Value→Value→Sem Value} {E:Env} {w:World} {x y v:V} {a b:Value} (hx:dh E x a) (hy:dh E y b) (h:eR P f x y=some v) :
  ∃ z,(f a b).run P w = .ok z w∧dh E v z:=by
 unfold eR at h;split at h;·rename_i a' ha;cases kE hx ha;split at h;(·rename_i b' hb;cases kE hy hb;split at h;(·rename_i z hz;simp only [aF] at h; subst h;exact⟨z,gM _ hz w,kY E z⟩);simp at h);simp at h
 simp at h

def XA:V→Option V
 | .ptr b o=>some (.ptr b o)
 | .iy b v i o=>some (.iy b v i o)
 | .fa cs=>some (.fa cs)
 | .cX (.func f) a b=>some (.cX (.func f) a b)
 | .sc (.func (.func f) a b)=>some (.sc (.func (.func f) a b))
 | _=>none

def c5 (rows:List V) (l size:Nat):Bool:=match rows[l]? with | some row=>row.cells.length==size | none=>true

def cutAt (mem:List bm) (size:Nat) (l:Int) (h:Option Int):V→Option V
 | .slice rows =>
  if 0≤l∧l≤h.getD rows.length∧h.getD rows.length≤rows.length∧c5 rows l.toNat size=true then some (.slice ((rows.drop l.toNat).take (h.getD rows.length-l).toNat)) else none
 | .ms b v s n =>
  if 0≤l∧l≤h.getD n∧h.getD n≤n∧mD mem b v=some size then some (.ms b v (s+l.toNat) (h.getD n-l).toNat) else none
 | _=>none

def Fj:V→Option Int
 | .sc (.int _ n)=>some n
 | _=>none

def Dt (P:Program) (tt:Table) (mem:List bm) (T:TypeId) (x:V) (lo hi:Option V):Option V :=
 match x with
 | .sc a=>match lo with
  | none=>match hi with
   | none=>tz P (fun a=>Instr.sliceAt T a none none none) (.sc a)
   | some h=>eR P (fun a h=>Instr.sliceAt T a none (some h) none) (.sc a) h
  | some l=>match hi with
   | none=>eR P (fun a l=>Instr.sliceAt T a (some l) none none) (.sc a) l
   | some h=>match fG h with
    | some h=>eR P (fun a l=>Instr.sliceAt T a (some l) (some h) none) (.sc a) l
    | none=>none
 | x=>match jy tt T with
  | none=>none
  | some e=>match oN tt e with
   | none=>none
   | some size=>match lo with
    | none=>match hi with
     | none=>cutAt mem size 0 none x
     | some h=>match Fj h with | some h=>cutAt mem size 0 (some h) x | none=>none
    | some l=>match Fj l with
     | none=>none
     | some l=>match hi with
      | none=>cutAt mem size l none x
      | some h=>match Fj h with | some h=>cutAt mem size l (some h) x | none=>none

theorem rl {E:Env} {v:V} {x:Value} {n:Int} (h:dh E v x) (hv:Fj v=some n):∃ k,x = .int k n:=by
 unfold Fj at hv;split at hv;·cases h; simp at hv; subst hv; exact⟨_,rfl⟩
 simp at hv

theorem oQ {E:Env} {w:World} {a:Act} {st:St} (hs:dr E w a st) {size:Nat} {l:Int} {h:Option Int} {x v:V} {y:Value} (hx:dh E x y) (hc:cutAt st.mem size l h x=some v) :
  ∃ aa len cap,y = .slice aa len cap∧0≤l∧l≤h.getD len∧h.getD len≤len∧len≤cap ∧
   dh E v (.slice (if cap=l.toNat then aa else aa.map (·.add (l.toNat*size))) (h.getD len-l).toNat (cap-l.toNat)):=by
 unfold cutAt at hc;split at hc
 ·rename_i rows;split at hc
  ·rename_i hh;obtain⟨h0,h1,h2,h3⟩:=hh;simp only [aF] at hc; subst hc
   cases hx with
   | slice _ _ aa cap tR ad xf ha nR hz hF qd hR =>
    refine⟨aa,rows.length,cap,rfl,h0,h1,h2,nR,?_⟩
    have hlen:((rows.drop l.toNat).take (h.getD rows.length-l).toNat).length=(h.getD rows.length-l).toNat:=by simp; omega
    have hg:∀ (i:Nat) (row:V),((rows.drop l.toNat).take (h.getD rows.length-l).toNat)[i]?=some row→rows[l.toNat+i]?=some row:=fun i row hi=>by
     rw [iZ] at hi
     split at hi
     ·simpa using hi
     simp at hi
    suffices Fk:dh E (.slice ((rows.drop l.toNat).take (h.getD rows.length-l).toNat)) (.slice (if cap=l.toNat then aa else aa.map (·.add (l.toNat*size))) ((rows.drop l.toNat).take (h.getD rows.length-l).toNat).length (cap-l.toNat)) by
     rw [hlen] at Fk; exact Fk
    refine .slice _ _ _ (cap-l.toNat) tR (ad.add (l.toNat*tR)) (fun i j=>xf (l.toNat+i) j) (fun ep=>?_) (by rw [hlen]; omega) (fun i row hi=>hz _ _ (hg i row hi))
     (fun i row j c hi hj=>by rw [add_add,← oI,← jx]; exact hF _ _ _ _ (hg i row hi) hj) (fun i row j c hi hj=>qd _ _ _ _ (hg i row hi) hj) fun i row j c hi hj=>hR _ _ _ _ (hg i row hi) hj
    have ca:l.toNat<rows.length:=by
     rcases bL l.toNat rows.length with ca | ig
     ·exact ca
     exact absurd (by rw [eI ig]; simp) ep
    have N9:rows≠[]:=by rintro rfl; simp at ca
    rw [if_neg (by omega),ha N9]
    unfold c5 at h3
    rw [ak ca] at h3
    simp only [beq_iff_eq] at h3
    rw [← h3,hz _ _ (ak ca)]
    rfl
  simp at hc
 ·rename_i b v s n;split at hc;(·rename_i hh;obtain⟨h0,h1,h2,h3⟩:=hh;simp only [aF] at hc; subst hc;cases hx with | jl =>refine⟨none,0,0,rfl,h0,h1,h2,aw _,?_⟩;(have e1:l.toNat=0:=by have:((0:Nat):Int)=0:=rfl; omega);(have e2:(h.getD (0:Nat)-l).toNat=0:=by have:((0:Nat):Int)=0:=rfl; omega);rw [e1,e2];exact .jl _ _ _ _ | ms _ _ _ _ _ g e c aa cap hb hl SR Cs =>obtain rfl:=Fi hs h3 hb;refine⟨aa,n,cap,rfl,h0,h1,h2,Cs.1,?_⟩;refine .ms _ _ _ _ _ g e c _ _ hb (fun hp=>?_) (fun hz=>?_) ⟨by omega,by omega,fun hp=>by rw [if_neg (by omega),Cs.2.2 (by omega)];simp only [cA,add_lit,← jx]⟩;(·rw [if_neg (by omega),hl (by omega)];simp only [cA,add_lit,← jx]);obtain⟨h5,h6⟩:=SR (by omega);(have:l.toNat=0:=by omega);rw [this,h5];refine⟨?_,by omega⟩;split;(·rfl);simp [Addr.add]);simp at hc
 simp at hc

theorem oR {P:Program} {tt:Table} (ht:TT P tt) {T e:TypeId} {size:Nat} (he:jy tt T=some e) (hz:oN tt e=some size) (w:World) (aa:Option Addr) (len cap:Nat) (lo hi:Option Value)
  (l:Int) (h:Option Int) (oS:(lo=none∧l=0)∨∃ k,lo=some (.int k l)) (uS:(hi=none∧h=none)∨∃ k n,hi=some (.int k n)∧h=some n)
  (h0:0≤l) (h1:l≤h.getD len) (h2:h.getD len≤len) (h3:len≤cap) :
  (Instr.sliceAt T (.slice aa len cap) lo hi none).run P w = .ok (.slice (if cap=l.toNat then aa else aa.map (·.add (l.toNat*size))) (h.getD len-l).toNat (cap-l.toNat)) w:=by unfold jy at he;unfold oN at hz;cases hT:tt T with | none=>rw [hT] at he; simp at he | some iT =>rw [hT] at he; simp only at he;cases hE:tt e with | none=>rw [hE] at hz; simp at hz | some ie =>rw [hE] at hz; simp only [aF] at hz; subst hz;obtain⟨d,hd,-,Ds,-⟩:=ht.desc T iT hT;obtain rfl:=Ds e he;(have XB:∀ m:Int,(m-l).toNat=m.toNat-l.toNat:=fun m=>by omega);(rcases oS with ⟨rfl,rfl⟩ | ⟨k,rfl⟩ <;> rcases uS with ⟨rfl,rfl⟩ | ⟨k',n,rfl,rfl⟩ <;> simp only [agG,apQ] at h1 h2 ⊢ <;> simp only [Instr.sliceAt,Instr.slice,Sem.run_bind,bG hd,Result.andThen_ok,Instr.sliceBounds,Instr.sliceBound,asIntOf,Sem.run_pure,ht.sizeOf hE,aqm]);(·simp);(·rw [if_pos ⟨by omega,by omega⟩]; simp);(·rw [if_pos ⟨by omega,by omega⟩]; simp; omega);rw [if_pos ⟨by omega,by omega⟩];simp only [Sem.run_pure,Result.andThen_ok];rw [if_pos ⟨by omega,by omega⟩];simp; omega
end Go.Eng
end

section
namespace Go.Eng
variable [bg]

def ij (kind:TypeDesc) (k:Value):List (Value×Nat×V)→Nat→Option (Option (Nat×V))
 | [],_=>some none
 | e :: r,i=>match Instr.sameNow kind k e.1 with
  | some true=>some (some (i,e.2.2))
  | some false=>ij kind k r (i+1)
  | none=>none
def rm (P:Program) (T:TypeId) (k:Value):List (Value×Nat×V)→Nat→Option (Option (Nat×V))
 | [],_=>some none
 | e :: r,i=>match cQ P (Op.equal T k e.1) with
  | some true=>some (some (i,e.2.2))
  | some false=>rm P T k r (i+1)
  | none=>none
def pG (P:Program) (T:TypeId) (k:Value) (dO:List (Value×Nat×V)):Option (Option (Nat×V)) :=
 match P.underlying T with
 | some d=>match ij d k dO 0 with
  | some r=>some r
  | none=>rm P T k dO 0
 | none=>none

def Found (E:Env) (dO:List (Value×Nat×V)) (es:List MapEntry):Option (Nat×V)→Option (Nat×Value)→Prop
 | none,none=>True
 | some (i,v),some (j,x)=>i=j∧dh E v x∧∃ kb e,dO[i]?=some kb∧es[i]?=some e∧kb.2.2=v∧e.val=x
 | _,_=>False

theorem gH.get {E:Env} {dO:List (Value×Nat×V)} {es:List MapEntry} (h:gH E dO es) {i:Nat} {kb:Value×Nat×V} (hk:dO[i]?=some kb):∃ e,es[i]?=some e∧e.key=kb.1∧e.born=kb.2.1∧dh E kb.2.2 e.val:=by
 have hi:i<es.length:=by rw [← h.1]; exact (az.1 hk).1
 exact⟨es[i],ak hi,h.2 i kb _ hk (ak hi)⟩
theorem gH.drop {E:Env} {dO:List (Value×Nat×V)} {es:List MapEntry} (h:gH E dO es) (n:Nat):gH E (dO.drop n) (es.drop n) :=
 ⟨by simp [h.1],fun i k e hk he=>h.2 (n+i) k e (by simpa using hk) (by simpa using he)⟩
theorem gH.of_nil {E:Env} {es:List MapEntry} (h:gH E [] es):es=[]:=by have:=h.1; simp at this; exact cC.1 this.symm
theorem gH.of_cons {E:Env} {k:Value×Nat×V} {r:List (Value×Nat×V)} {es:List MapEntry} (h:gH E (k :: r) es):∃ e es',es=e :: es'∧e.key=k.1∧e.born=k.2.1∧dh E k.2.2 e.val∧gH E r es':=by cases es with | nil=>have:=h.1; simp at this | cons e es' =>obtain⟨h1,h2,h3⟩:=h.2 0 k e rfl rfl;exact⟨e,es',rfl,h1,h2,h3,by have:=h.1; simpa using this,fun i k' e' hk he=>h.2 (i+1) k' e' (by simpa using hk) (by simpa using he)⟩

theorem zq {E:Env} {kind:TypeDesc} {k:Value} {dO:List (Value×Nat×V)} {es:List MapEntry} (h:gH E dO es):∀ (n:Nat) {r:Option (Nat×V)},ij kind k (dO.drop n) n=some r →
  ∃ r',Instr.findNow kind k (es.drop n) n=some r'∧Found E dO es r r':=by intro n;generalize hl:dO.length-n=m;induction m generalizing n with | zero =>intro r hr;have h1:dO.drop n=[]:=eI (by omega);have h2:es.drop n=[]:=eI (by have:=h.1; omega);rw [h1] at hr; rw [h2];simp only [ij,aF] at hr; subst hr;exact⟨none,rfl,trivial⟩ | succ m ih =>intro r hr;(have hn:n<dO.length:=by omega);(have VY:n<es.length:=by have:=h.1; omega);rw [dp hn] at hr;rw [dp VY];have hk:=ak hn;have he:=ak VY;obtain⟨h1,h2,h3⟩:=h.2 n _ _ hk he;simp only [ij] at hr;simp only [Instr.findNow,h1];split at hr;(·rename_i hs; rw [hs]; simp only [aF] at hr; subst hr;exact⟨_,rfl,rfl,h3,_,_,hk,he,rfl,rfl⟩);(·rename_i hs; rw [hs]; exact ih (n+1) (by omega) hr);cases hr
theorem BW {E:Env} {kind:TypeDesc} {k:Value} {dO:List (Value×Nat×V)} {es:List MapEntry} (h:gH E dO es):∀ (n:Nat),ij kind k (dO.drop n) n=none→Instr.findNow kind k (es.drop n) n=none:=by intro n;generalize hl:dO.length-n=m;induction m generalizing n with | zero =>intro hr;have h1:dO.drop n=[]:=eI (by omega);rw [h1] at hr;simp [ij] at hr | succ m ih =>intro hr;(have hn:n<dO.length:=by omega);(have VY:n<es.length:=by have:=h.1; omega);rw [dp hn] at hr;rw [dp VY];obtain⟨h1,h2,h3⟩:=h.2 n _ _ (ak hn) (ak VY);simp only [ij] at hr;simp only [Instr.findNow,h1];split at hr;(·cases hr);(·rename_i hs; rw [hs]; exact ih (n+1) (by omega) hr);rename_i hs; rw [hs]
theorem zr {P:Program} {E:Env} {T:TypeId} {k:Value} {dO:List (Value×Nat×V)} {es:List MapEntry} (h:gH E dO es) (w:World):∀ (n:Nat) {r:Option (Nat×V)},rm P T k (dO.drop n) n=some r →
  ∃ r',(Instr.findAsking T k (es.drop n) n).run P w = .ok r' w∧Found E dO es r r':=by intro n;generalize hl:dO.length-n=m;induction m generalizing n with | zero =>intro r hr;have h1:dO.drop n=[]:=eI (by omega);have h2:es.drop n=[]:=eI (by have:=h.1; omega);rw [h1] at hr; rw [h2];simp only [rm,aF] at hr; subst hr;exact⟨none,rfl,trivial⟩ | succ m ih =>intro r hr;(have hn:n<dO.length:=by omega);(have VY:n<es.length:=by have:=h.1; omega);rw [dp hn] at hr;rw [dp VY];have hk:=ak hn;have he:=ak VY;obtain⟨h1,h2,h3⟩:=h.2 n _ _ hk he;simp only [rm] at hr;simp only [Instr.findAsking,h1,Sem.run_bind];split at hr;(·rename_i hs; rw [gM _ hs w]; simp only [aF] at hr; subst hr;exact⟨_,rfl,rfl,h3,_,_,hk,he,rfl,rfl⟩);(·rename_i hs; rw [gM _ hs w];simpa using ih (n+1) (by omega) hr);cases hr
theorem iF {P:Program} {E:Env} {T:TypeId} {k:Value} {dO:List (Value×Nat×V)} {es:Array MapEntry} (h:gH E dO es.toList) (w:World) {r:Option (Nat×V)} (hr:pG P T k dO=some r) :
  ∃ r',(Instr.findKey T k es.toList).run P w = .ok r' w∧Found E dO es.toList r r':=by
 unfold pG at hr;split at hr;·rename_i d hd;simp only [Instr.findKey,Sem.run_bind,bG hd,Result.andThen_ok];split at hr;(·rename_i r1 h1;simp only [aF] at hr; subst hr;obtain⟨r',h2,h3⟩:=zq h 0 (r:=r1) (by simpa using h1);simp only [xJ] at h2;rw [h2];exact⟨r',rfl,h3⟩);rename_i h1;have h2:=BW h 0 (by simpa using h1);simp only [xJ] at h2;rw [h2];simpa using zr h w 0 (r:=r) (by simpa using hr)
 cases hr

def tA (P:Program) (T:TypeId) (k:Value):Bool :=
 match P.underlying T with
 | some (.int _)=>true
 | some .string=>true
 | some .bool=>true
 | _=>match cQ P (Instr.checkKey false 10000 T k),cQ P (Instr.checkKey true 10000 T k) with
  | some _,some _=>true
  | _,_=>false
theorem oT {P:Program} {T:TypeId} {k:Value} (h:tA P T k=true) (b:Bool) (w:World):(Instr.checkKey b 10000 T k).run P w = .ok () w:=by
 unfold tA at h;have XC:∀ d,P.underlying T=some d→(∀ m,d ≠ .interface m)→(∀ n e,d ≠ .array n e)→(∀ fs,d ≠ .struct fs)→(Instr.checkKey b 10000 T k).run P w = .ok () w:=by intro d hd h1 h2 h3;show (Instr.checkKey b (9999+1) T k).run P w=_;rw [Instr.checkKey];simp only [Sem.run_bind,bG hd,Result.andThen_ok];cases d <;> first | (cases k <;> rfl) | exact absurd rfl (h1 _) | exact absurd rfl (h2 _ _) | exact absurd rfl (h3 _)
 split at h;·rename_i hd; exact XC _ hd (by simp) (by simp) (by simp)
 ·rename_i hd; exact XC _ hd (by simp) (by simp) (by simp)
 ·rename_i hd; exact XC _ hd (by simp) (by simp) (by simp)
 split at h;·rename_i h1 h2;cases b;(·exact gM _ h1 w);exact gM _ h2 w
 cases h

def zeroV (P:Program) (T:TypeId):Option V :=
 match P.info? T with
 | some i=>match i.zero with | some z=>some (kX z) | none=>none
 | none=>none
theorem rn {P:Program} {T:TypeId} {v:V} (h:zeroV P T=some v) (E:Env) (w:World):∃ z,(zeroValue T).run P w = .ok z w∧dh E v z:=by
 unfold zeroV at h;split at h;·rename_i i hi;split at h;(·rename_i z hz;cases h;exact⟨z,by simp [zeroValue,hY hi,hz],kY E z⟩);cases h
 cases h
def jh (P:Program) (T:TypeId):Option (TypeId×TypeId):=match P.underlying T with | some (.map k e)=>some (k,e) | _=>none
theorem ll {P:Program} {T kt et:TypeId} (h:jh P T=some (kt,et)):P.underlying T=some (.map kt et):=by
 unfold jh at h;split at h;·rename_i hd; cases h; exact hd
 cases h

def SS (ok b:Bool) (v:V):V:=if ok=true then .eV [v,.sc (.bool b)] else v
theorem Du {E:Env} {v:V} {x:Value} (h:dh E v x) (ok b:Bool):dh E (SS ok b v) (if ok=true then .tuple #[x,.bool b] else x):=by
 unfold SS;split;·refine .eV _ _ _ rfl fun i c y hc hy=>?_;match i with | 0=>simp at hc hy; subst hc; subst hy; exact h | 1=>simp at hc hy; subst hc; subst hy; exact .sc _ _ | i+2=>simp at hc
 exact h
def pH (P:Program) (mem:List bm) (kt et:TypeId) (m:V) (key:Value) (ok:Bool):Option V :=
 match m with
 | .mp b=>match mem[b]? with
  | some (.map dO _)=>match pG P kt key dO with
   | some (some (_,v))=>some (SS ok true v)
   | some none=>match zeroV P et with | some z=>some (SS ok false z) | none=>none
   | none=>none
  | _=>none
 | .sc (.map none)=>match pG P kt key [] with
  | some none=>match zeroV P et with | some z=>some (SS ok false z) | none=>none
  | _=>none
 | _=>none
def kF (P:Program) (mem:List bm) (T:TypeId) (m i:V) (ok:Bool):Option V :=
 match jh P T with
 | some (kt,et)=>match fG i with
  | some key=>if tA P kt key=true then pH P mem kt et m key ok else none
  | none=>none
 | none=>none

theorem tT {E:Env} {b:Nat} {x:Value} (h:dh E (.mp b) x):∃ g e c,x = .map (some g)∧E.cI b 0=some (g,e,c):=by cases h with | mp _ _ l e c hb=>exact⟨l,e,c,rfl,hb⟩
theorem mZ {E:Env} {w:World} {a:Act} {st:St} (hs:dr E w a st) {b:Nat} {dO:List (Value×Nat×V)} {clock:Nat} (hm:st.mem[b]?=some (.map dO clock)) {g e c:Nat} (hb:E.cI b 0=some (g,e,c)) :
  ∃ es,w.heap[g]?=some (.map es clock)∧gH E dO es.toList∧(∀ o,E.F ⟨g,o,none⟩=none)∧(e,c)=(0,0):=by obtain⟨g',es,h1,h2,h3,h4⟩:=hs.mem b _ hm;rw [hb] at h1; cases h1;exact⟨es,h2,h3,h4,rfl⟩
theorem fZ {P:Program} {w:World} {g:Nat} {es:Array MapEntry} {clock:Nat} (h:w.heap[g]?=some (.map es clock)):(getObj g).run P w = .ok (.map es clock) w:=by simp [getObj,Sem.run,h]
theorem jE {P:Program} {w:World} {g:Nat} {o o':Obj} (h:w.heap[g]?=some o) (hc:∀ a b c,o ≠ .cells a b c):(setObj g o').run P w = .ok () { w with heap:=w.heap.setIfInBounds g o' }:=by unfold setObj;rw [Sem.run,h];cases o <;> first | rfl | exact absurd rfl (hc _ _ _)

theorem sy {E:Env} {v y:Value} (h:dh E (.sc v) y):y=v:=by cases h; rfl
theorem BX {P:Program} {E:Env} {w:World} {a:Act} {st:St} (hs:dr E w a st) {T:TypeId} {m i v:V} {ok:Bool} {x y:Value} (hm:dh E m x) (hi:dh E i y) (h:kF P st.mem T m i ok=some v) :
  ∃ z,(Instr.lookup T x y ok).run P w = .ok z w∧dh E v z:=by
 unfold kF at h;split at h;·rename_i kt et hd;have hd:=ll hd;split at h;(·rename_i key fT;cases kE hi fT;split at h;(·rename_i fU;have NU:=fun b=>oT fU b w;unfold pH at h;split at h;(·rename_i b;obtain⟨g,e,c,rfl,hb⟩:=tT hm;split at h;(·rename_i dO clock hB;obtain⟨es,hh,hr,-⟩:=mZ hs hB hb;split at h;(·rename_i j u hf;obtain⟨r',h1,h2⟩:=iF hr w hf;match r',h2 with | some (j',z),h2 =>cases h;exact⟨_,by simp [Instr.lookup,bG hd,fZ hh,NU,h1],Du h2.2.1 ok true⟩);(·rename_i hf;obtain⟨r',h1,h2⟩:=iF hr w hf;match r',h2 with | none,h2 =>split at h;(·rename_i z hz;cases h;obtain⟨z',h3,h4⟩:=rn hz E w;exact⟨_,by simp [Instr.lookup,bG hd,fZ hh,NU,h1,h3],Du h4 ok false⟩);cases h);cases h);cases h);(·obtain rfl:=sy hm;split at h;(·rename_i hf;obtain⟨r',h1,h2⟩:=iF (E:=E) (es := #[]) ⟨rfl,fun i k e h=>by simp at h⟩ w hf;match r',h2 with | none,h2 =>split at h;(·rename_i z hz;cases h;obtain⟨z',h3,h4⟩:=rn hz E w;exact⟨_,by simp at h1; simp [Instr.lookup,bG hd,NU,h1,h3],Du h4 ok false⟩);cases h);cases h);cases h);cases h);cases h
 cases h
def wR (mem:List bm) (ts:Array TypeId) (P:Program):List V→Option V
 | [.mp b]=>match mem[b]? with
  | some (.map dO _)=>match ts[0]? with
   | some T=>match jh P T with | some _=>some (.sc (.int .i64 dO.length)) | none=>none
   | none=>none
  | _=>none
 | _=>none
theorem Iq {P:Program} {E:Env} {w:World} {a:Act} {st:St} (hs:dr E w a st) {ts:Array TypeId} {ty:TypeId} {xs:List V} {v:V} {ys:Array Value} (hx:cY E xs ys.toList) (h:wR st.mem ts P xs=some v) :
  ∃ z,(Builtin.len_ ts ty ys).run P w = .ok z w∧dh E v z:=by
 unfold wR at h;split at h;·rename_i b;split at h;(·rename_i dO clock hB;split at h;(·rename_i T h0;split at h;(·rename_i p hp;cases h;obtain⟨kt,et⟩:=p;have hd:=ll hp;obtain⟨x,r,hy,h1,h2⟩:=hx.of_cons;have:=h2.of_nil; subst this;(obtain rfl:ys = #[x]:=by rw [← di (xs:=ys),hy]);obtain⟨g,e,c,rfl,hb⟩:=tT h1;obtain⟨es,hh,hr,-⟩:=mZ hs hB hb;refine⟨.int .i64 es.size,by simp [Builtin.len_,h0,bG hd,fZ hh,goInt],?_⟩;(have:dO.length=es.size:=by simpa using hr.1);rw [this]; exact .sc _ _);cases h);cases h);cases h
 cases h
def LY (mem:List bm) (it:V):Option V :=
 match it with
 | .ptr b 0=>match mem[b]? with
  | some (.jO m _ seen last)=>match mem[m]? with
   | some (.map dO clock)=>if clock=last then (match seen.getLast? with
    | some Fl=>match dO.find? (fun e=>e.2.1==Fl) with
     | some e=>some (.eV [kX e.1,e.2.2])
     | none=>none
    | none=>none) else none
   | _=>none
  | _=>none
 | _=>none
theorem gH.find {E:Env} (p:Nat→Bool):∀ {dO:List (Value×Nat×V)} {es:List MapEntry} {k:Value×Nat×V},gH E dO es→dO.find? (fun e=>p e.2.1)=some k→∃ e,es.find? (fun e=>p e.born)=some e∧e.key=k.1∧dh E k.2.2 e.val
 | [],es,k,h,hf=>by simp at hf
 | c :: r,es,k,h,hf=>by
  obtain⟨e,es',rfl,h1,h2,h3,h4⟩:=h.of_cons
  rw [List.find?_cons] at hf ⊢
  rw [h2]
  split at hf
  ·rename_i hp; cases hf; exact⟨e,rfl,h1,h3⟩
  exact gH.find p h4 hf
theorem Ir {P:Program} {E:Env} {w:World} {a:Act} {st:St} (hs:dr E w a st) {it v:V} {x:Value} (hi:dh E it x) (h:LY st.mem it=some v):∃ z,(Instr.entry x).run P w = .ok z w∧dh E v z:=by
 unfold LY at h;split at h;·rename_i b;split at h;(·rename_i m since seen last hB;split at h;(·rename_i dO clock hM;split at h;(·rename_i o8;split at h;(·rename_i Fl wS;split at h;(·rename_i e he;cases h;obtain⟨g,gm,em,cm,hb,SU,hh,hf⟩:=hs.mem b _ hB;obtain⟨es,hhm,hr,hfm,h0⟩:=mZ hs hM SU;cases hi with | ptr _ _ _ g' e' c' kc =>rw [hb] at kc; cases kc;(have j1:(getObj g).run P w = .ok (.mapIter (some gm) since seen.toArray last) w:=by simp [getObj,Sem.run,hh]);obtain⟨en,h1,h2,h3⟩:=gH.find (fun n=>n==Fl) hr he;(have abw:seen.toArray.back?=some Fl:=by simpa using wS);(have Fm:es.find? (fun e=>e.born==Fl)=some en:=by rw [← List.find?_toArray,di] at h1; exact h1);refine⟨.tuple #[en.key,en.val],?_,?_⟩;(·subst o8;simp only [Instr.entry,Sem.run_bind,j1,Result.andThen_ok,abw,fZ hhm,bne_self_eq_false,cf,if_false,Fm];rfl);refine .eV _ _ _ rfl fun i c y hc hy=>?_;match i with | 0=>simp at hc hy; subst hc; subst hy; rw [h2]; exact kY E _ | 1=>simp at hc hy; subst hc; subst hy; exact h3 | i+2=>simp at hc);cases h);cases h);cases h);cases h);cases h
 cases h
end Go.Eng
end

section
namespace Go.Eng
variable [bg]

theorem gN {E:Env} {v y:Value} (h:dh E (.sc v) y):y=v:=by cases h; rfl

theorem Is {P:Program} {tt:Table} (ht:TT P tt) {E:Env} {w:World} {a:Act} {st:St} (hs:dr E w a st) {T:TypeId} {x v:V} {lo hi:Option Operand} {y:Value} (hx:dh E x y)
  (h:Dt P tt st.mem T x (lo.map st.eval) (hi.map st.eval)=some v):∃ z,(Instr.sliceAt T y (lo.map a.eval) (hi.map a.eval) none).run P w = .ok z w∧dh E v z:=by
 unfold Dt at h;split at h;·cases lo with | none =>(cases hi with | none=>exact rk hx h | some hi=>exact ng (f:=fun a h=>Instr.sliceAt T a none (some h) none) hx (hs.eval hi) h) | some lo =>cases hi with | none=>exact ng (f:=fun a l=>Instr.sliceAt T a (some l) none none) hx (hs.eval lo) h | some hi =>simp only [cA] at h ⊢;split at h;(·rename_i hv hhv;rw [kE (hs.eval hi) hhv];exact ng (f:=fun a l=>Instr.sliceAt T a (some l) (some hv) none) hx (hs.eval lo) h);simp at h
 split at h;·simp at h
 rename_i e he;split at h;·simp at h
 rename_i size hz;cases lo with | none =>(cases hi with | none =>obtain⟨aa,len,cap,rfl,h0,h1,h2,h3,hr⟩:=oQ hs hx h;exact⟨_,oR ht he hz w aa len cap none none 0 none (.inl ⟨rfl,rfl⟩) (.inl ⟨rfl,rfl⟩) h0 h1 h2 h3,hr⟩ | some hi =>simp only [cA,apx] at h ⊢;split at h;(·rename_i n hn;obtain⟨k,hk⟩:=rl (hs.eval hi) hn;obtain⟨aa,len,cap,rfl,h0,h1,h2,h3,hr⟩:=oQ hs hx h;exact⟨_,oR ht he hz w aa len cap none _ 0 (some n) (.inl ⟨rfl,rfl⟩) (.inr ⟨k,n,by rw [hk],rfl⟩) h0 h1 h2 h3,hr⟩);simp at h) | some lo =>simp only [cA] at h ⊢;split at h;(·simp at h);rename_i l hl;obtain⟨k,hk⟩:=rl (hs.eval lo) hl;cases hi with | none =>simp only [apx] at h ⊢;obtain⟨aa,len,cap,rfl,h0,h1,h2,h3,hr⟩:=oQ hs hx h;exact⟨_,oR ht he hz w aa len cap _ none l none (.inr ⟨k,by rw [hk]⟩) (.inl ⟨rfl,rfl⟩) h0 h1 h2 h3,hr⟩ | some hi =>simp only [cA] at h ⊢;split at h;(·rename_i n hn;obtain⟨k',iQ⟩:=rl (hs.eval hi) hn;obtain⟨aa,len,cap,rfl,h0,h1,h2,h3,hr⟩:=oQ hs hx h;exact⟨_,oR ht he hz w aa len cap _ _ l (some n) (.inr ⟨k,by rw [hk]⟩) (.inr ⟨k',n,by rw [iQ],rfl⟩) h0 h1 h2 h3,hr⟩);simp at h

def o9:List V→Option (List Value)
 | []=>some []
 | v :: r=>match fG v with
  | some x=>match o9 r with | some l=>some (x :: l) | none=>none
  | none=>none
theorem qe {E:Env}:∀ {vs:List V} {xs l:List Value},cY E vs xs→o9 vs=some l→xs=l
 | [],xs,l,h,hl=>by simp [o9] at hl; subst hl; exact h.of_nil
 | v :: vs,xs,l,h,hl=>by
  obtain⟨x,ys,rfl,h1,h2⟩:=h.of_cons
  simp only [o9] at hl
  split at hl
  ·rename_i x' SQ
   split at hl
   ·rename_i l' hl'
    simp only [aF] at hl; subst hl
    rw [kE h1 SQ,qe h2 hl']
   simp at hl
  simp at hl

def j5 (P:Program) (f:Array Value→Sem Value) (xs:List V):Option V :=
 match o9 xs with
 | some l=>match cQ P (f l.toArray) with | some v=>some (kX v) | none=>none
 | none=>none

theorem dr.pI {E:Env} {w:World} {a:Act} {st:St} (hs:dr E w a st) (xs:Array Operand):cY E (xs.toList.map st.eval) (xs.map a.eval).toList:=by refine⟨by simp,fun i v x hv hx=>?_⟩;simp only [ae,Array.toList_map,bA] at hv hx;obtain⟨o,ho,rfl⟩:=hv;obtain⟨o',VZ,rfl⟩:=hx;rw [ho] at VZ; cases VZ;exact hs.eval o

def Dv (P:Program) (tt:Table) (ts:Array TypeId) (ty:TypeId):List V→Option V
 | [.slice rows]=>match ts[0]? with
  | some t=>match jy tt t with | some _=>some (.sc (.int .i64 rows.length)) | none=>none
  | none=>none
 | [.ms _ _ _ l]=>match ts[0]? with
  | some t=>match jy tt t with | some _=>some (.sc (.int .i64 l)) | none=>none
  | none=>none
 | xs=>j5 P (Builtin.len_ ts ty) xs

def alj (tt:Table) (S:TypeId) (f:Nat) (T:TypeId) (x:V):Option V :=
 match x with
 | .agg cs=>match Tq tt S f with
  | some off=>jR tt T (cs.drop off)
  | none=>none
 | _=>none

def LZ (k:Int):Bool:=match bg.κ k with | some b=>b | none=>decide (k≤bg.n)
theorem Dw (k:Int):LZ k=decide (k≤bg.n):=by
 unfold LZ;split;·rename_i b h; exact (bg.ok k b h).symm
 rfl
def KA (op:BinOp) (x y:V):Option V :=
 match y with
 | .gn=>match op,x with
  | .leq,.sc (.int .i64 k)=>some (.sc (.bool (LZ k)))
  | .gtr,.sc (.int .i64 k)=>some (.sc (.bool (!LZ k)))
  | _,_=>none
 | _=>none
theorem Fp {P:Program} {E:Env} {w:World} {op:BinOp} {T:TypeId} {x y v:V} {a b:Value} (xo yo:Operand) (hx:dh E x a) (hy:dh E y b) (h:KA op x y=some v) :
  ∃ z,(do eqGuard op T xo yo a b; binOp op T a b:Sem Value).run P w = .ok z w∧dh E v z:=by
 unfold KA at h;split at h;·cases hy;split at h;(·rename_i k;cases h;cases hx;refine⟨.bool (decide (k≤bg.n)),by simp [binOp,Op.intCmp,eqGuard],by rw [Dw]; exact .sc _ _⟩);(·rename_i k;cases h;cases hx;refine⟨.bool (decide (k>bg.n)),by simp [binOp,Op.intCmp,eqGuard],?_⟩;(have:(!LZ k)=decide (k>bg.n):=by rw [Dw];by_cases h:k≤bg.n;(·rw [decide_eq_true h,decide_eq_false (by omega)]; rfl);rw [decide_eq_false h,decide_eq_true (by omega)]; rfl);rw [this]; exact .sc _ _);cases h
 cases h
def wT (P:Program) (op:BinOp) (T:TypeId) (y:V):Option V :=
 match y with
 | .sc (.pointer none)=>match P.underlying T with
  | some (.pointer _)=>match op with
   | .eql=>some (.sc (.bool false))
   | .neq=>some (.sc (.bool true))
   | _=>none
  | _=>none
 | _=>none
def Dx (P:Program) (op:BinOp) (T:TypeId) (x y:V):Option V :=
 match x with
 | .fa _=>wT P op T y
 | .ptr _ _=>wT P op T y
 | .iy _ _ _ _=>wT P op T y
 | _=>none
theorem Dy {P:Program} {E:Env} {w:World} {op:BinOp} {T:TypeId} {x y v:V} {a b:Value} (xo yo:Operand) (hx:dh E x a) (hy:dh E y b) (h:Dx P op T x y=some v) :
  ∃ z,(do eqGuard op T xo yo a b; binOp op T a b:Sem Value).run P w = .ok z w∧dh E v z:=by
 have key:∀ ad:Addr,a = .pointer (some ad)→wT P op T y=some v→∃ z,(do eqGuard op T xo yo a b; binOp op T a b:Sem Value).run P w = .ok z w∧dh E v z:=by rintro ad rfl h;unfold wT at h;split at h;(·split at h;(·rename_i e hT;cases hy;(have he:(Op.equal T (.pointer (some ad)) (.pointer none)).run P w = .ok false w:=by show (Op.equalIn (9999+1) T _ _).run P w=_;unfold Op.equalIn;simp [bG hT]);split at h;(·cases h;exact⟨.bool false,by simp [binOp,eqGuard,he],.sc _ _⟩);(·cases h;exact⟨.bool true,by simp [binOp,eqGuard,he],.sc _ _⟩);cases h);cases h);cases h
 unfold Dx at h;split at h;·cases hx with | fa _ _ ad xf hF hR=>exact key ad rfl h
 ·cases hx with | ptr _ _ _ g e c hb=>exact key _ rfl h
 ·cases hx with | iy _ _ _ _ _ g e c hb=>exact key _ rfl h
 cases h
def lU:List V→Option (List Int)
 | []=>some []
 | .sc (.int .u8 n) :: r=>match lU r with | some l=>some (n :: l) | none=>none
 | _=>none
def qf (P:Program) (s d:TypeId) (rows:List V):Option V :=
 match P.underlying s with
 | some (.slice e)=>match P.underlying e with
  | some (.int .u8)=>match P.underlying d with
   | some .string=>match lU rows with | some ns=>some (.sc (.string (strOfNums ns))) | none=>none
   | _=>none
  | _=>none
 | _=>none
def uT (P:Program) (mem:List bm) (s d:TypeId):V→Option V
 | .slice rows=>qf P s d rows
 | .ms b v o l=>match mem[b]? with
  | some (.rows v' e rs)=>if v'=v∧e=1∧o+l≤rs.length then qf P s d ((rs.drop o).take l) else none
  | some (.uR v' e rs)=>if v'=v∧e=1∧o+l≤rs.length then qf P s d ((rs.drop o).take l) else none
  | _=>none
 | x=>tz P (convert s d) x
theorem Oa (P:Program) (mem:List bm) (s d:TypeId) (x:Value):uT P mem s d (.sc x)=tz P (convert s d) (.sc x):=rfl
theorem Fq {P:Program} {mem:List bm} {s d e:TypeId} {rows:List V} {ns:List Int} (hs:P.underlying s=some (.slice e)) (he:P.underlying e=some (.int .u8)) (hd:P.underlying d=some .string) (hb:lU rows=some ns) :
  uT P mem s d (.slice rows)=some (.sc (.string (strOfNums ns))):=by simp only [uT,qf,hs,he,hd,hb]
theorem qO:∀ {rows:List V} {ns:List Int},lU rows=some ns→ns.length=rows.length
 | [],ns,h=>by simp [lU] at h; subst h; rfl
 | r :: rs,ns,h=>by
  unfold lU at h
  split at h
  ·rename_i heq; exact absurd heq (by simp)
  ·rename_i n l heq
   cases heq
   split at h
   ·rename_i l' hl
    cases h
    simp [qO hl]
   cases h
  cases h
theorem nT:∀ {rows:List V} {ns:List Int},lU rows=some ns→∀ (i:Nat) (r:V),rows[i]?=some r→r = .sc (.int .u8 (ns.getD i 0))
 | [],ns,h,i,r,hr=>by simp at hr
 | r0 :: rs,ns,h,i,r,hr=>by
  unfold lU at h
  split at h
  ·rename_i heq; exact absurd heq (by simp)
  ·rename_i n l heq
   cases heq
   split at h
   ·rename_i l' hl
    cases h
    cases i with
    | zero=>simp at hr; subst hr; rfl
    | succ i=>exact nT hl i r (by simpa using hr)
   cases h
  cases h
theorem qg {P:Program} {w:World} {E:Env} {s d:TypeId} {rows:List V} {v:V} {aa:Option Addr} {cap:Nat} (h:qf P s d rows=some v) (hn:rows≠[]→∃ g o,aa=some ⟨g,o,none⟩∧∀ (i:Nat) (r:V),rows[i]?=some r→∃ x,w.cell? ⟨g,o+i,none⟩=some x∧dh E r x) :
  ∃ y,(convert s d (.slice aa rows.length cap)).run P w = .ok y w∧dh E v y:=by
 unfold qf at h;split at h;·rename_i e hs;split at h;(·rename_i he;split at h;(·rename_i hd;split at h;(·rename_i ns hb;cases h;refine⟨_,?_,.sc _ _⟩;have hl:=qO hb;cases rows with | nil =>(have:ns=[]:=cC.1 hl;subst this;rw [run_convert_bytes_string w s d e aa _ cap hs he hd];cases aa with | none=>simp [Conv.bytesToString]; rfl | some a0 =>have:=run_bytesToString (P:=P) w a0 0 cap [] (by simp [loadCells,loadCellsFrom]);have e0:strOfNums []=ByteArray.empty:=rfl;rw [e0];simpa using this) | cons r0 rr =>obtain⟨g,o,rfl,hc⟩:=hn (by simp);refine run_convert_bytes_arg w s e hs he g o _ cap ns hl (fun i hi=>?_) d hd;obtain⟨x,hx,hr⟩:=hc i _ (ak hi);rw [hx,nT hb i _ (ak hi)] at *;rw [gN hr]);cases h);cases h);cases h
 cases h
theorem xM {P:Program} {s d:TypeId} {rows:List V} {v:V} (h:qf P s d rows=some v):∃ ns,lU rows=some ns:=by
 unfold qf at h;split at h;·split at h;(·split at h;(·split at h;(·rename_i ns hb; exact⟨ns,hb⟩);cases h);cases h);cases h
 cases h
theorem L0 {w:World} {ad:Addr} {x:Value} (h:w.cell? ad=some x):ad.spot=none:=by
 unfold World.cell? at h;split at h;·split at h;(·simp at h);rename_i h1; cases hs:ad.spot with | none=>rfl | some s=>simp [hs] at h1
 simp at h
theorem Fs {P:Program} {E:Env} {w:World} {a:Act} {st:St} (hs:dr E w a st) {s d:TypeId} {x v:V} {y:Value} (hx:dh E x y) (h:uT P st.mem s d x=some v):∃ z,(convert s d y).run P w = .ok z w∧dh E v z:=by
 have ms:∀ (b v' o l e:Nat) (rs:List V),dh E (.ms b v' o l) y→e=1→o+l≤rs.length→(∀ g e' c,E.cI b v'=some (g,e',c)→e'=e∧mC E.pure e rs (fun k=>w.cell? ⟨g,k,none⟩)) →
   qf P s d ((rs.drop o).take l)=some v→∃ z,(convert s d y).run P w = .ok z w∧dh E v z:=by
  intro b v' o l e rs hr he hl nh hb
  obtain⟨ns,Ob⟩:=xM hb
  have hlen:((rs.drop o).take l).length=l:=by simp; omega
  cases hr with
  | jl =>
   have h0:(rs.drop o).take 0=[]:=e8
   rw [h0] at hb
   exact qg (aa:=none) (cap:=0) (w:=w) (E:=E) hb (fun ep=>absurd rfl ep)
  | ms _ _ _ _ _ g e' c aa cap gi hla SR Cs =>
   have kc:=hb
   rw [← hlen]
   refine qg hb fun ep=>?_
   have XD:0<l:=by
    rcases apW l with h0 | h0
    ·subst h0; exact absurd e8 ep
    exact h0
   obtain⟨XE,XF⟩:=nh g e' c gi
   subst he
   subst XE
   refine⟨g,o*1,hla XD,fun i r hi=>?_⟩
   have hi':rs[o+i]?=some r:=by
    rw [iZ] at hi
    split at hi
    ·simpa using hi
    simp at hi
   obtain⟨-,h2⟩:=XF _ r hi'
   have It:=nT Ob i r hi
   obtain⟨x,hx,-,Oc⟩:=h2 0 r (by rw [It]; rfl)
   refine⟨x,?_,Oc.mono (Env.sx E)⟩
   have:(o+i)*1+0=o*1+i:=by omega
   rw [← this]; exact hx
 unfold uT at h;split at h;·rename_i rows;obtain⟨ns,Ob⟩:=xM h;cases hx with | slice _ _ aa cap tR ad xf ha nR hz hF qd hR =>refine qg h fun ep=>?_;(have key:∀ (i:Nat) (r:V),rows[i]?=some r→∃ x,w.cell? (ad.add i)=some x∧dh E r x:=fun i r hi=>by have It:=nT Ob i r hi;(have hc:r.cells=[r]:=by rw [It]; rfl);(have he:tR=1:=by rw [← hz i r hi,hc]; rfl);have h1:=hF i r 0 r hi (by rw [hc]; rfl);have h2:=hR i r 0 r hi (by rw [hc]; rfl);rw [he,Nat.mul_one,kC] at h1;exact⟨_,hs.F _ _ h1,h2.mono (Env.sx E)⟩);(obtain⟨r0,h0⟩:∃ r0,rows[0]?=some r0:=by cases rows with | nil=>exact absurd rfl ep | cons r0 rr=>exact⟨r0,rfl⟩);obtain⟨x0,KB,-⟩:=key 0 r0 h0;(have abx:ad.add 0=ad:=by simp [Addr.add]);have NV:=L0 KB;rw [abx] at NV;obtain⟨g,o,sp⟩:=ad;obtain rfl:sp=none:=NV;refine⟨g,o,ha ep,fun i r hi=>?_⟩;obtain⟨x,hx,hr⟩:=key i r hi;exact⟨x,by rw [← hx]; congr 1; unfold Addr.add; by_cases h0:i=0 <;> simp [h0],hr⟩
 ·rename_i b v' o l;split at h;(·rename_i v1 e rs hm;split at h;(·rename_i hc;obtain⟨rfl,rfl,hl⟩:=hc;refine ms b v1 o l 1 rs hx rfl hl (fun g e' c gi=>?_) h;(rcases hs.mem b _ hm with ⟨ahs,hn⟩ | ⟨g',T,xs,c',kc,hh,-,-,nh,-⟩);(·rw [hn] at gi; cases gi);rw [kc] at gi; cases gi;refine⟨rfl,fun i row hi=>?_⟩;obtain⟨h1,h2⟩:=nh i row hi;refine⟨h1,fun j cc hj=>?_⟩;obtain⟨x,hx,h3⟩:=h2 j cc hj;exact⟨x,(oP hh _).trans hx,h3⟩);cases h);(·rename_i v1 e rs hm;split at h;(·rename_i hc;obtain⟨rfl,rfl,hl⟩:=hc;refine ms b v1 o l 1 rs hx rfl hl (fun g e' c gi=>?_) h;(rcases hs.mem b _ hm with ⟨ahs,hn⟩ | ⟨g',c',kc,-,nh⟩);(·rw [hn] at gi; cases gi);rw [kc] at gi; cases gi;refine⟨rfl,fun i row hi=>?_⟩;obtain⟨h1,h2⟩:=nh i row hi;refine⟨h1,fun j cc hj=>?_⟩;obtain⟨x,hx,h3⟩:=h2 j cc hj;exact⟨x,hs.F _ _ hx,h3⟩);cases h);cases h
 exact rk hx h
def re (op:BinOp) (T:TypeId) (x y:Operand):Value→Value→Sem Value:=fun u v=>do eqGuard op T x y u v; binOp op T u v
def zv (P:Program) (tt:Table) (T:TypeId) (x i:V):Option V :=
 match x with
 | .ptr b o=>match i with
  | .sc (.int _ n)=>match P.underlying T with
   | some (.array len e)=>match oN tt e with
    | some size=>if 0≤n∧n<len then some (.ptr b (o+n.toNat*size)) else none
    | none=>none
   | _=>none
  | _=>none
 | _=>none
theorem Ft {P:Program} {tt:Table} (ht:TT P tt) {E:Env} {T:TypeId} {p i v:V} {x y:Value} (hp:dh E p x) (hi:dh E i y) (h:zv P tt T p i=some v) (w:World) :
  ∃ z,(Instr.indexAt T x y).run P w = .ok z w∧dh E v z:=by
 unfold zv oN at h;split at h;·rename_i b o;split at h;(·rename_i k n;split at h;(·rename_i len e hd;cases hE:tt e with | none=>rw [hE] at h; simp at h | some ie =>rw [hE] at h; simp only at h;split at h;(·rename_i h0;cases h;cases hi with | sc =>cases hp with | ptr _ _ _ g e' c hb =>refine⟨.pointer (some ⟨g,o+n.toNat*ie.size,none⟩),?_,.ptr _ _ _ g e' c hb⟩;simp [Instr.indexAt,asIntOf,bG hd,Instr.sureAddr,ht.sizeOf hE,h0,add_lit]);cases h);cases h);cases h
 cases h
def V0 (rows:List V):Bool→V
 | true=>.full rows
 | false=>.slice rows
def KC (tt:Table) (T:TypeId) (x h m:V):Option V :=
 match x with
 | .slice rows=>match Fj h with
  | some a=>match Fj m with
   | some b=>match jy tt T with
    | some e=>match oN tt e with
     | some _=>if 0≤a∧a≤b∧b≤rows.length then some (V0 (rows.take a.toNat) (decide (a=b))) else none
     | none=>none
    | none=>none
   | none=>none
  | none=>none
 | _=>none
theorem Fu {P:Program} {tt:Table} (ht:TT P tt) {E:Env} {T:TypeId} {x h m v:V} {y z u:Value} (hx:dh E x y) (hh:dh E h z) (hm:dh E m u) (hc:KC tt T x h m=some v) (w:World) :
  ∃ q,(Instr.sliceAt T y none (some z) (some u)).run P w = .ok q w∧dh E v q:=by
 unfold KC at hc;split at hc;·rename_i rows;split at hc;(·rename_i a ha;split at hc;(·rename_i b hb;obtain⟨k1,rfl⟩:=rl hh ha;obtain⟨k2,rfl⟩:=rl hm hb;unfold jy oN at hc;cases hT:tt T with | none=>rw [hT] at hc; simp at hc | some iT =>rw [hT] at hc; simp only at hc;cases he:iT.elem with | none=>rw [he] at hc; simp at hc | some e =>rw [he] at hc; simp only at hc;cases hE:tt e with | none=>rw [hE] at hc; simp at hc | some ie =>rw [hE] at hc; simp only at hc;obtain⟨d,hd,-,Ds,-⟩:=ht.desc T iT hT;obtain rfl:=Ds e he;split at hc;(·rename_i wK;obtain⟨h0,h1,h2⟩:=wK;cases hc;cases hx with | slice _ _ aa cap tR ad xf haa nR hz hF qd hR =>(have hlen:(rows.take a.toNat).length=a.toNat:=by rw [cd]; omega);(have gO:(Instr.sliceAt T (.slice aa rows.length cap) none (some (.int k1 a)) (some (.int k2 b))).run P w = .ok (.slice aa a.toNat b.toNat) w:=by simp only [Instr.sliceAt,Instr.slice,Sem.run_bind,bG hd,Result.andThen_ok,Instr.sliceBounds,Instr.sliceBound,asIntOf,Sem.run_pure,ht.sizeOf hE,aqn];rw [if_pos ⟨by omega,by omega⟩];simp only [Sem.run_pure,Result.andThen_ok];rw [if_pos ⟨by omega,by omega⟩];simp [Addr.add]);refine⟨_,gO,?_⟩;(have hg:∀ (i:Nat) (row:V),(rows.take a.toNat)[i]?=some row→rows[i]?=some row:=fun i row hi=>by rw [iZ] at hi;split at hi;(·exact hi);cases hi);have:=dh.slice E (rows.take a.toNat) aa b.toNat tR ad xf (fun ep=>haa fun h=>ep (by rw [h,NT])) (by omega) (fun i row hi=>hz _ _ (hg i row hi)) (fun i row j c hi hj=>hF _ _ _ _ (hg i row hi) hj) (fun i row j c hi hj=>qd _ _ _ _ (hg i row hi) hj) fun i row j c hi hj=>hR _ _ _ _ (hg i row hi) hj;rw [hlen] at this;by_cases Tr:a=b;(·rw [decide_eq_true Tr];(have hbn:b.toNat=(rows.take a.toNat).length:=by rw [hlen,Tr]);(have h4:(Value.slice aa a.toNat b.toNat) = .slice aa (rows.take a.toNat).length (rows.take a.toNat).length:=by rw [← hbn,← Tr]);rw [h4];exact .full _ _ _ (by rw [← h4]; exact this));rw [decide_eq_false Tr];exact this);cases hc);cases hc);cases hc
 cases hc
def Dz (P:Program) (tt:Table) (S:TypeId) (f:Nat) (x:V):Option V :=
 match x with
 | .agg cs=>match P.underlying S with
  | some (.struct fs)=>match fs[f]? with
   | some fd=>jR tt fd.type (cs.drop fd.offset)
   | none=>none
  | _=>none
 | _=>none
theorem BZ {P:Program} {tt:Table} (ht:TT P tt) {E:Env} {S:TypeId} {f:Nat} {x v:V} {y:Value} (hx:dh E x y) (h:Dz P tt S f x=some v) (w:World):∃ z,(Instr.field S y f).run P w = .ok z w∧dh E v z:=by
 unfold Dz at h;split at h;·rename_i cs;split at h;(·rename_i fs hu;split at h;(·rename_i fd hf;cases hx with | agg _ _ xs hl hr =>simp only [Instr.field,Sem.run_bind,bG hu,Result.andThen_ok,hf];unfold jR at h;cases hi:tt fd.type with | none=>rw [hi] at h; simp at h | some i =>rw [hi] at h; simp only at h;cases ha:i.agg with | false =>simp only [ha,cf,if_false] at h;(have h0:cs[fd.offset]?=some v:=by simpa [aqD] using h);(have ca:fd.offset<xs.size:=by rw [← hl]; exact (az.1 h0).1);refine⟨xs[fd.offset],?_,hr _ _ _ h0 (ch ca)⟩;simp [part,asAgg,ht.isAgg hi,ha,ch ca] | true =>simp only [ha,if_true] at h;split at h;(·rename_i hle;simp only [aF] at h; subst h;rw [gG] at hle;refine⟨.agg (xs.extract fd.offset (fd.offset+i.size)),?_,.agg _ _ _ (by simp; omega) fun j c z hc hz=>?_⟩;(·simp [part,asAgg,ht.isAgg hi,ha,ht.sizeOf hi]);(have hj:j<i.size:=by by_cases hj:j<i.size;(·exact hj);rw [iZ] at hc; simp [hj] at hc);rw [jN hj,BU] at hc;refine hr (fd.offset+j) c z hc ?_;rw [Array.getElem?_extract] at hz;split at hz;(·exact hz);cases hz);cases h);cases h);cases h
 cases h
def me (P:Program) (tt:Table) (st:St) (o:Oper):Option V :=
 match o.op with
 | .move x=>some (st.eval x)
 | .assign x=>some (st.eval x)
 | .pick c a b=>match st.eval c with | .sc (.bool t)=>some (if t=true then st.eval a else st.eval b) | _=>none
 | .load T x=>qN tt st.mem T (st.eval x)
 | .nilCheck x=>XA (st.eval x)
 | .binOp op T x y _=>match KA op (st.eval x) (st.eval y) with
  | some v=>some v
  | none=>match Dx P op T (st.eval x) (st.eval y) with
   | some v=>some v
   | none=>eR P (re op T x y) (st.eval x) (st.eval y)
 | .unOp op _ x=>tz P (Op.unary op) (st.eval x)
 | .convert s d x=>uT P st.mem s d (st.eval x)
 | .makeFunc fn first cap=>some (.cX fn (first.toList.map st.eval) (cap.toList.map st.eval))
 | .slice T x lo hi none=>Dt P tt st.mem T (st.eval x) (lo.map st.eval) (hi.map st.eval)
 | .fieldAddr S x f=>Dp tt S f (st.eval x)
 | .field S x f=>Dz P tt S f (st.eval x)
 | .slice T x none (some h) (some m)=>KC tt T (st.eval x) (st.eval h) (st.eval m)
 | .indexAddr T x i=>match oc tt st.mem T (st.eval x) (st.eval i) with
  | some v=>some v
  | none=>zv P tt T (st.eval x) (st.eval i)
 | .index T x i=>eR P (Instr.index T) (st.eval x) (st.eval i)
 | .extract t i=>match st.eval t with | .eV vs=>vs[i]? | _=>none
 | .lookup T x i ok=>kF P st.mem T (st.eval x) (st.eval i) ok
 | .entry it=>LY st.mem (st.eval it)
 | .call { callee:=.builtin .len,args:=xs,argTypes:=ts }=>match wR st.mem ts P (xs.toList.map st.eval) with
  | some v=>some v
  | none=>Dv P tt ts o.type (xs.toList.map st.eval)
 | .call { callee:=.builtin .max,args:=xs,argTypes:=ts }=>j5 P (Builtin.max_ ts o.type) (xs.toList.map st.eval)
 | .call { callee:=.builtin .min,args:=xs,argTypes:=ts }=>j5 P (Builtin.min_ ts o.type) (xs.toList.map st.eval)
 | _=>none

theorem rq {P:Program} {f:Array Value→Sem Value} {E:Env} {w:World} {xs:List V} {v:V} {ys:Array Value} (hx:cY E xs ys.toList) (h:j5 P f xs=some v):∃ z,(f ys).run P w = .ok z w∧dh E v z:=by
 unfold j5 at h;split at h;·rename_i l hl;have:=qe hx hl;split at h;(·rename_i z hz;simp only [aF] at h; subst h;subst this;exact⟨z,gM _ (by simpa using hz) w,kY E z⟩);simp at h
 simp at h

theorem DA {P:Program} {tt:Table} (ht:TT P tt) {ts:Array TypeId} {ty t e:TypeId} (h0:ts[0]?=some t) (he:jy tt t=some e) (w:World) (aa:Option Addr) (len cap:Nat) :
  (Builtin.len_ ts ty #[.slice aa len cap]).run P w = .ok (.int .i64 len) w:=by unfold jy at he;cases hT:tt t with | none=>rw [hT] at he; simp at he | some iT =>rw [hT] at he; simp only at he;obtain⟨d,hd,-,Ds,-⟩:=ht.desc t iT hT;obtain rfl:=Ds e he;simp [Builtin.len_,h0,bG hd,goInt]

theorem Iu {P:Program} {tt:Table} (ht:TT P tt) {E:Env} {w:World} {ts:Array TypeId} {ty:TypeId} {xs:List V} {v:V} {ys:Array Value} (hx:cY E xs ys.toList) (h:Dv P tt ts ty xs=some v) :
  ∃ z,(Builtin.len_ ts ty ys).run P w = .ok z w∧dh E v z:=by
 unfold Dv at h;split at h;·split at h;(·rename_i t h0;split at h;(·rename_i e he;simp only [aF] at h; subst h;obtain⟨x,r,hy,h1,h2⟩:=hx.of_cons;have:=h2.of_nil; subst this;(obtain rfl:ys = #[x]:=by rw [← di (xs:=ys),hy]);cases h1 with | slice _ _ aa cap tR ad xf ha nR hz hF qd hR=>exact⟨_,DA ht h0 he w aa _ cap,.sc _ _⟩);simp at h);simp at h
 ·split at h;(·rename_i t h0;split at h;(·rename_i e he;simp only [aF] at h; subst h;obtain⟨x,r,hy,h1,h2⟩:=hx.of_cons;have:=h2.of_nil; subst this;(obtain rfl:ys = #[x]:=by rw [← di (xs:=ys),hy]);cases h1 with | jl=>exact⟨_,DA ht h0 he w none _ 0,.sc _ _⟩ | ms _ _ _ _ _ g e' c aa cap hb hl SR Cs=>exact⟨_,DA ht h0 he w aa _ cap,.sc _ _⟩);simp at h);simp at h
 exact rq hx h

theorem dA {P:Program} {s:Sem Value} {w:World} {x:Value} (h:s.run P w = .ok x w):(do pure (Next.value (← s)):Sem Next).run P w = .ok (.value x) w:=by simp [h]

theorem sA {P:Program} {tt:Table} (ht:TT P tt) {E:Env} {w:World} {a:Act} {st:St} (hs:dr E w a st) {o:Oper} {v:V} (h:me P tt st o=some v) :
  ∃ x,(execOp a.eval o).run P w = .ok (.value x) w∧dh E v x:=by
 obtain⟨dst,op,type,pos,after,guard⟩:=o;unfold me at h;dsimp only at h;split at h;·simp only [aF] at h; subst h; exact⟨_,rfl,hs.eval _⟩
 ·simp only [aF] at h; subst h; exact⟨_,rfl,hs.eval _⟩
 ·rename_i c x y;split at h;(·rename_i t hc;simp only [aF] at h; subst h;have:=hs.eval c;rw [hc] at this;refine⟨if t=true then a.eval x else a.eval y,?_,?_⟩;(·simp [execOp,gN this,asBool]);cases t <;> exact hs.eval _);simp at h
 ·obtain⟨y,h1,h2⟩:=xK ht hs (hs.eval _) h;exact⟨y,dA h1,h2⟩
 ·rename_i x;have hx:=hs.eval x;generalize hy:a.eval x=y at hx;(have gO:∀ z,(∀ m f c,z ≠ .func (.method m) f c)→z ≠ .pointer none→z ≠ .nilIface→z ≠ .nilFunc→a.eval x=z→(execOp a.eval { dst,op:=.nilCheck x,type,pos,after,guard }).run P w = .ok (.value z) w:=by intro z h1 h2 h3 h4 he;simp only [execOp,he];rfl);unfold XA at h;split at h <;> simp only [aF,reduceCtorEq] at h <;> subst h <;> rename_i hv <;> rw [hv] at hx;(·cases hx with | ptr _ _ _ g e c hb=>exact⟨_,gO _ (by simp) (by simp) (by simp) (by simp) hy,.ptr _ _ _ g e c hb⟩);(·cases hx with | iy _ _ _ _ _ g e c hb=>exact⟨_,gO _ (by simp) (by simp) (by simp) (by simp) hy,.iy _ _ _ _ _ g e c hb⟩);(·cases hx with | fa _ _ ad xf hF hr=>exact⟨_,gO _ (by simp) (by simp) (by simp) (by simp) hy,.fa _ _ _ xf hF hr⟩);(·cases hx with | cX _ f first cap xs ys h1 h2 h3 h4=>exact⟨_,gO _ (by simp) (by simp) (by simp) (by simp) hy,.cX _ _ _ _ _ _ h1 h2 h3 h4⟩);have:=gN hx;subst this;exact⟨_,gO _ (by simp) (by simp) (by simp) (by simp) hy,.sc _ _⟩
 ·rename_i op T x y _;split at h;(·rename_i hg;cases h;obtain⟨z,h1,h2⟩:=Fp (P:=P) (w:=w) (T:=T) x y (hs.eval x) (hs.eval y) hg;exact⟨z,dA h1,h2⟩);split at h;(·rename_i hg;cases h;obtain⟨z,h1,h2⟩:=Dy (P:=P) (w:=w) (T:=T) x y (hs.eval x) (hs.eval y) hg;exact⟨z,dA h1,h2⟩);obtain⟨z,h1,h2⟩:=ng (w:=w) (hs.eval x) (hs.eval y) h;exact⟨z,dA h1,h2⟩
 ·obtain⟨z,h1,h2⟩:=rk (w:=w) (hs.eval _) h;exact⟨z,dA h1,h2⟩
 ·obtain⟨z,h1,h2⟩:=Fs (w:=w) hs (hs.eval _) h;exact⟨z,dA h1,h2⟩
 ·(rename_i fn first cap);simp only [aF] at h; subst h;(have h1:=hs.pI first);have h2:=hs.pI cap;exact⟨_,dA rfl,.cX _ _ _ _ _ _ (by simp) (by simp) (fun i c x hc hx=>h1.2 i c x hc (by simpa using hx)) fun i c x hc hx=>h2.2 i c x hc (by simpa using hx)⟩
 ·obtain⟨z,h1,h2⟩:=Is ht hs (hs.eval _) h;exact⟨z,dA h1,h2⟩
 ·obtain⟨z,h1,h2⟩:=Dq ht (hs.eval _) h w;exact⟨z,dA h1,h2⟩
 ·obtain⟨z,h1,h2⟩:=BZ ht (hs.eval _) h w;exact⟨z,dA h1,h2⟩
 ·obtain⟨z,h1,h2⟩:=Fu ht (hs.eval _) (hs.eval _) (hs.eval _) h w;exact⟨z,dA h1,h2⟩
 ·split at h;(·rename_i hv;cases h;obtain⟨z,h1,h2⟩:=Dr ht hs (hs.eval _) (hs.eval _) hv;exact⟨z,dA h1,h2⟩);obtain⟨z,h1,h2⟩:=Ft ht (hs.eval _) (hs.eval _) h w;exact⟨z,dA h1,h2⟩
 ·obtain⟨z,h1,h2⟩:=ng (w:=w) (hs.eval _) (hs.eval _) h;exact⟨z,dA h1,h2⟩
 ·rename_i t i;split at h;(·rename_i vs hv;have:=hs.eval t;rw [hv] at this;generalize hy:a.eval t=y at this;cases this with | eV _ _ xs hl hr =>(have hi:i<xs.size:=by rw [← hl]; exact (az.1 h).1);exact⟨xs[i],dA (by simp [hy,Instr.extract,ch hi]),hr i v _ h (ch hi)⟩);simp at h
 ·obtain⟨z,h1,h2⟩:=BX hs (hs.eval _) (hs.eval _) h;exact⟨z,dA h1,h2⟩
 ·obtain⟨z,h1,h2⟩:=Ir hs (hs.eval _) h;exact⟨z,dA h1,h2⟩
 ·split at h;(·rename_i hl;cases h;obtain⟨z,h1,h2⟩:=Iq hs (hs.pI _) hl;exact⟨z,dA h1,h2⟩);obtain⟨z,h1,h2⟩:=Iu ht (w:=w) (hs.pI _) h;exact⟨z,dA h1,h2⟩
 ·obtain⟨z,h1,h2⟩:=rq (w:=w) (hs.pI _) h;exact⟨z,dA h1,h2⟩
 ·obtain⟨z,h1,h2⟩:=rq (w:=w) (hs.pI _) h;exact⟨z,dA h1,h2⟩
 simp at h
end Go.Eng
end

section
namespace Go.Eng
variable [bg]
open Go.RowKit (Below)

def dB (mem:List bm) (key:Nat) (B:bm):List bm:=if key<mem.length then mem.set key B else mem++[B]
def jF (mem:List bm) (key:Nat):Prop:=mem[key]?=some .hole∨key=mem.length
def Env.with (E:Env) (key dV:Nat) (t:Nat×Nat×Nat):Env := { F:=E.F,cI:=fun k v=>if k=key∧v=dV then some t else E.cI k v,gl:=E.gl }

theorem qh {mem:List bm} {key:Nat} (h:key≤mem.length) (B:bm) (k:Nat):(dB mem key B)[k]?=if k=key then some B else mem[k]?:=by
 unfold dB;split;·rename_i ca;rw [bK];by_cases hk:key=k;(·subst hk; simp [ca]);rw [if_neg hk,if_neg (fun e=>hk e.symm)]
 rename_i ig;have fT:key=mem.length:=by omega
 by_cases hk:k=key;·subst hk; rw [if_pos rfl,fT]; simp
 rw [if_neg hk,VW];split;·rfl
 rw [dQ (by simp; omega),dQ (by omega)]
theorem tB {mem:List bm} {key:Nat} (h:key≤mem.length) (B:bm):mem.length≤(dB mem key B).length∧key<(dB mem key B).length:=by unfold dB;split <;> simp <;> omega
theorem jF.le {mem:List bm} {key:Nat} (h:jF mem key):key≤mem.length:=by
 rcases h with h | h
 ·exact Nat.le_of_lt (az.1 h).1
 omega
theorem dr.free {E:Env} {w:World} {a:Act} {st:St} (hs:dr E w a st) {key:Nat} (h:jF st.mem key):∀ v,E.cI key v=none:=by
 rcases h with h | h
 ·exact hs.mem _ _ h
 exact hs.top _ (by omega)
theorem Env.m4 {E:Env} {key dV:Nat} (h:E.cI key dV=none) (t:Nat×Nat×Nat):E.le (E.with key dV t) :=
 ⟨fun _ _ h=>h,fun b v u hb=>by
  show (if b=key∧v=dV then some t else E.cI b v)=some u
  rw [if_neg (fun e=>by rw [e.1,e.2,h] at hb; cases hb)]; exact hb⟩

theorem ob.mono {E E':Env} {w w':World} {k:Nat} {B:bm} (h:ob E w k B) (hle:E.le E') (Od:∀ v,E.cI k v=none→E'.cI k v=none)
  (zw:∀ g e c,E.cI k B.dV=some (g,e,c)→w'.heap[g]?=w.heap[g]?) (hF:∀ g e c o,E.cI k B.dV=some (g,e,c)→E.F ⟨g,o,none⟩=none→E'.F ⟨g,o,none⟩=none):ob E' w' k B:=by
 have nh:∀ {e rs} {f f':Nat→Option Value},(∀ o x,f o=some x→f' o=some x)→mC E.pure e rs f→mC E'.pure e rs f':=fun hf hr i row hi=>by obtain⟨h1,h2⟩:=hr i row hi;exact⟨h1,fun j c hj=>let ⟨x,hx,h1,hr⟩:=h2 j c hj; ⟨x,hf _ _ hx,h1,hr.mono (Env.ld hle)⟩⟩
 cases B with | hole=>exact fun v=>Od v (h v) | dead=>trivial | box cs =>obtain⟨g,T,xs,hb,hh,hr,hf⟩:=h;exact⟨g,T,xs,hle.cI _ _ _ hb,(zw _ _ _ hb).trans hh,hr.mono hle,fun o=>hF _ _ _ o hb (hf o)⟩ | rows v e rs =>((rcases h with ⟨h1,h2⟩ | ⟨g,T,xs,c,hb,hh,mY,hl,hr,hf⟩);(·exact .inl ⟨h1,Od _ h2⟩);exact .inr ⟨g,T,xs,c,hle.cI _ _ _ hb,(zw _ _ _ hb).trans hh,mY,hl,nh (fun _ _ h=>h) hr,fun o=>hF _ _ _ o hb (hf o)⟩) | loop s nS fr params assign body =>obtain⟨l,fn,tmps,db,hb,hh,hr,hf⟩:=h;exact⟨l,fn,tmps,db,hle.cI _ _ _ hb,(zw _ _ _ hb).trans hh,hr.mono hle,fun o=>hF _ _ _ o hb (hf o)⟩ | map dO clock =>obtain⟨g,es,hb,hh,hr,hf⟩:=h;exact⟨g,es,hle.cI _ _ _ hb,(zw _ _ _ hb).trans hh,hr.mono hle,fun o=>hF _ _ _ o hb (hf o)⟩ | jO m since seen last =>obtain⟨g,gm,e,c,hb,hm,hh,hf⟩:=h;exact⟨g,gm,e,c,hle.cI _ _ _ hb,hle.cI _ _ _ hm,(zw _ _ _ hb).trans hh,fun o=>hF _ _ _ o hb (hf o)⟩ | nP s pos =>obtain⟨g,hb,hh,hf⟩:=h;exact⟨g,hle.cI _ _ _ hb,(zw _ _ _ hb).trans hh,fun o=>hF _ _ _ o hb (hf o)⟩ | oa =>obtain⟨g,hb,hh,hf⟩:=h;exact⟨g,hle.cI _ _ _ hb,(zw _ _ _ hb).trans hh,fun o=>hF _ _ _ o hb (hf o)⟩ | uR v e rs =>(rcases h with ⟨h1,h2⟩ | ⟨g,c,hb,hl,hr⟩);(·exact .inl ⟨h1,Od _ h2⟩);exact .inr ⟨g,c,hle.cI _ _ _ hb,hl,nh (fun _ _ h=>hle.F _ _ h) hr⟩

theorem dr.new {E:Env} {w:World} {a:Act} {st:St} (hs:dr E w a st) {key:Nat} (hk:jF st.mem key) {obj:Obj} {B:bm} {e c:Nat} (Oe:B.dV=0)
  (hB:ob (E.with key 0 (w.heap.size,e,c)) (w.alloc obj) key B) :
  dr (E.with key 0 (w.heap.size,e,c)) (w.alloc obj) a { st with mem:=dB st.mem key B }∧iC E w (E.with key 0 (w.heap.size,e,c)) (w.alloc obj):=by
 have Ct:=hs.free hk;have hle:=Env.m4 (Ct 0) (w.heap.size,e,c);have iG:∀ k v,¬ (k=key∧v=0)→(E.with key 0 (w.heap.size,e,c)).cI k v=E.cI k v:=fun k v ep=>if_neg ep;have fT:(E.with key 0 (w.heap.size,e,c)).cI key 0=some (w.heap.size,e,c):=if_pos ⟨rfl,rfl⟩;have SV:∀ k v,k≠key→(E.with key 0 (w.heap.size,e,c)).cI k v=E.cI k v:=fun k v ep=>iG k v fun h=>ep h.1;refine⟨⟨fun ad x hx=>?_,fun k v g e' c' hb=>?_,fun k B' uO=>?_,fun k iQ v=>?_,fun k B' uO v hv=>?_,?_,hs.fr.mono hle⟩,hle,fun k v g e' c' hb=>?_,fun ad x hx=>.inl hx,rfl,rfl,rfl,by simp,fun b hb _=>ey w _ b hb⟩;·rw [World.cell?_alloc_lt w _ ad (World.block_lt_of_cell? w ad (hs.F ad x hx))]; exact hs.F ad x hx
 ·by_cases fN:k=key∧v=0;(·obtain⟨rfl,rfl⟩:=fN; rw [fT] at hb; cases hb; simp);rw [iG k v fN] at hb; have:=hs.lt _ _ _ _ _ hb; simp; omega
 ·rw [qh hk.le] at uO;split at uO;(·rename_i fN; subst fN; cases uO; exact hB);rename_i fN;exact (hs.mem k B' uO).mono hle (fun v h=>by rw [SV k v fN]; exact h) (fun g e' c' hb=>ey w _ g (hs.lt _ _ _ _ _ hb)) fun _ _ _ o _ h=>h
 ·have:=tB hk.le B;dsimp only at iQ;rw [SV k v (by omega)]; exact hs.top k (by omega) v
 ·dsimp only at uO;rw [qh hk.le] at uO;split at uO;(·rename_i fN; subst fN; cases uO; rw [iG k v (by omega)]; exact Ct v);rename_i fN; rw [SV k v fN]; exact hs.dV k B' uO v hv
 ·intro k k' v v' g e1 c1 e2 c2 h5 h6;by_cases fN:k=key∧v=0 <;> by_cases DB:k'=key∧v'=0;(·rw [fN.1,DB.1]);(·obtain⟨rfl,rfl⟩:=fN; rw [fT] at h5; cases h5; rw [iG k' _ DB] at h6; have:=hs.lt _ _ _ _ _ h6; omega);(·obtain⟨rfl,rfl⟩:=DB; rw [fT] at h6; cases h6; rw [iG k _ fN] at h5; have:=hs.lt _ _ _ _ _ h5; omega);rw [iG k _ fN] at h5; rw [iG k' _ DB] at h6;exact hs.apart _ _ _ _ _ _ _ _ _ h5 h6
 by_cases fN:k=key∧v=0;·obtain⟨rfl,rfl⟩:=fN; rw [fT] at hb; cases hb; exact .inr (aw _)
 rw [iG k v fN] at hb; exact .inl ⟨_,_,_,_,hb⟩

theorem dr.Of {E:Env} {w:World} {a:Act} {st:St} (hs:dr E w a st) {key:Nat} (hk:jF st.mem key) {xs:Array Value} {cs:List V} (hr:cY E cs xs.toList) (T:TypeId) :
  ∃ E',dr E' (w.alloc (.cells xs T (0,0))) a { st with mem:=dB st.mem key (.box cs) }∧iC E w E' (w.alloc (.cells xs T (0,0)))∧dh E' (.ptr key 0) (.pointer (some ⟨w.heap.size,0,none⟩)):=by
 have hle:=Env.m4 (hs.free hk 0) (w.heap.size,0,0);have:=hs.new (obj:=.cells xs T (0,0)) (B:=.box cs) (e:=0) (c:=0) hk rfl ⟨w.heap.size,T,xs,if_pos ⟨rfl,rfl⟩,heap_alloc_new w _,hr.mono hle,fun o=>?_⟩;·exact⟨_,this.1,this.2,.ptr _ _ _ _ 0 0 (if_pos ⟨rfl,rfl⟩)⟩
 show E.F _=none;cases hx:E.F ⟨w.heap.size,o,none⟩ with | none=>rfl | some x=>have:=World.block_lt_of_cell? w _ (hs.F _ _ hx); simp at this

theorem dr.uU {E:Env} {w:World} {a:Act} {st:St} (hs:dr E w a st) {key:Nat} (hk:jF st.mem key) {xs:Array Value} {rs:List V} {e c:Nat} (T:TypeId) (mY:xs.size=c*e) (hl:rs.length≤c)
  (hr:mC E.pure e rs (fun o=>xs[o]?)) :
  ∃ E',dr E' (w.alloc (.cells xs T (0,0))) a { st with mem:=dB st.mem key (.rows 0 e rs) }∧iC E w E' (w.alloc (.cells xs T (0,0)))∧dh E' (.ms key 0 0 rs.length) (.slice (some ⟨w.heap.size,0,none⟩) rs.length c):=by
 have hle:=Env.m4 (hs.free hk 0) (w.heap.size,e,c);have:=hs.new (obj:=.cells xs T (0,0)) (B:=.rows 0 e rs) (e:=e) (c:=c) hk rfl (.inr ⟨w.heap.size,T,xs,c,if_pos ⟨rfl,rfl⟩,heap_alloc_new w _,mY,hl,fun i row hi=>?_,fun o=>?_⟩);·exact⟨_,this.1,this.2,.ms _ _ _ _ _ w.heap.size e c _ _ (if_pos ⟨rfl,rfl⟩) (fun _=>by simp) (fun _=>⟨rfl,rfl⟩) ⟨hl,bE _,fun _=>by simp⟩⟩
 ·obtain⟨h1,h2⟩:=hr i row hi;exact⟨h1,fun j c' hj=>let ⟨x,hx,h1,hr⟩:=h2 j c' hj; ⟨x,hx,h1,hr.mono (Env.ld hle)⟩⟩
 show E.F _=none;cases hx:E.F ⟨w.heap.size,o,none⟩ with | none=>rfl | some x=>have:=World.block_lt_of_cell? w _ (hs.F _ _ hx); simp at this

theorem dr.Ts {E:Env} {w:World} {a:Act} {st:St} (hs:dr E w a st) {key:Nat} (hk:jF st.mem key) (e:Nat):dr E w a { st with mem:=dB st.mem key (.rows 0 e []) }:=by
 have hn:=hs.free hk;refine⟨hs.F,hs.lt,fun k B hB=>?_,fun k iQ=>hs.top k ?_,fun k B hB v hv=>?_,hs.apart,hs.fr⟩;·rw [qh hk.le] at hB;split at hB;(·rename_i fN; subst fN; cases hB; exact .inl ⟨rfl,hn 0⟩);exact hs.mem k B hB
 ·have:=tB hk.le (.rows 0 e []); dsimp only at iQ; omega
 dsimp only at hB;rw [qh hk.le] at hB;split at hB;·rename_i fN; subst fN; exact hn v
 exact hs.dV k B hB v hv
end Go.Eng
end

section
namespace Go.Eng
variable [bg]
open Go.RowKit (Below)

def j6 (xs:Array Value) (o:Nat):List Value→Array Value
 | []=>xs
 | v :: r=>j6 (xs.setIfInBounds o v) (o+1) r
def kG (cs:List V) (o:Nat):List V→List V
 | []=>cs
 | v :: r=>kG (cs.set o v) (o+1) r

theorem lV (vs:List Value):∀ (xs:Array Value) (o:Nat),(j6 xs o vs).size=xs.size:=by induction vs with | nil=>intro xs o; rfl | cons v r ih=>intro xs o; simp [j6,ih]
theorem zy (vs:List V):∀ (cs:List V) (o:Nat),(kG cs o vs).length=cs.length:=by induction vs with | nil=>intro cs o; rfl | cons v r ih=>intro cs o; simp [kG,ih]
theorem xN {E:Env} (vs:List V):∀ (ys:List Value) (cs:List V) (xs:Array Value) (o:Nat),cY E vs ys→cY E cs xs.toList→cY E (kG cs o vs) (j6 xs o ys).toList:=by induction vs with | nil=>intro ys cs xs o h k; have:=h.of_nil; subst this; exact k | cons v r ih =>intro ys cs xs o h k;obtain⟨y,ys,rfl,h1,h2⟩:=h.of_cons;exact ih ys _ _ _ h2 (by simpa using k.set o h1)
theorem kf (vs:List Value):∀ (xs:Array Value) (o k:Nat),o+vs.length≤xs.size→(j6 xs o vs)[k]?=if o≤k∧k<o+vs.length then vs[k-o]? else xs[k]?:=by induction vs with | nil=>intro xs o k _; simp [j6]; intro h1 h2; omega | cons v r ih =>intro xs o k h;simp only [ay] at h;rw [j6,ih _ _ _ (by simp; omega)];by_cases h1:o+1≤k∧k<o+1+r.length;(·rw [if_pos h1,if_pos ⟨by omega,by simp; omega⟩];(have:k-o=(k-(o+1))+1:=by omega);rw [this,dx]);rw [if_neg h1];by_cases h2:k=o;(·subst h2;rw [if_pos ⟨aw _,by simp⟩];simp only [cU,dk];rw [Array.getElem?_setIfInBounds_self_of_lt (by omega)]);rw [if_neg (by simp only [ay]; omega),Dm (fun e=>h2 e.symm)]
theorem Fv (vs:List V):∀ (cs:List V) (o k:Nat),o+vs.length≤cs.length→(kG cs o vs)[k]?=if o≤k∧k<o+vs.length then vs[k-o]? else cs[k]?:=by induction vs with | nil=>intro xs o k _; simp [kG]; intro h1 h2; omega | cons v r ih =>intro xs o k h;simp only [ay] at h;rw [kG,ih _ _ _ (by simp; omega)];by_cases h1:o+1≤k∧k<o+1+r.length;(·rw [if_pos h1,if_pos ⟨by omega,by simp; omega⟩];(have:k-o=(k-(o+1))+1:=by omega);rw [this,dx]);rw [if_neg h1];by_cases h2:k=o;(·subst h2;rw [if_pos ⟨aw _,by simp⟩];simp only [cU,dk];rw [bK]; simp; omega);rw [if_neg (by simp only [ay]; omega),eY (fun e=>h2 e.symm)]

structure uV (w w':World) (g:Nat):Prop where
 os:w'.os=w.os
 tape:w'.tape=w.tape
 output:w'.output=w.output
 size:w'.heap.size=w.heap.size
 heap:∀ b,b≠g→w'.heap[b]?=w.heap[b]?

theorem lq {P:Program} {g:Nat} {T:TypeId} (o:Nat):∀ (vs:List Value) (i:Nat) (w:World) (xs:Array Value),w.heap[g]?=some (.cells xs T (0,0))→o+i+vs.length≤xs.size →
  (∀ v∈vs,v.oneCell'=true)→∃ w',(storeCells ⟨g,o,none⟩ vs i).run P w = .ok () w'∧w'.heap[g]?=some (.cells (j6 xs (o+i) vs) T (0,0))∧uV w w' g:=by intro vs;induction vs with | nil=>intro i w xs hh _ _; exact⟨w,rfl,hh,rfl,rfl,rfl,rfl,fun _ _=>rfl⟩ | cons v r ih =>intro i w xs hh hl h1;simp only [ay] at hl;(have hc:w.cell? ⟨g,o+i,none⟩=some (xs[o+i]'(by omega)):=by rw [oP hh,ch]);(have hf:w.frozen? ⟨g,o+i,none⟩=false:=by simp [World.frozen?,hh]);(have SX:(w.setCell ⟨g,o+i,none⟩ v).heap[g]?=some (.cells (xs.setIfInBounds (o+i) v) T (0,0)):=by simp [World.setCell,aqB,hh]);obtain⟨w',h2,h3,h4⟩:=ih (i+1) _ _ SX (by simp; omega) (fun v hv=>h1 v (bP _ hv));refine⟨w',?_,by rw [j6]; exact h3,h4.os,h4.tape,h4.output,by rw [h4.size]; simp,fun b hb=>(h4.heap b hb).trans (Go.RowKit.Below.heap_setCell w _ v b hb)⟩;rw [storeCells];simp only [Sem.run_bind,add_lit];rw [run_store P w _ v .plain (h1 v (b9 ..))];simp [stored,hc,hf,h2]

def DC:V→Bool
 | .sc v=>v.oneCell'
 | .undef=>false
 | .agg _=>false
 | .eV _=>false
 | _=>true
def lW:V→Option (List V)
 | .agg cs=>if cs.all DC then some cs else none
 | v=>if DC v then some [v] else none

theorem Fw {E:Env} {c:V} {x:Value} (h:dh E c x) (ho:DC c=true):x.oneCell'=true:=by cases h <;> first | rfl | exact ho | simp [DC] at ho
theorem qi {E:Env} {v:V} {x:Value} {cs:List V} (h:dh E v x) (hc:lW v=some cs):cY E cs x.cells.toList∧∀ y∈x.cells.toList,y.oneCell'=true:=by
 have key:∀ (cs:List V) (xs:List Value),cY E cs xs→cs.all DC=true→∀ y∈xs,y.oneCell'=true:=by intro cs;induction cs with | nil=>intro xs h _ y hy; rw [h.of_nil] at hy; simp at hy | cons c r ih =>intro xs h ha y hy;obtain⟨x,ys,rfl,h1,h2⟩:=h.of_cons;simp only [cZ,aL] at ha;(rcases cb.1 hy with rfl | hy);(·exact Fw h1 ha.1);exact ih ys h2 ha.2 y hy
 unfold lW at hc;split at hc;·split at hc;(·rename_i tC ef;simp only [aF] at hc; subst hc;have:=h.cells (by simp) (by simp);exact⟨this,key _ _ this ef⟩);simp at hc
 split at hc;·rename_i ep qd;simp only [aF] at hc; subst hc;have h1:x.oneCell'=true:=Fw h qd;(have hx:x.cells = #[x]:=by cases x <;> first | rfl | simp [Value.oneCell'] at h1);rw [hx];exact⟨.cons h (.nil _),fun y hy=>by simp at hy; subst hy; exact h1⟩
 simp at hc

theorem dr.DD {E:Env} {w:World} {a:Act} {st:St} (hs:dr E w a st) {g:Nat} (hf:∀ o,E.F ⟨g,o,none⟩=none) {ad:Addr} {x:Value} (hx:E.F ad=some x):ad.block≠g:=by
 intro he;have hc:=hs.F ad x hx;have NV:ad.spot=none:=by unfold World.cell? at hc;split at hc;(·split at hc;(·simp at hc);rename_i h; cases NV:ad.spot with | none=>rfl | some s=>simp [NV] at h);simp at hc
 have:ad=⟨g,ad.off,none⟩:=by cases ad; simp_all
 rw [this,hf] at hx;cases hx

theorem dr.Fx {E:Env} {w w':World} {a:Act} {st:St} (hs:dr E w a st) {b g e c:Nat} {B B':bm} (hm:st.mem[b]?=some B) (hh:B.held=true) (aby:B'.dV=B.dV) (hb:E.cI b B.dV=some (g,e,c)) (hf:∀ o,E.F ⟨g,o,none⟩=none)
  (ho:uV w w' g) (hB:ob E w' b B'):dr E w' a { st with mem:=st.mem.set b B' }∧iC E w E w':=by
 have ca:b<st.mem.length:=(az.1 hm).1
 refine⟨⟨fun ad x hx=>?_,fun k v g' e' c' hk=>by rw [ho.size]; exact hs.lt _ _ _ _ _ hk,fun k B1 hk=>?_,fun k hk=>hs.top k (by simpa using hk),fun k B1 hk v hv=>?_,hs.apart,hs.fr⟩,
  E.le_refl,fun k v g e c h=>.inl ⟨k,v,e,c,h⟩,fun _ _ h=>.inl h,ho.os,ho.tape,ho.output,by rw [ho.size]; exact aw _,fun b' kc ep=>ho.heap b' fun e=>by subst e; exact ep _ _ _ _ hb⟩
 ·have ep:=hs.DD hf hx;have:w'.heap[ad.block]?=w.heap[ad.block]?:=ho.heap _ ep;rw [← hs.F ad x hx]; simp [World.cell?,this]
 ·rw [bK] at hk;by_cases kT:b=k;(·subst kT; simp only [if_true,ca] at hk; cases hk; exact hB);rw [if_neg kT] at hk;cases SY:B1.held with | false=>(cases B1 <;> first | exact hs.mem k _ hk | trivial | simp [bm.held] at SY) | true =>refine (hs.mem k B1 hk).mono E.le_refl (fun _ h=>h) (fun g' e' c' gi=>ho.heap _ fun e=>?_) fun _ _ _ _ _ h=>h;subst e;exact kT (hs.apart _ _ _ _ _ _ _ _ _ hb gi)
 dsimp only at hk;rw [bK] at hk;by_cases hqb:b=k;·subst hqb; simp only [if_true,ca] at hk; cases hk; exact hs.dV b B hm v (by omega)
 rw [if_neg hqb] at hk; exact hs.dV k B1 hk v hv

def iH:V→Bool
 | .gn=>true
 | .sc _=>true
 | .slice _=>true
 | .fa _=>true
 | .undef=>true
 | _=>false
theorem DE {E:Env} {v:V} {x:Value} (h:dh E v x) (hp:iH v=true):dh E.pure v x:=by cases h with | undef=>exact .undef _ _ | gn=>exact .gn _ | sc=>exact .sc _ _ | slice _ rows a cap tR ad xf ha nR hz hF h1 hR=>exact .slice _ _ _ _ tR ad xf ha nR hz hF h1 hR | fa _ cs ad xf hF hR=>exact .fa _ _ _ xf hF hR | _=>simp [iH] at hp

def setRow (row:V) (o:Nat) (new:List V):V :=
 match row with
 | .agg cs=>.agg (kG cs o new)
 | r=>match o,new with
  | 0,[c]=>c
  | _,_=>r

theorem DF {row:V} {o:Nat} {new:List V} (ho:o+new.length≤row.cells.length) (qd:new.all DC=true) (ep:new≠[]):(setRow row o new).cells=kG row.cells o new:=by cases row with | agg cs=>rfl | _ =>simp only [V.cells,ay,aI] at ho ⊢;match new,ep with | [c],_ =>((obtain rfl:o=0:=by simp at ho; omega);simp only [cZ,dY,aN] at qd;cases c <;> first | rfl | simp [DC] at qd) | _ :: _ :: _,_=>simp at ho; omega

def nB (tt:Table) (mem:List bm) (T:TypeId) (p v:V):Option (List bm) :=
 match lW v with
 | none=>none
 | some new =>
  if oN tt T=some new.length then
   match p with
   | .ptr b o=>match mem[b]? with
    | some (.box cs)=>if o+new.length≤cs.length then some (mem.set b (.box (kG cs o new))) else none
    | _=>none
   | .iy b v i o=>match mem[b]? with
    | some (.rows v' e rs)=>match rs[i]? with
     | some row=>if v'=v∧o+new.length≤row.cells.length∧new≠[]∧new.all iH=true∧new.all DC=true then some (mem.set b (.rows v' e (rs.set i (setRow row o new)))) else none
     | none=>none
    | _=>none
   | _=>none
  else none
instance (new:List V):Decidable (new≠[]):=match new with | []=>.isFalse (by simp) | _ :: _=>.isTrue (by simp)

theorem cY.pure {E:Env}:∀ {vs:List V} {xs:List Value},cY E vs xs→vs.all iH=true→cY E.pure vs xs
 | [],xs,h,_=>by rw [h.of_nil]; exact .nil _
 | v :: vs,xs,h,hp=>by
  obtain⟨x,ys,rfl,h1,h2⟩:=h.of_cons
  simp only [cZ,aL] at hp
  exact .cons (DE h1 hp.1) (cY.pure h2 hp.2)

theorem uW {P:Program} {tt:Table} (ht:TT P tt) {E:Env} {w:World} {a:Act} {st:St} (hs:dr E w a st) {T:TypeId} {p v:V} {x y:Value} {bV:List bm} (hp:dh E p x) (hv:dh E v y)
  (h:nB tt st.mem T p v=some bV):∃ w',(Instr.storeAt T x y).run P w = .ok () w'∧dr E w' a { st with mem:=bV }∧iC E w E w':=by
 unfold nB at h;split at h;·simp at h
 rename_i new pb;obtain⟨hr,qd⟩:=qi hv pb;split at h
 ·rename_i mY;have hlen:y.cells.size=new.length:=by have:=hr.1; simp at this; exact this.symm
  have gO:∀ {g o:Nat} {xs:Array Value} {T':TypeId},w.heap[g]?=some (.cells xs T' (0,0))→o+new.length≤xs.size →
    ∃ w',(Instr.storeAt T (.pointer (some ⟨g,o,none⟩)) y).run P w = .ok () w'∧w'.heap[g]?=some (.cells (j6 xs o y.cells.toList) T' (0,0))∧uV w w' g:=fun {g o xs T'} hh hle=>by
   obtain⟨w',h1,h2,h3⟩:=lq (P:=P) o y.cells.toList 0 w xs hh (by have:=hr.1; simp at this ⊢; omega) qd
   refine⟨w',?_,by simpa using h2,h3⟩
   unfold oN at mY
   split at mY
   ·rename_i i hi
    simp only [aF] at mY
    simp only [Instr.storeAt,Instr.sureAddr,Sem.run_bind,Sem.run_pure,Result.andThen_ok,storeVar,ht.sizeOf hi,hlen,mY,ne_eq,not_true_eq_false,if_false]
    exact h1
   simp at mY
  split at h;·rename_i b o;split at h;(·rename_i cs hm;split at h;(·rename_i hle;simp only [aF] at h; subst h;cases hp with | ptr _ _ _ g e c hb =>obtain⟨g',T',xs,kc,hh,Cu,hf⟩:=hs.mem b _ hm;rw [hb] at kc; cases kc;obtain⟨w',h1,h2,h3⟩:=gO (o:=o) hh (by have:=Cu.1; simp at this; omega);exact⟨w',h1,hs.Fx hm rfl rfl hb hf h3 ⟨g,T',_,hb,h2,xN _ _ _ _ _ hr Cu,hf⟩⟩);simp at h);simp at h
  ·rename_i b vv i o;split at h;(·rename_i v' e rs hm;split at h;(·rename_i row wQ;split at h;(·rename_i ru;obtain⟨rfl,hle,ep,Cv,abz⟩:=ru;simp only [aF] at h; subst h;cases hp with | iy _ _ _ _ _ g e' c hb =>(rcases hs.mem b _ hm with ⟨rfl,-⟩ | ⟨g',T',xs,c',kc,hh,qa,o8,Cu,hf⟩);(·simp at wQ);rw [hb] at kc; cases kc;obtain⟨tU,hrc⟩:=Cu i row wQ;have hi:i<rs.length:=(az.1 wQ).1;(have hmul:i*e+e≤xs.size:=by rw [qa,← nO]; exact lE e (by omega));obtain⟨w',h1,h2,h3⟩:=gO (o:=i*e+o) hh (by omega);refine⟨w',h1,hs.Fx hm rfl rfl hb hf h3 (.inr ⟨g,T',_,c,hb,h2,by rw [lV]; exact qa,by simpa using o8,?_,hf⟩)⟩;have hyl:y.cells.toList.length=new.length:=hr.1.symm;intro i' aht Fy;rw [bK] at Fy;by_cases hii:i=i';(·subst hii;simp only [if_true,hi] at Fy;cases Fy;have hc:=DF hle abz ep;refine⟨by rw [hc,zy]; exact tU,fun j cc hj=>?_⟩;rw [hc,Fv _ _ _ _ hle] at hj;dsimp only;rw [kf _ _ _ _ (by rw [hyl]; omega),hyl];by_cases o7:o≤j∧j<o+new.length;(·rw [if_pos o7] at hj;rw [if_pos ⟨by omega,by omega⟩];obtain⟨z,hz,hzr⟩:=(hr.pure Cv).get hj;exact⟨z,by rw [← hz]; congr 1; omega,qd z (aB hz),hzr⟩);rw [if_neg o7] at hj;rw [if_neg (by omega)];exact hrc j cc hj);rw [if_neg hii] at Fy;obtain⟨h5,h6⟩:=Cu i' aht Fy;refine⟨h5,fun j cc hj=>?_⟩;obtain⟨z,hz,hz1,hzr⟩:=h6 j cc hj;(have E8:j<e:=by rw [← h5]; exact (az.1 hj).1);refine⟨z,?_,hz1,hzr⟩;dsimp only;rw [kf _ _ _ _ (by rw [hyl]; omega),hyl,if_neg ?_];(·exact hz);intro o7;(rcases Nat.lt_or_gt_of_ne hii with ca | hgt);(·have:(i+1)*e≤i'*e:=lE e ca;rw [nO] at this;omega);have:(i'+1)*e≤i*e:=lE e hgt;rw [nO] at this;omega);simp at h);simp at h);simp at h
  simp at h
 simp at h
end Go.Eng
end

section
namespace Go.Eng
variable [bg]
open Go.RowKit (Below)

def xO (E:Env) (e:Nat) (rs:List V) (ys:Array Value):Prop:=ys.size=rs.length*e∧mC E e rs (fun o=>ys[o]?)

theorem zH {i n j e:Nat} (hi:i<n) (hj:j<e):i*e+j<n*e:=by have:(i+1)*e≤n*e:=lE e hi;rw [nO] at this; omega

theorem Cw {P:Program} {E:Env} {w:World} {ad:Addr} {rows:List V} {size:Nat} (hz:∀ (i:Nat) (row:V),rows[i]?=some row→row.cells.length=size)
  (h:∀ (i:Nat) (row:V) (j:Nat) (c:V),rows[i]?=some row→row.cells[j]?=some c→∃ x,w.cell? (ad.add (i*size+j))=some x∧x.oneCell'=true∧dh E c x) :
  ∃ ys:Array Value,(loadCells ad (rows.length*size)).run P w = .ok ys w∧xO E size rows ys:=by
 let f:Nat→Value:=fun k=>(w.cell? (ad.add k)).getD default;have hf:∀ k,k<rows.length*size→w.cell? (ad.add k)=some (f k):=fun k hk=>by (have hs:0<size:=Nat.pos_of_ne_zero fun e=>by subst e; simp at hk);(have hi:k / size<rows.length:=by rwa [aqC hs]);have hj:k % size<size:=apK _ hs;have wQ:=ak hi;have o8:=hz _ _ wQ;obtain⟨x,hx,-⟩:=h _ _ (k % size) _ wQ (ak (by rw [o8]; exact hj));rw [Nat.mul_comm,aqb] at hx;simp [f,hx]
 refine⟨((List.range (rows.length*size)).map f).toArray,run_loadCells w ad _ f hf,by simp,fun i row hi=>⟨hz i row hi,fun j c hj=>?_⟩⟩;obtain⟨x,hx,h1,hr⟩:=h i row j c hi hj;have ga:i<rows.length:=(az.1 hi).1;have E8:j<size:=by rw [← hz i row hi]; exact (az.1 hj).1
 refine⟨x,?_,h1,hr⟩;have:=zH ga E8;simp [this,f,hx]

def rowsOf (mem:List bm) (size:Nat):V→Option (List V)
 | .slice rows=>if c5 rows 0 size=true then some rows else none
 | .ms b v s l=>match mem[b]? with
  | some (.rows v' e rs)=>if v'=v∧e=size∧s+l≤rs.length then some ((rs.drop s).take l) else none
  | some (.uR v' e rs)=>if v'=v∧e=size∧s+l≤rs.length then some ((rs.drop s).take l) else none
  | _=>none
 | .sc (.slice none 0 0)=>some []
 | _=>none

theorem yV {rs:List V} {s l i:Nat} {row:V} (h:((rs.drop s).take l)[i]?=some row):rs[s+i]?=some row:=by
 rw [iZ] at h;split at h;·simpa using h
 simp at h

theorem jG {P:Program} {E:Env} {w:World} {a:Act} {st:St} (hs:dr E w a st) {size:Nat} {v:V} {x:Value} {rows:List V} (hr:dh E v x) (h:rowsOf st.mem size v=some rows) :
  ∃ aa cap,x = .slice aa rows.length cap∧rows.length≤cap∧∃ ys:Array Value,(Builtin.firstCells size rows.length x).run P w = .ok ys w∧xO E.pure size rows ys:=by
 have DG:∀ n,n=0→∃ ys:Array Value,(Builtin.firstCells size n (.slice none n 0)).run P w = .ok ys w∧xO E.pure size [] ys:=fun n hn=>by subst hn;exact⟨#[],rfl,by simp,fun i row hi=>by simp at hi⟩
 unfold rowsOf at h;split at h;·rename_i od;split at h;(·rename_i wU;simp only [aF] at h; subst h;cases hr with | slice _ _ aa cap tR ad xf ha nR hz hF qd hR =>refine⟨aa,cap,rfl,nR,?_⟩;cases nh:od with | nil =>(subst nh;cases aa with | none=>exact DG 0 rfl | some a0=>exact⟨#[],by simp [Builtin.firstCells,loadCells,loadCellsFrom],by simp,fun i row hi=>by simp at hi⟩) | cons r0 rr =>(have ep:od≠[]:=by simp [nh]);(have he:tR=size:=by unfold c5 at wU;(have h0:od[0]?=some r0:=by simp [nh]);rw [h0] at wU;simp only [beq_iff_eq] at wU;rw [← wU,hz 0 _ h0]);subst he;obtain rfl:=ha ep;rw [← nh];exact Cw (P:=P) hz fun i row j c hi hj=>⟨_,hs.F _ _ (hF i row j c hi hj),qd i row j c hi hj,hR i row j c hi hj⟩);simp at h
 ·rename_i b v s l
  have hms:∀ (rs:List V),s+l≤rs.length→rows=(rs.drop s).take l→(∀ g e c,E.cI b v=some (g,e,c)→e=size∧mC E.pure size rs (fun o=>w.cell? ⟨g,o,none⟩)) →
    ∃ aa cap,x = .slice aa rows.length cap∧rows.length≤cap∧∃ ys:Array Value,(Builtin.firstCells size rows.length x).run P w = .ok ys w∧xO E.pure size rows ys:=by
   intro rs hl nh hb
   have hlen:rows.length=l:=by rw [nh]; simp; omega
   cases hr with
   | jl =>
    have:rows=[]:=cC.1 hlen
    subst this
    exact⟨none,0,rfl,aw _,DG 0 rfl⟩
   | ms _ _ _ _ _ g e c aa cap gi hla SR Cs =>
    obtain⟨rfl,hrk⟩:=hb g e c gi
    rw [← hlen]
    refine⟨aa,cap,rfl,by omega,?_⟩
    by_cases XD:0<l
    ·obtain rfl:=hla XD
     refine Cw (P:=P) (fun i row hi=>?_) fun i row j c hi hj=>?_
     ·rw [nh] at hi; exact (hrk _ _ (yV hi)).1
     rw [nh] at hi
     obtain⟨x,hx,h1,h2⟩:=(hrk _ _ (yV hi)).2 j c hj
     exact⟨x,by rw [add_lit,← hx]; congr 2; rw [jx]; omega,h1,h2⟩
    have:rows=[]:=cC.1 (by omega)
    subst this
    cases aa with
    | none=>exact⟨#[],rfl,by simp,fun i row hi=>by simp at hi⟩
    | some a0=>exact⟨#[],by simp [Builtin.firstCells,loadCells,loadCellsFrom],by simp,fun i row hi=>by simp at hi⟩
  split at h;·rename_i v' e rs hm;split at h;(·rename_i hc;obtain⟨rfl,hc⟩:=hc;simp only [aF] at h;refine hms rs hc.2 h.symm fun g e' c hb=>?_;(rcases hs.mem b _ hm with ⟨-,hn⟩ | ⟨g',T',xs,c',kc,hh,-,-,Cu,-⟩);(·rw [hb] at hn; cases hn);rw [hb] at kc; cases kc;refine⟨hc.1,?_⟩;rw [hc.1] at Cu;intro i row hi;obtain⟨h1,h2⟩:=Cu i row hi;exact⟨h1,fun j c hj=>by dsimp only; rw [oP hh]; exact h2 j c hj⟩);simp at h
  ·rename_i v' e rs hm;split at h;(·rename_i hc;obtain⟨rfl,hc⟩:=hc;simp only [aF] at h;refine hms rs hc.2 h.symm fun g e' c hb=>?_;(rcases hs.mem b _ hm with ⟨-,hn⟩ | ⟨g',c',kc,-,Cu⟩);(·rw [hb] at hn; cases hn);rw [hb] at kc; cases kc;refine⟨hc.1,?_⟩;rw [hc.1] at Cu;intro i row hi;obtain⟨h1,h2⟩:=Cu i row hi;exact⟨h1,fun j c hj=>let ⟨x,hx,h⟩:=h2 j c hj; ⟨x,hs.F _ _ hx,h⟩⟩);simp at h
  simp at h
 ·simp only [aF] at h; subst h;obtain rfl:=gN hr;exact⟨none,0,rfl,aw _,DG 0 rfl⟩
 simp at h

def lL:V→V
 | .sc (.slice none 0 0)=>.slice []
 | v=>v
theorem pJ {E:Env} {v:V} {x:Value} (h:dh E v x):dh E (lL v) x:=by
 unfold lL;split;·obtain rfl:=gN h;exact .slice _ [] none 0 0 default (fun _ _=>default) (by simp) (by simp) (by simp) (by simp) (by simp) (by simp)
 exact h
def Iv:V→V
 | .agg cs=>.agg (cs.map lL)
 | v=>lL v
theorem Iw {v:V} {cs:List V} (h:lW v=some cs):(Iv v).cells=cs.map lL:=by
 unfold lW at h;split at h;·split at h;(·simp only [aF] at h; subst h; rfl);simp at h
 rename_i ep;split at h;·simp only [aF] at h; subst h;(cases v <;> first | exact absurd rfl (ep _) | rfl | skip);rename_i v;simp only [Iv,lL,cR,cP];split <;> rfl
 simp at h
theorem cY.lL {E:Env}:∀ {vs:List V} {xs:List Value},cY E vs xs→cY E (vs.map lL) xs
 | [],xs,h=>h
 | v :: vs,xs,h=>by
  obtain⟨x,ys,rfl,h1,h2⟩:=h.of_cons
  exact .cons (pJ h1) (cY.lL h2)

def sB (size:Nat):List V→Option (List V)
 | []=>some []
 | v :: r=>match lW v with
  | some cs=>if cs.length=size∧cs.all iH=true then (match sB size r with | some rs=>some (Iv v :: rs) | none=>none) else none
  | none=>none

def rv:Nat→List (Nat×Operand)→Bool
 | _,[]=>true
 | k,(i,_) :: r=>i==k&&rv (k+1) r

theorem xP (off:Nat):∀ (l:List Value) (n:Nat) (cs:Array Value),(l.zipIdx n).foldl (fun cs (x:Value×Nat)=>cs.setIfInBounds (off+x.2) x.1) cs=j6 cs (off+n) l:=by intro l;induction l with | nil=>intro n cs; rfl | cons v r ih=>intro n cs; rw [List.zipIdx_cons,aM,ih,j6,oI]

theorem Og {E:Env} {size:Nat}:∀ (parts:List (Nat×Operand)) (k:Nat) (ev:Operand→V) (av:Operand→Value) (Z:Array Value) (rs:List V),(∀ p∈parts,dh E (ev p.2) (av p.2))→rv k parts=true →
  sB size (parts.map fun p=>ev p.2)=some rs→(k+parts.length)*size≤Z.size →
  ∃ Z',Instr.fill (fun i=>some (i*size,size)) Z (parts.map fun p=>(p.1,av p.2))=some Z'∧Z'.size=Z.size∧rs.length=parts.length∧(∀ o,o<k*size→Z'[o]?=Z[o]?) ∧
   mC E.pure size rs (fun o=>Z'[k*size+o]?):=by intro parts;induction parts with | nil =>intro k ev av Z rs _ _ hl _;simp only [cP,sB,aF] at hl; subst hl;exact⟨Z,rfl,rfl,rfl,fun _ _=>rfl,fun i row hi=>by simp at hi⟩ | cons p r ih =>intro k ev av Z rs ni L6 hl mY;obtain⟨i,o⟩:=p;simp only [rv,aL,beq_iff_eq] at L6;obtain⟨rfl,L6⟩:=L6;simp only [cR,sB] at hl;split at hl;(·rename_i cs Dn;split at hl;(·rename_i hc;split at hl;(·rename_i nj XG;simp only [aF] at hl; subst hl;obtain⟨hr,qd⟩:=qi (ni (i,o) (b9 ..)) Dn;(have V1:(av o).cells.size=size:=by have:=hr.1; simp at this; omega);simp only [ay] at mY;(have hmul:i*size+size≤Z.size:=by have:(i+1)*size≤(i+(r.length+1))*size:=lE _ (by omega);rw [nO] at this; omega);obtain⟨Z',h1,h2,h3,h4,h5⟩:=ih (i+1) ev av (j6 Z (i*size) (av o).cells.toList) nj (fun p hp=>ni p (bP _ hp)) L6 XG (by rw [lV]; rw [show i+1+r.length=i+(r.length+1) from by omega]; exact mY);(have hlen:(av o).cells.toList.length=size:=by simpa using V1);(have NV:∀ q,(j6 Z (i*size) (av o).cells.toList)[q]?=if i*size≤q∧q<i*size+size then (av o).cells.toList[q-i*size]? else Z[q]?:=fun q=>by rw [kf _ _ _ _ (by rw [hlen]; exact hmul),hlen]);refine⟨Z',?_,by rw [h2,lV],by simp [h3],fun q hq=>?_,fun q row hq=>?_⟩;(·simp only [cR,Instr.fill,V1];rw [if_neg (by simp; omega)];rw [← h1];congr 1;rw [← apX,aqw];exact xP (i*size) (av o).cells.toList 0 Z);(·rw [h4 q (by rw [nO]; omega),NV,if_neg (by omega)]);cases q with | zero =>simp only [dk,aF] at hq; subst hq;rw [Iw Dn];refine⟨by simpa using hc.1,fun j c hj=>?_⟩;(have E8:j<size:=by rw [← hc.1]; simpa using (az.1 hj).1);obtain⟨x,hx,Oc⟩:=(hr.pure hc.2).lL.get hj;refine⟨x,?_,qd x (aB hx),Oc⟩;dsimp only;rw [Nat.zero_mul,bE,h4 _ (by rw [nO]; omega),NV,if_pos ⟨by omega,by omega⟩,← hx];congr 1; omega | succ q =>simp only [dx] at hq;obtain⟨h6,h7⟩:=h5 q row hq;refine⟨h6,fun j c hj=>?_⟩;obtain⟨x,hx,NW,Oc⟩:=h7 j c hj;refine⟨x,?_,NW,Oc⟩;dsimp only at hx ⊢;rw [← hx];congr 1;rw [nO,nO]; omega);simp at hl);simp at hl);simp at hl

def wV (tt:Table) (T:TypeId) (len:Nat) (parts:List (Nat×Operand)) (ev:Operand→V):Option (Nat×List V) :=
 match jy tt T with
 | some e=>match oN tt e with
  | some size=>if rv 0 parts=true∧parts.length=len∧len*size≤65536 then (match sB size (parts.map fun p=>ev p.2) with | some rs=>some (size,rs) | none=>none) else none
  | none=>none
 | none=>none

theorem DH {P:Program} {tt:Table} (ht:TT P tt) {E:Env} {w:World} {a:Act} {ev:Operand→V} {T:TypeId} {len size:Nat} {parts:Array (Nat×Operand)} {rs:List V} (iz:∀ p∈parts.toList,dh E (ev p.2) (a.eval p.2))
  (h:wV tt T len parts.toList ev=some (size,rs)) :
  ∃ (Z:Array Value) (e:TypeId),(Instr.buildSlice T len (parts.map fun (i,x)=>(i,a.eval x))).run P w = .ok (.slice (some ⟨w.heap.size,0,none⟩) len len) (w.alloc (.cells Z e (0,0)))∧Z.size=len*size∧rs.length=len∧mC E.pure size rs (fun o=>Z[o]?):=by unfold wV jy oN at h;cases hT:tt T with | none=>rw [hT] at h; simp at h | some iT =>rw [hT] at h; simp only at h;cases he:iT.elem with | none=>rw [he] at h; simp at h | some e =>rw [he] at h; simp only at h;cases hE:tt e with | none=>rw [hE] at h; simp at h | some ie =>rw [hE] at h; simp only at h;split at h;(·rename_i hc;obtain⟨L6,hlen,amI⟩:=hc;split at h;(·rename_i nj Oh;simp only [aF,eA] at h;obtain⟨rfl,rfl⟩:=h;obtain⟨d,hd,-,Ds,-⟩:=ht.desc T iT hT;obtain rfl:=Ds e he;obtain⟨info,xQ,V2,-,z,hz,Fz⟩:=ht.size e ie hE;(have hzero:∀ w':World,(zeroValue e).run P w' = .ok z w':=fun w'=>by simp [zeroValue,hY xQ,hz]);obtain⟨zc,hzc⟩:∃ zc:Array Value,zc=if len*ie.size=0 then #[] else z.cells:=⟨_,rfl⟩;obtain⟨Z',h1,h2,h3,-,h5⟩:=Og (size:=ie.size) parts.toList 0 ev a.eval ((Array.range (len*ie.size)).map (zc[· % zc.size]!)) nj iz L6 Oh (by simp [hlen]);refine⟨Z',e,?_,by simpa using h2,by omega,by simpa using h5⟩;(have tV:(parts.map fun (i,x)=>(i,a.eval x)).toList=parts.toList.map fun p=>(p.1,a.eval p.2):=by simp);unfold Instr.buildSlice;simp only [Sem.run_bind,bG hd,Result.andThen_ok,ht.sizeOf hE];rw [if_neg (by omega)];by_cases h0:len*ie.size=0;(·simp only [h0,if_true,Sem.run_pure,Result.andThen_ok,tV];rw [if_pos h0] at hzc;subst hzc;rw [h0] at h1;simp only [Sem.run_bind,Sem.run_pure,Result.andThen_ok,tV];simp only [h1];simp [newRow]);simp only [h0,if_false,Sem.run_bind,hzero,Sem.run_pure,Result.andThen_ok,tV];rw [if_neg h0] at hzc;subst hzc;simp only [h1];simp [newRow]);simp at h);simp at h
end Go.Eng
end

section
namespace Go.Eng
variable [bg]
open Go.RowKit (Below)

section
variable {P:Program} {w:World}
theorem zI {t u ty e e':TypeId} {i:TypeInfo} (ht:P.underlying t=some (.slice e)) (hu:P.underlying u=some (.slice e')) (hi:P.info? e=some i) (g qW jP n c:Nat) (aa:Option Addr) (news:Array Value)
  (hf:(Builtin.firstCells i.size n (.slice aa n c)).run P w = .ok news w) (uX:qW+n≤jP) {w':World} (wS:(storeCells ⟨g,qW*i.size,none⟩ news.toList).run P w = .ok () w') :
  (Builtin.append_ #[t,u] ty #[.slice (some ⟨g,0,none⟩) qW jP,.slice aa n c]).run P w = .ok (.slice (some ⟨g,0,none⟩) (qW+n) jP) w':=by simp [Builtin.append_,bG ht,bG hu,iE hi,Builtin.lenOf,uX,hf,add_lit,wS]

theorem j7 {t u ty e e':TypeId} {i:TypeInfo} (ht:P.underlying t=some (.slice e)) (hu:P.underlying u=some (.slice e')) (hi:P.info? e=some i) (c:Nat) (aa:Option Addr) (news:Array Value)
  (hf:(Builtin.firstCells i.size 0 (.slice aa 0 c)).run P w = .ok news w) :
  (Builtin.append_ #[t,u] ty #[.slice none 0 0,.slice aa 0 c]).run P w = .ok (.slice none 0 0) w:=by simp [Builtin.append_,bG ht,bG hu,iE hi,Builtin.lenOf,hf]

theorem lX {t u ty e e':TypeId} {i:TypeInfo} {z:Value} (ht:P.underlying t=some (.slice e)) (hu:P.underlying u=some (.slice e')) (hi:P.info? e=some i) (hz:i.zero=some z) (base:Option Addr) (qW jP n c:Nat)
  (aa:Option Addr) (abD news:Array Value) (hfo:(Builtin.firstCells i.size qW (.slice base qW jP)).run P w.drew = .ok abD w.drew) (hf:(Builtin.firstCells i.size n (.slice aa n c)).run P w.drew = .ok news w.drew)
  (hg:jP<qW+n) (h63:((qW+n:Nat):Int)≤9223372036854775807) (B4:Builtin.nextslicecap (qW+n) jP*i.bytes≤281474976710656) :
  (Builtin.append_ #[t,u] ty #[.slice base qW jP,.slice aa n c]).run P w =
   .ok (.slice (some ⟨w.heap.size,0,none⟩) (qW+n) (grownCap w (qW+n) jP e))
    (w.drew.alloc (.cells (abD++news++Builtin.zeroCells z.cells (grownCap w (qW+n) jP e-(qW+n))) e)):=by
 have hn:¬ (qW+n≤jP):=by omega
 have ahw:¬ (9223372036854775807<((qW:Int)+(n:Int))):=by omega
 have ahx:¬ (281474976710656<Builtin.nextslicecap (qW+n) jP*i.bytes):=by omega
 simp [Builtin.append_,bG ht,bG hu,hY hi,iE hi,zeroValue,hz,Builtin.lenOf,hn,ahw,ahx,Question.forced,hf,hfo,newRow,grownCap]
end

def ry (mem:List bm) (size:Nat):V→Option (Option (Nat×Nat)×List V)
 | .sc (.slice none 0 0)=>some (none,[])
 | .full rows=>if c5 rows 0 size=true then some (none,rows) else none
 | .ms b v 0 l=>match mem[b]? with
  | some (.rows v' e rs)=>if v'=v∧e=size∧rs.length=l then some (some (b,v),rs) else none
  | _=>none
 | _=>none

def FA:V→List V→Bool
 | .full _,[]=>false
 | _,_=>true
theorem Oi (b v s l:Nat) (xs:List V):FA (.ms b v s l) xs=true:=rfl
theorem Oj (v:Value) (xs:List V):FA (.sc v) xs=true:=rfl
theorem Ix (v x:V) (xs:List V):FA v (x :: xs)=true:=by cases v <;> rfl
def ji (tt:Table) (mem:List bm) (ts:List TypeId) (s x:V):Option (Nat×Option (Nat×Nat)×List V) :=
 match ts with
 | [t,u]=>match tt t with
  | some it=>match it.elem with
   | some e=>match jy tt u with
    | some _=>match tt e with
     | some i =>
      if 0<i.size∧i.bytes≤4096∧i.zero.length=i.size then
       match ry mem i.size s with
       | some (tW,rs)=>match rowsOf mem i.size x with
        | some xs=>if rs.length+xs.length≤34359738368 then (if FA s xs=true then some (i.size,tW,rs++xs) else none) else none
        | none=>none
       | none=>none
      else none
     | none=>none
    | none=>none
   | none=>none
  | none=>none
 | _=>none

def gE (mem:List bm) (key size:Nat) (rows:List V):Option (Nat×Nat)→List bm×V
 | none=>(dB mem key (.rows 0 size rows),.ms key 0 0 rows.length)
 | some (b,v)=>(mem.set b (.rows (v+1) size rows),.ms b (v+1) 0 rows.length)

theorem dr.renew {E:Env} {w w':World} {a:Act} {st:St} (hs:dr E w a st) {b v e0 g e c:Nat} {rs rows:List V} (hm:st.mem[b]?=some (.rows v e0 rs)) (hF:∀ ad x,E.F ad=some x→w'.cell? ad=some x) (mY:w.heap.size≤w'.heap.size)
  (hg:g<w'.heap.size) (XH:∀ k B',k≠b→st.mem[k]?=some B'→B'.held=true→∀ g' e' c',E.cI k B'.dV=some (g',e',c')→w'.heap[g']?=w.heap[g']?∧g'≠g)
  (hB:ob (E.with b (v+1) (g,e,c)) w' b (.rows (v+1) e rows)) (yW:∀ k v' e' c',E.cI k v'=some (g,e',c')→k=b):dr (E.with b (v+1) (g,e,c)) w' a { st with mem:=st.mem.set b (.rows (v+1) e rows) }:=by
 have hn:∀ v',v<v'→E.cI b v'=none:=fun v' zp=>hs.dV b _ hm v' zp;have hle:E.le (E.with b (v+1) (g,e,c)):=Env.m4 (hn _ (lR v)) _;have fT:(E.with b (v+1) (g,e,c)).cI b (v+1)=some (g,e,c):=if_pos ⟨rfl,rfl⟩;have iG:∀ k v',¬ (k=b∧v'=v+1)→(E.with b (v+1) (g,e,c)).cI k v'=E.cI k v':=fun k v' ep=>if_neg ep;have SV:∀ k v',k≠b→(E.with b (v+1) (g,e,c)).cI k v'=E.cI k v':=fun k v' ep=>iG k v' fun h=>ep h.1;have ca:b<st.mem.length:=(az.1 hm).1;have j1:∀ (k:Nat) (B:bm),(st.mem.set b (.rows (v+1) e rows))[k]?=some B→(k=b∧B = .rows (v+1) e rows)∨(k≠b∧st.mem[k]?=some B):=fun k B hk=>by rw [bK] at hk;by_cases kT:b=k;(·subst kT; simp only [if_true,ca] at hk; cases hk; exact .inl ⟨rfl,rfl⟩);rw [if_neg kT] at hk; exact .inr ⟨fun e=>kT e.symm,hk⟩
 refine⟨hF,fun k v' g' e' c' hb=>?_,fun k B hk=>?_,fun k hk v'=>?_,fun k B hk v' zp=>?_,fun k k' v1 v2 g' e1 c1 e2 c2 h5 h6=>?_,hs.fr.mono hle⟩;·by_cases hq:k=b∧v'=v+1;(·obtain⟨rfl,rfl⟩:=hq; rw [fT] at hb; cases hb; exact hg);rw [iG k v' hq] at hb; exact qL (hs.lt _ _ _ _ _ hb) mY
 ·(rcases j1 k B hk with ⟨rfl,rfl⟩ | ⟨kT,iQ⟩);(·exact hB);cases SY:B.held with | false =>(have:=hs.mem k B iQ;cases B with | hole=>(exact fun v'=>by rw [SV k v' kT]; exact this v') | dead=>trivial | _=>simp [bm.held] at SY) | true=>exact (hs.mem k B iQ).mono hle (fun v' h=>by rw [SV k v' kT]; exact h) (fun g' e' c' gi=>(XH k B kT iQ SY g' e' c' gi).1) fun _ _ _ _ _ h=>h
 ·(have iQ:st.mem.length≤k:=by simpa using hk);rw [SV k v' (by omega)]; exact hs.top k iQ v'
 ·(rcases j1 k B hk with ⟨rfl,rfl⟩ | ⟨kT,iQ⟩);(·have:v+1<v':=zp;rw [iG k v' (by omega)]; exact hn v' (by omega));rw [SV k v' kT]; exact hs.dV k B iQ v' zp
 by_cases hq:k=b∧v1=v+1 <;> by_cases SZ:k'=b∧v2=v+1;·rw [hq.1,SZ.1]
 ·obtain⟨rfl,rfl⟩:=hq; rw [fT] at h5; cases h5; rw [iG k' _ SZ] at h6; exact (yW _ _ _ _ h6).symm
 ·obtain⟨rfl,rfl⟩:=SZ; rw [fT] at h6; cases h6; rw [iG k _ hq] at h5; exact yW _ _ _ _ h5
 rw [iG k _ hq] at h5; rw [iG k' _ SZ] at h6;exact hs.apart _ _ _ _ _ _ _ _ _ h5 h6

theorem dr.FD {E:Env} {w:World} {a:Act} {st:St} (hs:dr E w a st) {b v e0 e:Nat} {rs:List V} (hm:st.mem[b]?=some (.rows v e0 rs)):dr E w a { st with mem:=st.mem.set b (.rows (v+1) e []) }:=by
 have hn:∀ v',v<v'→E.cI b v'=none:=fun v' zp=>hs.dV b _ hm v' zp;have ca:b<st.mem.length:=(az.1 hm).1;have j1:∀ (k:Nat) (B:bm),(st.mem.set b (.rows (v+1) e []))[k]?=some B→(k=b∧B = .rows (v+1) e [])∨(k≠b∧st.mem[k]?=some B):=fun k B hk=>by rw [bK] at hk;by_cases kT:b=k;(·subst kT; simp only [if_true,ca] at hk; cases hk; exact .inl ⟨rfl,rfl⟩);rw [if_neg kT] at hk; exact .inr ⟨fun e=>kT e.symm,hk⟩
 refine⟨hs.F,hs.lt,fun k B hk=>?_,fun k hk v'=>hs.top k (by simpa using hk) v',fun k B hk v' zp=>?_,hs.apart,hs.fr⟩;·(rcases j1 k B hk with ⟨rfl,rfl⟩ | ⟨kT,iQ⟩);(·exact .inl ⟨rfl,hn _ (lR v)⟩);exact hs.mem k B iQ
 rcases j1 k B hk with ⟨rfl,rfl⟩ | ⟨kT,iQ⟩
 ·exact hn v' (Nat.lt_of_succ_lt zp)
 exact hs.dV k B iQ v' zp

theorem m5 {E:Env} {e:Nat} {rs xs:List V} {A B C:Array Value} (h1:xO E e rs A) (h2:xO E e xs B):mC E e (rs++xs) (fun o=>(A++B++C)[o]?):=by
 intro i row hi;rw [VW] at hi;split at hi;·rename_i ca;obtain⟨h3,h4⟩:=h1.2 i row hi;refine⟨h3,fun j c hj=>?_⟩;obtain⟨x,hx,hr⟩:=h4 j c hj;dsimp only at hx;have XI:i*e+j<A.size:=(dN.1 hx).1;refine⟨x,?_,hr⟩;dsimp only;rw [aqo,ap5 XI,hx]
 rename_i ig;obtain⟨h3,h4⟩:=h2.2 (i-rs.length) row hi;refine⟨h3,fun j c hj=>?_⟩;obtain⟨x,hx,hr⟩:=h4 j c hj;dsimp only at hx;have XI:(i-rs.length)*e+j<B.size:=(dN.1 hx).1;refine⟨x,?_,hr⟩;dsimp only;have hmul:i*e=A.size+(i-rs.length)*e:=by rw [h1.1,← jx]; congr 1; omega
 rw [aqo,aqH (by omega),ap5 (by omega),← hx];congr 1; omega

theorem DI {E:Env} {b v s l:Nat} {x:Value} (h:dh E (.ms b v s l) x):(l=0∧x = .slice none 0 0) ∨
  ∃ g e c a cap,x = .slice a l cap∧E.cI b v=some (g,e,c)∧(0<l→a=some ⟨g,s*e,none⟩)∧(s=0→a=some ⟨g,0,none⟩∧cap=c)∧(l≤cap∧s+cap=c∧(0<cap→a=some ⟨g,s*e,none⟩)):=by cases h with | jl=>exact .inl ⟨rfl,rfl⟩ | ms _ _ _ _ _ g e c a cap hb hl h0 hc=>exact .inr ⟨g,e,c,a,cap,rfl,hb,hl,h0,hc⟩

theorem xR {E:Env} {e:Nat} {xs:List V} {A:Array Value} (zJ:0<e) (h:xO E e xs A):∀ v∈A.toList,v.oneCell'=true:=by
 intro v hv;obtain⟨q,hq,rfl⟩:=List.mem_iff_getElem.1 hv;have SZ:q<xs.length*e:=by rw [← h.1]; simpa using hq
 have hiq:q / e<xs.length:=by rwa [aqC zJ]
 have wQ:=ak hiq;obtain⟨ahy,uY⟩:=h.2 _ _ wQ;obtain⟨vv,hvv,Ib,-⟩:=uY (q % e) _ (ak (by rw [ahy]; exact apK _ zJ));dsimp only at hvv;rw [Nat.mul_comm,aqb] at hvv;have:A.toList[q]=vv:=by (have XJ:q<A.size:=by simpa using hq);rw [ch XJ] at hvv;simpa using hvv
 rw [this]; exact Ib

theorem B5 {P:Program} {tt:Table} (ht:TT P tt) {E:Env} {w:World} {a:Act} {st:St} (hs:dr E w a st) {ts:Array TypeId} {ty:TypeId} {s x:V} {y z:Value} {size:Nat} {tW:Option (Nat×Nat)} {rows:List V} {key:Nat}
  (hk:jF st.mem key) (Iy:dh E s y) (Oc:dh E x z) (h:ji tt st.mem ts.toList s x=some (size,tW,rows)) :
  ∃ v w' E',(Builtin.append_ ts ty #[y,z]).run P w = .ok v w'∧dr E' w' a { st with mem:=(gE st.mem key size rows tW).1 }∧iC E w E' w'∧dh E' (gE st.mem key size rows tW).2 v:=by
 unfold ji at h;split at h
 ·rename_i t u Cx;obtain rfl:ts = #[t,u]:=by rw [← di (xs:=ts),Cx]
  split at h
  ·rename_i it hT;split at h
   ·rename_i e he;split at h
    ·rename_i e' NY;split at h
     ·rename_i i hE;split at h
      ·rename_i hc;obtain⟨zJ,zK,Fz⟩:=hc;split at h
       ·rename_i amK rs nQ;split at h
        ·rename_i xs qa;split at h
         ·rename_i hlen;split at h;case isFalse=>cases h
          rename_i ahz;simp only [aF,eA] at h;obtain⟨rfl,rfl,rfl⟩:=h;obtain⟨d,hd,-,Ds,-⟩:=ht.desc t it hT;obtain rfl:=Ds e he;have Fa:∃ e1,P.underlying u=some (.slice e1):=by unfold jy at NY;split at NY;(·rename_i iu hU;obtain⟨d,hd,-,Ds,-⟩:=ht.desc u iu hU;exact⟨e',by rw [hd,Ds e' NY]⟩);simp at NY
          obtain⟨e1,Fa⟩:=Fa;obtain⟨info,xQ,V2,hi3,z0,XK,hz1⟩:=ht.size e i hE;have XL:z0.cells.size=info.size:=by rw [V2,← Fz,← hz1]; simp
          rw [← V2] at qa nQ zJ ⊢;rw [← hi3] at zK;have V3:dr E w.drew a st:=hs.drew;obtain⟨xa,xc,rfl,hxc,xA,NW,S0⟩:=jG (P:=P) hs Oc qa;obtain⟨xa',xc',heq,-,xB,hx3,XM⟩:=jG (P:=P) V3 Oc qa;simp only [Value.slice.injEq] at heq;obtain⟨rfl,-,rfl⟩:=heq
          have B4:∀ jP,jP<rs.length+xs.length→Builtin.nextslicecap (rs.length+xs.length) jP*info.bytes≤281474976710656:=fun jP ca =>
           growslice_fits ca (Co (ap6 hlen zK) (by decide))
          have tU:(rs++xs).length=rs.length+xs.length:=by simp
          have ig:∀ jP,rs.length+xs.length≤grownCap w (rs.length+xs.length) jP e:=fun jP=>grownCap_ge w (rs.length+xs.length) jP e;have rz:∀ (jP:Nat) (A:Array Value),xO E.pure info.size rs A→(A++xB++Builtin.zeroCells z0.cells (grownCap w (rs.length+xs.length) jP e-(rs.length+xs.length))).size=grownCap w (rs.length+xs.length) jP e*info.size:=fun jP A hrA=>by simp only [abr,size_zeroCells,XL,hrA.1,XM.1,← jx];congr 1; have:=ig jP; omega
          unfold ry at nQ;split at nQ;·simp only [aF,eA] at nQ;obtain⟨rfl,rfl⟩:=nQ;obtain rfl:=gN Iy;by_cases h0:xs.length=0;(·have abH:xs=[]:=cC.1 h0;subst abH;exact⟨_,w,E,j7 (ty:=ty) hd Fa xQ xc xa xA NW,hs.Ts hk info.size,iC.refl E w,.jl _ _ _ _⟩);have gO:=lX (ty:=ty) hd Fa xQ XK none 0 0 xs.length xc xa #[] xB rfl hx3 (by omega) (by omega) (B4 0 (by simp; omega));obtain⟨E',h5,h6,h7⟩:=dr.uU V3 (key:=key) hk (xs := #[]++xB++Builtin.zeroCells z0.cells (grownCap w (([]:List V).length+xs.length) 0 e-(([]:List V).length+xs.length))) (rs:=[]++xs) (e:=info.size) (c:=grownCap w (([]:List V).length+xs.length) 0 e) e (rz 0 #[] ⟨by simp,fun i row hi=>by simp at hi⟩) (by rw [tU]; exact ig 0) (m5 ⟨by simp,fun i row hi=>by simp at hi⟩ XM);refine⟨_,_,E',gO,h5,(iC.drew E w).trans h6,?_⟩;simp only [gE];rw [tU] at h7 ⊢;exact h7
          ·rename_i od;split at nQ;(case isFalse=>cases nQ);rename_i wU;simp only [aF,eA] at nQ;obtain⟨rfl,rfl⟩:=nQ;(have KB:0<xs.length:=by cases xs with | nil=>simp [FA] at ahz | cons _ _=>simp);cases Iy with | full _ _ sa Iy =>(have XF:rowsOf st.mem info.size (.slice od)=some od:=by simp only [rowsOf]; rw [if_pos wU]);obtain⟨sa',sc,heq,hsc,A,uZ,wL⟩:=jG (P:=P) V3 Iy XF;simp only [Value.slice.injEq] at heq;obtain⟨rfl,-,rfl⟩:=heq;have gO:=lX (ty:=ty) hd Fa xQ XK sa od.length od.length xs.length xc xa A xB uZ hx3 (by omega) (by omega) (B4 _ (by omega));obtain⟨E',h5,h6,h7⟩:=dr.uU V3 (key:=key) hk (xs:=A++xB++Builtin.zeroCells z0.cells (grownCap w (od.length+xs.length) od.length e-(od.length+xs.length))) (rs:=od++xs) (e:=info.size) (c:=grownCap w (od.length+xs.length) od.length e) e (rz od.length A wL) (by rw [tU]; exact ig _) (m5 wL XM);refine⟨_,_,E',gO,h5,(iC.drew E w).trans h6,?_⟩;simp only [gE];rw [tU] at h7 ⊢;exact h7
          ·rename_i b v l;split at nQ
           ·rename_i v' eb nj hm;split at nQ
            ·rename_i yX;obtain⟨rfl,rfl,V4⟩:=yX;simp only [aF,eA] at nQ;obtain⟨rfl,rfl⟩:=nQ;have XF:rowsOf st.mem info.size (.ms b v' 0 l)=some nj:=by simp [rowsOf,hm,V4];rw [← V4]; simp
             obtain⟨sa,sc,rfl,hsc,A,uZ,wL⟩:=jG (P:=P) V3 Iy XF;simp only [gE];by_cases uX:nj.length+xs.length≤sc
             ·
              rcases DI Iy with ⟨XD,Ok⟩ | ⟨g,eb',c,sa',sc',Ok,hb,hl,SR,Cs⟩
              ·simp only [Value.slice.injEq] at Ok
               obtain⟨rfl,ahA,rfl⟩:=Ok
               have KB:xs=[]:=cC.1 (by omega)
               have XN:nj=[]:=cC.1 (by omega)
               subst KB; subst XN
               exact⟨_,w,E,j7 (ty:=ty) hd Fa xQ xc xa xA NW,hs.FD hm,iC.refl E w,.jl _ _ _ _⟩
              simp only [Value.slice.injEq] at Ok
              obtain⟨rfl,-,rfl⟩:=Ok
              obtain⟨rfl,V5⟩:=SR rfl
              have ahB:=V5.symm
              subst ahB
              rcases hs.mem b _ hm with ⟨-,hn⟩ | ⟨g',T',cur,c',kc,hh,Dn,o8,Cu,hf⟩
              ·rw [hb] at hn; cases hn
              rw [hb] at kc; cases kc
              have zL:nj.length*info.size+xA.toList.length≤cur.size:=by
               have:=S0.1
               simp only [jY]
               rw [this,Dn,← jx]; exact lE _ uX
              obtain⟨w',wS,SX,DK⟩:=lq (P:=P) (g:=g) (T:=T') (nj.length*info.size) xA.toList 0 w cur hh (by simpa using zL) (xR zJ S0)
              have gO:=zI (ty:=ty) hd Fa xQ g nj.length c xs.length xc xa xA NW uX wS
              have hle:E.le (E.with b (v'+1) (g,info.size,c)):=Env.m4 (hs.dV b _ hm _ (lR v')) _
              have fT:(E.with b (v'+1) (g,info.size,c)).cI b (v'+1)=some (g,info.size,c):=if_pos ⟨rfl,rfl⟩
              refine⟨_,w',E.with b (v'+1) (g,info.size,c),gO,hs.renew hm (fun ad y hy=>?_) (by rw [DK.size]; exact aw _) (by rw [DK.size]; exact hs.lt _ _ _ _ _ hb) (fun k B' kT iQ V6 g' e' c' gi=>?_) ?_ (fun k v2 e2 c2 h=>hs.apart _ _ _ _ _ _ _ _ _ h hb),
               ⟨hle,fun k q g' e' c' kT=>?_,fun ad y hy=>.inl hy,DK.os,DK.tape,DK.output,by rw [DK.size]; exact aw _,fun b' kc ep=>DK.heap b' fun e=>by subst e; exact ep _ _ _ _ hb⟩,?_⟩
              ·have ep:=hs.DD hf hy
               rw [← hs.F ad y hy]; simp [World.cell?,DK.heap _ ep]
              ·have hgg:g'≠g:=fun e=>by
                subst e
                exact kT (hs.apart _ _ _ _ _ _ _ _ _ gi hb)
               exact⟨DK.heap _ hgg,hgg⟩
              ·refine .inr ⟨g,T',_,c,fT,SX,by rw [lV]; exact Dn,by rw [tU]; exact uX,?_,hf⟩
               intro q row hq
               simp only [kC]
               have FE:xA.toList.length=xs.length*info.size:=by simpa using S0.1
               rw [VW] at hq
               split at hq
               ·rename_i ca
                obtain⟨h3,h4⟩:=Cu q row hq
                refine⟨h3,fun j cc hj=>?_⟩
                obtain⟨v,hv,Ib,L7⟩:=h4 j cc hj
                have E8:j<info.size:=by rw [← h3]; exact (az.1 hj).1
                refine⟨v,?_,Ib,L7⟩
                rw [kf _ _ _ _ zL,if_neg (by have:=zH ca E8; omega)]
                exact hv
               rename_i ahC
               obtain⟨h3,h4⟩:=S0.2 _ row hq
               refine⟨h3,fun j cc hj=>?_⟩
               obtain⟨v,hv,Ib,L7⟩:=h4 j cc hj
               have E8:j<info.size:=by rw [← h3]; exact (az.1 hj).1
               have hql:q-nj.length<xs.length:=(az.1 hq).1
               have hmul:q*info.size=nj.length*info.size+(q-nj.length)*info.size:=by rw [← jx]; congr 1; omega
               refine⟨v,?_,Ib,L7⟩
               rw [kf _ _ _ _ zL,if_pos (by have:=zH hql E8; omega)]
               dsimp only at hv
               rw [← hv,fC]
               congr 1; omega
              ·by_cases hq:k=b∧q=v'+1
               ·obtain⟨rfl,rfl⟩:=hq; rw [fT] at kT; cases kT; exact .inl ⟨_,_,_,_,hb⟩
               have:(E.with b (v'+1) (g,info.size,c)).cI k q=E.cI k q:=if_neg hq
               rw [this] at kT; exact .inl ⟨_,_,_,_,kT⟩
              rw [tU]
              exact .ms _ _ _ _ _ g info.size c _ _ fT (fun _=>by simp) (fun _=>⟨rfl,rfl⟩) ⟨uX,bE _,fun _=>by simp⟩
             have ca:sc<nj.length+xs.length:=by omega
             have gO:=lX (ty:=ty) hd Fa xQ XK sa nj.length sc xs.length xc xa A xB uZ hx3 ca (by omega) (B4 sc ca);have hle:E.le (E.with b (v'+1) (w.heap.size,info.size,grownCap w (nj.length+xs.length) sc e)):=Env.m4 (hs.dV b _ hm _ (lR v')) _;have fT:(E.with b (v'+1) (w.heap.size,info.size,grownCap w (nj.length+xs.length) sc e)).cI b (v'+1)=some (w.heap.size,info.size,grownCap w (nj.length+xs.length) sc e):=if_pos ⟨rfl,rfl⟩
             refine⟨_,_,E.with b (v'+1) (w.heap.size,info.size,grownCap w (nj.length+xs.length) sc e),gO,hs.renew hm (fun ad y hy=>?_) (by simp) (by simp) (fun k B' kT iQ V6 g' e' c' gi=>?_) ?_ (fun k v2 e2 c2 h=>absurd (hs.lt _ _ _ _ _ h) (apy _)),
              ⟨hle,fun k q g' e' c' kT=>?_,fun ad y hy=>.inl hy,rfl,rfl,rfl,by simp,fun b' kc ep=>ey w.drew _ b' kc⟩,?_⟩
             ·rw [World.cell?_alloc_lt w.drew _ ad (World.block_lt_of_cell? w ad (hs.F ad y hy))]; exact hs.F ad y hy
             ·have:=hs.lt _ _ _ _ _ gi;exact⟨ey w.drew _ g' this,by omega⟩
             ·refine .inr ⟨w.heap.size,e,_,_,fT,heap_alloc_new w.drew _,rz sc A wL,by rw [tU]; exact ig sc,?_,fun o=>?_⟩;(·intro q row hq;obtain⟨h3,h4⟩:=m5 (C:=Builtin.zeroCells z0.cells (grownCap w (nj.length+xs.length) sc e-(nj.length+xs.length))) wL XM q row hq;exact⟨h3,fun j cc hj=>let ⟨v,hv,Ib,L7⟩:=h4 j cc hj; ⟨v,hv,Ib,L7.mono (Env.ld hle)⟩⟩);show E.F _=none;cases hx:E.F ⟨w.heap.size,o,none⟩ with | none=>rfl | some x=>have:=World.block_lt_of_cell? w _ (hs.F _ _ hx); simp at this
             ·by_cases hq:k=b∧q=v'+1;(·obtain⟨rfl,rfl⟩:=hq; rw [fT] at kT; cases kT; exact .inr (aw _));have:(E.with b (v'+1) (w.heap.size,info.size,grownCap w (nj.length+xs.length) sc e)).cI k q=E.cI k q:=if_neg hq;rw [this] at kT; exact .inl ⟨_,_,_,_,kT⟩
             rw [tU];exact .ms _ _ _ _ _ w.heap.size info.size _ _ _ fT (fun _=>by simp) (fun _=>⟨rfl,rfl⟩) ⟨ig sc,bE _,fun _=>by simp⟩
            simp at nQ
           simp at nQ
          simp at nQ
         simp at h
        simp at h
       simp at h
      simp at h
     simp at h
    simp at h
   simp at h
  simp at h
 simp at h
end Go.Eng
end

section
namespace Go.Eng
variable [bg]

theorem gH.set {E:Env} {dO:List (Value×Nat×V)} {es:List MapEntry} (h:gH E dO es) (i:Nat) {kb:Value×Nat×V} {e:MapEntry} (h1:e.key=kb.1) (h2:e.born=kb.2.1) (h3:dh E kb.2.2 e.val):gH E (dO.set i kb) (es.set i e):=by
  refine⟨by simp [h.1],fun j k e' hk he=>?_⟩;by_cases Ic:i=j;·subst Ic;rw [bK] at hk he;simp only [if_true] at hk he;split at hk;(·split at he;(·cases hk; cases he; exact⟨h1,h2,h3⟩);·cases he);·cases hk
  ·rw [eY Ic] at hk he; exact h.2 j k e' hk he
theorem gH.push {E:Env} {dO:List (Value×Nat×V)} {es:List MapEntry} (h:gH E dO es) {kb:Value×Nat×V} {e:MapEntry} (h1:e.key=kb.1) (h2:e.born=kb.2.1) (h3:dh E kb.2.2 e.val):gH E (dO++[kb]) (es++[e]):=by
  refine⟨by simp [h.1],fun j k e' hk he=>?_⟩;by_cases hj:j<dO.length;·rw [bF hj] at hk; rw [bF (by have:=h.1; omega)] at he; exact h.2 j k e' hk he
  ·rw [aW (by omega)] at hk; rw [aW (by have:=h.1; omega)] at he;rw [h.1] at hk;cases hd:j-es.length with | zero=>rw [hd] at hk he; simp at hk he; subst hk; subst he; exact⟨h1,h2,h3⟩ | succ n=>rw [hd] at hk; simp at hk
theorem gH.erase {E:Env}:∀ {dO:List (Value×Nat×V)} {es:List MapEntry},gH E dO es→∀ (i:Nat),gH E (dO.eraseIdx i) (es.eraseIdx i)
  | [],es,h,i=>by rw [h.of_nil]; exact⟨rfl,fun j k e hk=>by simp at hk⟩
  | k :: r,es,h,i=>by
    obtain⟨e,es',rfl,h1,h2,h3,h4⟩:=h.of_cons
    cases i with
    | zero=>exact h4
    | succ i =>
      have h5:=gH.erase h4 i
      simp only [List.eraseIdx_cons_succ]
      refine⟨by simp [h5.1],fun j k' e' hk he=>?_⟩
      cases j with
      | zero=>simp at hk he; subst hk; subst he; exact⟨h1,h2,h3⟩
      | succ j=>exact h5.2 j k' e' (by simpa using hk) (by simpa using he)

def insertAt (P:Program) (kt:TypeId) (key:Value) (v:V) (dO:List (Value×Nat×V)) (clock:Nat):Option (List (Value×Nat×V)×Nat) :=
  match pG P kt key dO with
  | some (some (i,_))=>match dO[i]? with
    | some e=>if Instr.sameBits 10000 e.1 key=true then some (dO.set i (key,e.2.1,v),clock) else none
    | none=>none
  | some none=>some (dO++[(key,clock,v)],clock+1)
  | none=>none
def dR (P:Program) (mem:List bm) (T:TypeId) (m k v:V):Option (List bm) :=
  match jh P T with
  | some (kt,_)=>match fG k with
    | some key=>if tA P kt key=true then
        match m with
        | .mp b=>match mem[b]? with
          | some (.map dO clock)=>match insertAt P kt key v dO clock with
            | some (kvs',clock')=>some (mem.set b (.map kvs' clock'))
            | none=>none
          | _=>none
        | _=>none
      else none
    | none=>none
  | none=>none
def KD (P:Program) (kt et:TypeId) (key:Value) (dO:List (Value×Nat×V)) (clock:Nat):Option (List (Value×Nat×V)×Nat×V) :=
  match pG P kt key dO with
  | some (some (i,v))=>match dO[i]? with
    | some e=>if Instr.sameBits 10000 e.1 key=true then some (dO.set i (key,e.2.1,e.2.2),clock,.eV [v,.sc (.int .i64 e.2.1)]) else none
    | none=>none
  | some none=>match zeroV P et with
    | some z=>some (dO++[(key,clock,z)],clock+1,.eV [z,.sc (.int .i64 clock)])
    | none=>none
  | none=>none
def wW (P:Program) (mem:List bm) (T:TypeId) (m k:V):Option (List bm×V) :=
  match jh P T with
  | some (kt,et)=>match fG k with
    | some key=>if tA P kt key=true then
        match m with
        | .mp b=>match mem[b]? with
          | some (.map dO clock)=>match KD P kt et key dO clock with
            | some (kvs',clock',v)=>some (mem.set b (.map kvs' clock'),v)
            | none=>none
          | _=>none
        | _=>none
      else none
    | none=>none
  | none=>none
def wX (mem:List bm) (m s v:V):Option (List bm) :=
  match m,s with
  | .mp b,.sc (.int _ n)=>match mem[b]? with
    | some (.map dO clock)=>match dO.findIdx? (fun e=>(e.2.1:Int)==n) with
      | some i=>match dO[i]? with
        | some e=>some (mem.set b (.map (dO.set i (e.1,e.2.1,v)) clock))
        | none=>none
      | none=>none
    | _=>none
  | _,_=>none
def sC (P:Program) (mem:List bm) (ts:Array TypeId):List V→Option (List bm)
  | [.mp b,k]=>match ts[0]? with
    | some T=>match jh P T with
      | some (kt,_)=>match fG k with
        | some key=>if tA P kt key=true then
            match mem[b]? with
            | some (.map dO clock)=>match pG P kt key dO with
              | some (some (i,_))=>some (mem.set b (.map (dO.eraseIdx i) clock))
              | some none=>some (mem.set b (.map dO clock))
              | none=>none
            | _=>none
          else none
        | none=>none
      | none=>none
    | none=>none
  | _=>none

theorem rA {w:World} {g:Nat} {o:Obj}:uV w { w with heap:=w.heap.setIfInBounds g o } g :=
  ⟨rfl,rfl,rfl,by simp,fun b hb=>Dm (fun e=>hb e.symm)⟩
theorem heap_set {w:World} {g:Nat} {o o':Obj} (h:w.heap[g]?=some o):({ w with heap:=w.heap.setIfInBounds g o' }:World).heap[g]?=some o':=by
  have:g<w.heap.size:=by (rcases bL g w.heap.size with h1 | h1);(·exact h1);·rw [apz h1] at h; cases h
  simp [this]
theorem dr.qj {E:Env} {w:World} {a:Act} {st:St} (hs:dr E w a st) {b g e c:Nat} {dO kvs':List (Value×Nat×V)} {clock clock':Nat} {es es':Array MapEntry} (hm:st.mem[b]?=some (.map dO clock)) (hb:E.cI b 0=some (g,e,c)) (hh:w.heap[g]?=some (.map es clock))
    (hf:∀ o,E.F ⟨g,o,none⟩=none) (hr:gH E kvs' es'.toList) :
    dr E { w with heap:=w.heap.setIfInBounds g (.map es' clock') } a { st with mem:=st.mem.set b (.map kvs' clock') }∧iC E w E { w with heap:=w.heap.setIfInBounds g (.map es' clock') }:=by obtain⟨-,-,-,-,h0⟩:=mZ hs hm hb;cases h0;exact hs.Fx hm rfl (B':=.map kvs' clock') rfl hb hf rA ⟨g,es',hb,heap_set hh,hr,hf⟩

theorem tX {es:Array MapEntry} {i:Nat} {e:MapEntry} (h:es[i]?=some e) (f:MapEntry→MapEntry):(es.modify i f).toList=es.toList.set i (f e):=by
  apply dy;intro j;rw [fC,aqB,bK];by_cases Ic:i=j;·subst Ic;have:i<es.size:=(dN.1 h).1;have he:es[i]=e:=(dN.1 h).2;simp [this,he]
  ·simp [Ic]
theorem Cy {P:Program} {w:World} {tW new:Value} (h:Instr.sameBits 10000 tW new=true):(Instr.keyThatStays tW new).run P w = .ok new w:=by simp [Instr.keyThatStays,h]

theorem tD {P:Program} {E:Env} {w:World} {a:Act} {st:St} (hs:dr E w a st) {T:TypeId} {m k v:V} {x y z:Value} {bV:List bm} (hm:dh E m x) (hk:dh E k y) (hv:dh E v z) (h:dR P st.mem T m k v=some bV) :
    ∃ w',(Instr.mapUpdate T x y z).run P w = .ok () w'∧dr E w' a { st with mem:=bV }∧iC E w E w':=by
  unfold dR at h;split at h;·rename_i kt et hd;have hd:=ll hd;split at h;(·rename_i key fT;cases kE hk fT;split at h;(·rename_i fU;have NU:=fun b=>oT fU b w;split at h;(·rename_i b;obtain⟨g,e,c,rfl,hb⟩:=tT hm;split at h;(·rename_i dO clock hB;obtain⟨es,hh,hr,hf,-⟩:=mZ hs hB hb;split at h;(·rename_i kvs' clock' hi;cases h;unfold insertAt at hi;split at hi;(·rename_i i u Ol;obtain⟨r',h1,h2⟩:=iF hr w Ol;match r',h2 with | some (j',z'),h2 =>obtain⟨rfl,h3,kb,en,h4,h5,h6,h7⟩:=h2;(have XO:es[i]?=some en:=by simpa using h5);split at hi;(·rename_i kb' kT;rw [kT] at h4; cases h4;split at hi;(·rename_i Om;cases hi;obtain⟨p1,p2,p3⟩:=hr.2 i _ _ kT h5;(have gO:(Instr.mapUpdate T (.map (some g)) y z).run P w = .ok () { w with heap:=w.heap.setIfInBounds g (.map (es.modify i fun e => { e with key:=y,val:=z }) clock) }:=by have:=jE (P:=P) (o':=.map (es.modify i fun e => { e with key:=y,val:=z }) clock) hh (by simp);simp [Instr.mapUpdate,bG hd,fZ hh,NU,h1,XO,p1,Cy Om,this]);obtain⟨q1,q2⟩:=hs.qj hB hb hh hf (clock':=clock) (kvs':=dO.set i (y,kb.2.1,v)) (es':=es.modify i fun e => { e with key:=y,val:=z }) (by rw [tX XO]; exact hr.set i rfl p2 hv);exact⟨_,gO,q1,q2⟩);·cases hi);·cases hi);(·rename_i Ol;obtain⟨r',h1,h2⟩:=iF hr w Ol;match r',h2 with | none,h2 =>cases hi;(have gO:(Instr.mapUpdate T (.map (some g)) y z).run P w = .ok () { w with heap:=w.heap.setIfInBounds g (.map (es.push { key:=y,val:=z,born:=clock }) (clock+1)) }:=by have:=jE (P:=P) (o':=.map (es.push { key:=y,val:=z,born:=clock }) (clock+1)) hh (by simp);simp [Instr.mapUpdate,bG hd,fZ hh,NU,h1,this]);obtain⟨q1,q2⟩:=hs.qj hB hb hh hf (clock':=clock+1) (kvs':=dO++[(y,clock,v)]) (es':=es.push { key:=y,val:=z,born:=clock }) (by rw [aqj]; exact hr.push rfl rfl hv);exact⟨_,gO,q1,q2⟩);·cases hi);·cases h);·cases h);·cases h);·cases h);·cases h
  ·cases h

theorem FF {E:Env} {v:V} {x:Value} (h:dh E v x) (n:Nat):dh E (.eV [v,.sc (.int .i64 n)]) (.tuple #[x,goInt n]):=by refine .eV _ _ _ rfl fun i c y hc hy=>?_;match i with | 0=>simp at hc hy; subst hc; subst hy; exact h | 1=>simp at hc hy; subst hc; subst hy; exact .sc _ _ | i+2=>simp at hc
theorem DL {P:Program} {E:Env} {w:World} {a:Act} {st:St} (hs:dr E w a st) {T:TypeId} {m k v:V} {x y:Value} {bV:List bm} (hm:dh E m x) (hk:dh E k y) (h:wW P st.mem T m k=some (bV,v)) :
    ∃ z w',(Instr.mapEntry T x y).run P w = .ok z w'∧dr E w' a { st with mem:=bV }∧iC E w E w'∧dh E v z:=by
  unfold wW at h;split at h;·rename_i kt et hd;have hd:=ll hd;split at h;(·rename_i key fT;cases kE hk fT;split at h;(·rename_i fU;have NU:=fun b=>oT fU b w;split at h;(·rename_i b;obtain⟨g,e,c,rfl,hb⟩:=tT hm;split at h;(·rename_i dO clock hB;obtain⟨es,hh,hr,hf,-⟩:=mZ hs hB hb;split at h;(·rename_i kvs' clock' v' hi;cases h;unfold KD at hi;split at hi;(·rename_i i u Ol;obtain⟨r',h1,h2⟩:=iF hr w Ol;match r',h2 with | some (j',z'),h2 =>obtain⟨rfl,h3,kb,en,h4,h5,h6,h7⟩:=h2;(have XO:es[i]?=some en:=by simpa using h5);split at hi;(·rename_i kb' kT;rw [kT] at h4; cases h4;split at hi;(·rename_i Om;cases hi;obtain⟨p1,p2,p3⟩:=hr.2 i _ _ kT h5;(have gO:(Instr.mapEntry T (.map (some g)) y).run P w = .ok (.tuple #[z',goInt en.born]) { w with heap:=w.heap.setIfInBounds g (.map (es.modify i fun e => { e with key:=y }) clock) }:=by have:=jE (P:=P) (o':=.map (es.modify i fun e => { e with key:=y }) clock) hh (by simp);simp [Instr.mapEntry,bG hd,fZ hh,NU,h1,XO,p1,Cy Om,this]);obtain⟨q1,q2⟩:=hs.qj hB hb hh hf (clock':=clock) (kvs':=dO.set i (y,kb.2.1,kb.2.2)) (es':=es.modify i fun e => { e with key:=y }) (by rw [tX XO]; exact hr.set i rfl p2 p3);exact⟨_,_,gO,q1,q2,by rw [p2]; exact FF h3 _⟩);·cases hi);·cases hi);(·rename_i Ol;obtain⟨r',h1,h2⟩:=iF hr w Ol;match r',h2 with | none,h2 =>split at hi;(·rename_i z0 XK;cases hi;obtain⟨zz,h3,h4⟩:=rn XK E w;(have gO:(Instr.mapEntry T (.map (some g)) y).run P w = .ok (.tuple #[zz,goInt clock]) { w with heap:=w.heap.setIfInBounds g (.map (es.push { key:=y,val:=zz,born:=clock }) (clock+1)) }:=by have:=jE (P:=P) (o':=.map (es.push { key:=y,val:=zz,born:=clock }) (clock+1)) hh (by simp);simp [Instr.mapEntry,bG hd,fZ hh,NU,h1,h3,this]);obtain⟨q1,q2⟩:=hs.qj hB hb hh hf (clock':=clock+1) (kvs':=dO++[(y,clock,z0)]) (es':=es.push { key:=y,val:=zz,born:=clock }) (by rw [aqj]; exact hr.push rfl rfl h4);exact⟨_,_,gO,q1,q2,FF h4 _⟩);·cases hi);·cases hi);·cases h);·cases h);·cases h);·cases h);·cases h
  ·cases h

theorem xS {E:Env} (n:Int):∀ {dO:List (Value×Nat×V)} {es:List MapEntry},gH E dO es→dO.findIdx? (fun e=>(e.2.1:Int)==n)=es.findIdx? (fun e=>(e.born:Int)==n)
  | [],es,h=>by rw [h.of_nil]; rfl
  | k :: r,es,h=>by
    obtain⟨e,es',rfl,h1,h2,h3,h4⟩:=h.of_cons
    rw [aqp,aqp,h2,xS n h4]
theorem DN {P:Program} {E:Env} {w:World} {a:Act} {st:St} (hs:dr E w a st) {T:TypeId} {m s v:V} {x y z:Value} {bV:List bm} (hm:dh E m x) (hk:dh E s y) (hv:dh E v z) (h:wX st.mem m s v=some bV) :
    ∃ w',(Instr.entryStore T x y z).run P w = .ok () w'∧dr E w' a { st with mem:=bV }∧iC E w E w':=by
  unfold wX at h;split at h;·rename_i b k n;obtain⟨g,e,c,rfl,hb⟩:=tT hm;obtain rfl:=sy hk;split at h;(·rename_i dO clock hB;obtain⟨es,hh,hr,hf,-⟩:=mZ hs hB hb;split at h;(·rename_i i hi;split at h;(·rename_i kb kT;cases h;obtain⟨en,h5,p1,p2,p3⟩:=hr.get kT;(have XO:es[i]?=some en:=by simpa using h5);(have XP:es.findIdx? (fun e=>(e.born:Int)==n)=some i:=by rw [xS n hr,← List.findIdx?_toArray,di] at hi; exact hi);(have gO:(Instr.entryStore T (.map (some g)) (.int k n) z).run P w = .ok () { w with heap:=w.heap.setIfInBounds g (.map (es.modify i fun e => { e with val:=z }) clock) }:=by have:=jE (P:=P) (o':=.map (es.modify i fun e => { e with val:=z }) clock) hh (by simp);simp [Instr.entryStore,fZ hh,asInt,asIntOf,XP,this]);obtain⟨q1,q2⟩:=hs.qj hB hb hh hf (clock':=clock) (kvs':=dO.set i (kb.1,kb.2.1,v)) (es':=es.modify i fun e => { e with val:=z }) (by rw [tX XO]; exact hr.set i p1 p2 hv);exact⟨_,gO,q1,q2⟩);·cases h);·cases h);·cases h
  ·cases h

theorem B6 {P:Program} {E:Env} {w:World} {a:Act} {st:St} (hs:dr E w a st) {ts:Array TypeId} {ty:TypeId} {xs:List V} {ys:Array Value} {bV:List bm} (hx:cY E xs ys.toList) (h:sC P st.mem ts xs=some bV) :
    ∃ w',(Builtin.delete_ ts ty ys).run P w = .ok (.tuple #[]) w'∧dr E w' a { st with mem:=bV }∧iC E w E w':=by
  unfold sC at h;split at h;·rename_i b k;obtain⟨x,r,hy,It,hx⟩:=hx.of_cons;obtain⟨y,r2,hz,Iz,hx⟩:=hx.of_cons;have:=hx.of_nil;subst this; subst hz;(obtain rfl:ys = #[x,y]:=by rw [← di (xs:=ys),hy]);obtain⟨g,e,c,rfl,hb⟩:=tT It;split at h;(·rename_i T h0;split at h;(·rename_i kt et hd;have hd:=ll hd;split at h;(·rename_i key fT;cases kE Iz fT;split at h;(·rename_i fU;have NU:=fun b=>oT fU b w;split at h;(·rename_i dO clock hB;obtain⟨es,hh,hr,hf,-⟩:=mZ hs hB hb;split at h;(·rename_i i u Ol;cases h;obtain⟨r',h1,h2⟩:=iF hr w Ol;match r',h2 with | some (j',z'),h2 =>obtain⟨rfl,h3,kb,en,h4,h5,h6,h7⟩:=h2;(have gO:(Builtin.delete_ ts ty #[.map (some g),y]).run P w = .ok (.tuple #[]) { w with heap:=w.heap.setIfInBounds g (.map (es.eraseIdxIfInBounds i) clock) }:=by have:=jE (P:=P) (o':=.map (es.eraseIdxIfInBounds i) clock) hh (by simp);simp [Builtin.delete_,h0,bG hd,fZ hh,NU,h1,this]);obtain⟨q1,q2⟩:=hs.qj hB hb hh hf (clock':=clock) (kvs':=dO.eraseIdx i) (es':=es.eraseIdxIfInBounds i) (by rw [Array.toList_eraseIdxIfInBounds]; exact hr.erase i);exact⟨_,gO,q1,q2⟩);(·rename_i Ol;cases h;obtain⟨r',h1,h2⟩:=iF hr w Ol;match r',h2 with | none,h2 =>(have gO:(Builtin.delete_ ts ty #[.map (some g),y]).run P w = .ok (.tuple #[]) { w with heap:=w.heap.setIfInBounds g (.map es clock) }:=by have:=jE (P:=P) (o':=.map es clock) hh (by simp);simp [Builtin.delete_,h0,bG hd,fZ hh,NU,h1,this]);obtain⟨q1,q2⟩:=hs.qj hB hb hh hf (clock':=clock) (kvs':=dO) (es':=es) hr;exact⟨_,gO,q1,q2⟩);·cases h);·cases h);·cases h);·cases h);·cases h);·cases h
  ·cases h


def leftOf (dO:List (Value×Nat×V)) (seen:List Nat):List (Value×Nat×V):=dO.filter fun e=>!seen.contains e.2.1
def zN (dO:List (Value×Nat×V)) (seen:List Nat) (since:Nat):List (Value×Nat×V):=(leftOf dO seen).filter fun e=>e.2.1<since
def On (dO:List (Value×Nat×V)) (seen:List Nat) (since:Nat):List (Value×Nat×V):=(leftOf dO seen).filter fun e=>e.2.1≥since
def DO (dO:List (Value×Nat×V)) (seen:List Nat) (last:Nat):Bool:=!seen.isEmpty && !dO.isEmpty&&dO.all fun e=>e.2.1≥last
def zO:V:=.eV [.sc (.bool false)]
def Oo (e:Value×Nat×V):V:=.eV [.sc (.bool true),kX e.1,e.2.2]
def V7 (s:ByteArray) (pos:Nat):V:=.eV [.sc (.bool true),.sc (.int .i64 pos),.sc (.int .i32 (Utf8.decode s pos).1)]
def u0 (st:St) (dst:Option Tmp) (it:V) (str:Bool) (Q:St→Prop):Prop :=
  match it with
  | .ptr b 0=>match st.mem[b]? with
    | some (.jO m since seen last)=>match st.mem[m]? with
      | some (.map dO clock)=>str=false∧DO dO seen last=false∧(zN dO seen since=[]→Q (st.put dst zO)) ∧
          ∀ e∈zN dO seen since++On dO seen since,Q ({ st with mem:=st.mem.set b (.jO m since (seen++[e.2.1]) clock) }.put dst (Oo e))
      | _=>False
    | some (.nP s pos)=>str=true∧if pos<s.size then Q ({ st with mem:=st.mem.set b (.nP s (pos+(Utf8.decode s pos).2)) }.put dst (V7 s pos)) else Q (st.put dst zO)
    | some .oa=>str=false∧Q (st.put dst zO)
    | _=>False
  | _=>False

theorem gH.filter {E:Env} (p:Nat→Bool):∀ {dO:List (Value×Nat×V)} {es:List MapEntry},gH E dO es→gH E (dO.filter fun e=>p e.2.1) (es.filter fun e=>p e.born)
  | [],es,h=>by rw [h.of_nil]; exact⟨rfl,fun j k e hk=>by simp at hk⟩
  | k :: r,es,h=>by
    obtain⟨e,es',rfl,h1,h2,h3,h4⟩:=h.of_cons
    have h5:=gH.filter p h4
    simp only [List.filter_cons,h2]
    split
    · refine⟨by simp [h5.1],fun j k' e' hk he=>?_⟩
      cases j with
      | zero=>simp at hk he; subst hk; subst he; exact⟨h1,h2,h3⟩
      | succ j=>exact h5.2 j k' e' (by simpa using hk) (by simpa using he)
    · exact h5
theorem gH.all {E:Env} (p:Nat→Bool):∀ {dO:List (Value×Nat×V)} {es:List MapEntry},gH E dO es→(dO.all fun e=>p e.2.1)=es.all fun e=>p e.born
  | [],es,h=>by rw [h.of_nil]; rfl
  | k :: r,es,h=>by
    obtain⟨e,es',rfl,h1,h2,h3,h4⟩:=h.of_cons
    simp only [cZ,h2,gH.all p h4]
theorem gH.append {E:Env} {a b:List (Value×Nat×V)} {x y:List MapEntry} (h:gH E a x) (k:gH E b y):gH E (a++b) (x++y):=by
  refine⟨by simp [h.1,k.1],fun j kk e hk he=>?_⟩;by_cases hj:j<a.length;·rw [bF hj] at hk; rw [bF (by have:=h.1; omega)] at he; exact h.2 j kk e hk he
  ·rw [aW (by omega)] at hk; rw [aW (by have:=h.1; omega)] at he;rw [h.1] at hk;exact k.2 _ kk e hk he
theorem L8 {E:Env} {k:Value×Nat×V} {e:MapEntry} (h1:e.key=k.1) (h3:dh E k.2.2 e.val):dh E (Oo k) (.tuple #[.bool true,e.key,e.val]):=by refine .eV _ _ _ rfl fun i c y hc hy=>?_;match i with | 0=>simp at hc hy; subst hc; subst hy; exact .sc _ _ | 1=>simp at hc hy; subst hc; subst hy; rw [h1]; exact kY E _ | 2=>simp at hc hy; subst hc; subst hy; exact h3 | i+3=>simp at hc

theorem zP {P:Program} {w:World} {n:Nat} (hn:0<n):∃ i w',(choose (.mapNext n)).run P w = .ok i w'∧i<n∧(w'=w∨w'=w.drew):=by
  unfold choose;rw [Sem.run];split;·exact⟨0,w,rfl,hn,.inl rfl⟩
  ·exact⟨_,_,rfl,apK _ hn,.inr rfl⟩
theorem dr.XQ {E:Env} {w w':World} {a:Act} {st:St} (hs:dr E w a st) (h:w'=w∨w'=w.drew):dr E w' a st∧iC E w E w'∧w'.heap=w.heap:=by
  rcases h with rfl | rfl
  ·exact⟨hs,iC.refl _ _,rfl⟩
  ·exact⟨hs.drew,iC.drew _ _,rfl⟩
theorem FG {P:Program} {E:Env} {w:World} {a:Act} {st:St} (hs:dr E w a st) {dst:Option Tmp} {it:V} {x:Value} {str:Bool} {ty:TypeId} {Q:St→Prop} (hi:dh E it x) (h:u0 st dst it str Q) :
    ∃ z w' st',(Instr.next x str ty).run P w = .ok z w'∧dr E w' (a.put dst z) st'∧iC E w E w'∧Q st':=by
  unfold u0 at h;split at h
  · rename_i b;split at h
    · rename_i m since seen last hB;split at h
      · rename_i dO clock hM;obtain⟨rfl,wS,abJ,ef⟩:=h;obtain⟨g,gm,em,cm,hb,SU,hh,hf⟩:=hs.mem b _ hB;obtain⟨es,hhm,hr,hfm,h0⟩:=mZ hs hM SU;cases h0
        cases hi with
        | ptr _ _ _ g' e' c' kc =>
        rw [hb] at kc; cases kc
        have j1:(getObj g).run P w = .ok (.mapIter (some gm) since seen.toArray last) w:=by simp [getObj,Sem.run,hh]
        have XR:(!seen.toArray.isEmpty && !es.isEmpty&&es.all (fun e=>decide (e.born≥last)))=false:=by
          rw [← wS]
          unfold DO
          have e1:seen.toArray.isEmpty=seen.isEmpty:=by simp
          have e2:es.isEmpty=dO.isEmpty:=by
            have h1:=hr.1
            rw [mB,aqh,apR,← cC,h1,jY]
          rw [e1,e2,← Array.all_toList,← gH.all (fun n=>decide (n≥last)) hr]
        have V8:(es.filter fun e=>!seen.toArray.contains e.born).toList=es.toList.filter fun e=>!seen.contains e.born:=by
          rw [apY]; simp
        have hl:=gH.filter (fun n=>!seen.contains n) hr
        have ho:=gH.filter (fun n=>decide (n<since)) hl
        have hw:=gH.filter (fun n=>decide (n≥since)) hl
        have hon:=ho.append hw
        obtain⟨L,hL⟩:∃ L,L=es.filter fun e=>!seen.toArray.contains e.born:=⟨_,rfl⟩
        have hO:(L.filter fun e=>decide (e.born<since)).toList=(es.toList.filter fun e=>!seen.contains e.born).filter fun e=>decide (e.born<since):=by rw [apY,hL,V8]
        have hN:(L.filter fun e=>decide (e.born≥since)).toList=(es.toList.filter fun e=>!seen.contains e.born).filter fun e=>decide (e.born≥since):=by rw [apY,hL,V8]
        rw [← hO] at ho
        rw [← hO,← hN] at hon
        generalize hOO:L.filter (fun e=>decide (e.born<since))=O at ho hon
        generalize hNN:L.filter (fun e=>decide (e.born≥since))=N at hon
        have ahD:O.isEmpty=(zN dO seen since).isEmpty:=by
          have h1:=ho.1
          rw [mB,aqh,apR,← cC,← jY,← h1]; rfl
        have abL:0<((if O.isEmpty then #[none] else #[])++(O++N).map some:Array (Option MapEntry)).size:=by
          by_cases Oq:O.isEmpty=true
          · rw [if_pos Oq]; simp; omega
          · rw [if_neg Oq]
            have:O.size≠0:=fun h=>Oq (aqh.2 h)
            simp; omega
        obtain⟨i,w1,Fb,yX,V4⟩:=zP (P:=P) (w:=w) abL
        obtain⟨s1,v1,V9⟩:=hs.XQ V4
        have gO:∀ {R},(match ((if O.isEmpty then #[none] else #[])++(O++N).map some:Array (Option MapEntry))[i]? with
            | some (some e)=>do setObj g (.mapIter (some gm) since (seen.toArray.push e.born) clock); pure (Value.tuple #[.bool true,e.key,e.val])
            | some none=>(pure (Value.tuple #[.bool false]):Sem Value)
            | none=>stuck "Next: no such candidate").run P w1=R→(Instr.next (.pointer (some ⟨g,0,none⟩)) false ty).run P w=R:=fun hR=>by
          rw [← hR]
          simp only [Instr.next,Sem.run_bind,j1,Result.andThen_ok,fZ hhm,XR,cf,if_false,← hL,hOO,hNN,Fb]
          rfl
        have hci:=ch yX
        by_cases o7:i<(if O.isEmpty then #[none] else #[]:Array (Option MapEntry)).size
        · have Oq:O.isEmpty=true:=by
            by_cases Oq:O.isEmpty=true
            · exact Oq
            · rw [if_neg Oq] at o7; simp at o7
          rw [if_pos Oq] at o7
          have hi0:i=0:=by simp at o7; omega
          subst hi0
          have hold:zN dO seen since=[]:=by rw [ahD] at Oq; exact apR.1 Oq
          refine⟨_,w1,_,gO (R:=Result.ok (Value.tuple #[.bool false]) w1) ?_,s1.put dst (.eV _ _ _ rfl fun i c y hc hy=>?_),v1,abJ hold⟩
          · rw [if_pos Oq,ap5 (by simp)]; rfl
          · match i with
            | 0=>simp at hc hy; subst hc; subst hy; exact .sc _ _
            | i+1=>simp at hc
        · obtain⟨j,hj,XS⟩:∃ j,j<(O++N).size∧((if O.isEmpty then #[none] else #[])++(O++N).map some:Array (Option MapEntry))[i]?=some (some ((O++N)[j]!)):=by
            refine⟨i-(if O.isEmpty then #[none] else #[]:Array (Option MapEntry)).size,?_,?_⟩
            · have:=yX; simp only [abr,ap7] at this ⊢; omega
            · rw [aqH (by omega),aqq]
              have ca:i-(if O.isEmpty then #[none] else #[]:Array (Option MapEntry)).size<(O++N).size:=by have:=yX; simp only [abr,ap7] at this ⊢; omega
              rw [ch ca,getElem!_pos (O++N) _ ca]; rfl
          rw [getElem!_pos (O++N) _ hj] at XS
          obtain⟨kb,kT⟩:∃ kb,(zN dO seen since++On dO seen since)[j]?=some kb:=⟨_,ak (by have h1:=hon.1; simp only [aQ,jY] at h1; simp only [aQ]; simp only [abr] at hj; exact Nat.lt_of_lt_of_eq hj h1.symm)⟩
          obtain⟨en,cT,p1,p2,p3⟩:=hon.get kT
          have ahE:(O++N)[j]=en:=by
            have:(O++N).toList[j]?=some en:=by rw [jZ]; exact cT
            rw [fC,ch hj] at this
            simpa using this
          rw [ahE] at XS
          have hh1:w1.heap[g]?=some (.mapIter (some gm) since seen.toArray last):=by rw [V9]; exact hh
          have uO:ob E { w1 with heap:=w1.heap.setIfInBounds g (.mapIter (some gm) since (seen.toArray.push en.born) clock) } b (.jO m since (seen++[kb.2.1]) clock):=by
            refine⟨g,gm,0,0,hb,SU,?_,hf⟩
            rw [heap_set hh1,p2]; simp
          obtain⟨q1,q2⟩:=s1.Fx hB rfl (B':=.jO m since (seen++[kb.2.1]) clock) rfl hb hf rA uO
          refine⟨.tuple #[.bool true,en.key,en.val],_,_,gO ?_,q1.put dst (L8 p1 p3),v1.trans q2,ef kb (aB kT)⟩
          rw [XS]
          have:=jE (P:=P) (o':=.mapIter (some gm) since (seen.toArray.push en.born) clock) hh1 (by simp)
          dsimp only
          rw [Sem.run_bind,this]; rfl
      ·exact h.elim
    ·rename_i s pos hB;obtain⟨rfl,zQ⟩:=h;obtain⟨g,hb,hh,hf⟩:=hs.mem b _ hB;cases hi with | ptr _ _ _ g' e' c' kc =>rw [hb] at kc; cases kc;(have j1:(getObj g).run P w = .ok (.stringIter s pos) w:=by simp [getObj,Sem.run,hh]);split at zQ;(·rename_i ca;obtain⟨q1,q2⟩:=hs.Fx hB rfl (B':=.nP s (pos+(Utf8.decode s pos).2)) rfl hb hf (rA (o:=.stringIter s (pos+(Utf8.decode s pos).2))) ⟨g,hb,heap_set hh,hf⟩;refine⟨.tuple #[.bool true,goInt pos,.int .i32 (Utf8.decode s pos).1],_,_,?_,q1.put dst (.eV _ _ _ rfl fun i c y hc hy=>?_),q2,zQ⟩;(·have:=jE (P:=P) (o':=.stringIter s (pos+(Utf8.decode s pos).2)) hh (by simp);simp [Instr.next,j1,ca,this]);·match i with | 0=>simp at hc hy; subst hc; subst hy; exact .sc _ _ | 1=>simp at hc hy; subst hc; subst hy; exact .sc _ _ | 2=>simp at hc hy; subst hc; subst hy; exact .sc _ _ | i+3=>simp at hc);·rename_i ca;refine⟨.tuple #[.bool false],w,_,by simp [Instr.next,j1,ca],hs.put dst (.eV _ _ _ rfl fun i c y hc hy=>?_),iC.refl _ _,zQ⟩;match i with | 0=>simp at hc hy; subst hc; subst hy; exact .sc _ _ | i+1=>simp at hc
    ·rename_i hB;obtain⟨rfl,zQ⟩:=h;obtain⟨g,hb,hh,hf⟩:=hs.mem b _ hB;cases hi with | ptr _ _ _ g' e' c' kc =>rw [hb] at kc; cases kc;(have j1:(getObj g).run P w = .ok (.mapIter none 0 #[] 0) w:=by simp [getObj,Sem.run,hh]);refine⟨.tuple #[.bool false],w,_,by simp [Instr.next,j1],hs.put dst (.eV _ _ _ rfl fun i c y hc hy=>?_),iC.refl _ _,zQ⟩;match i with | 0=>simp at hc hy; subst hc; subst hy; exact .sc _ _ | i+1=>simp at hc
    ·exact h.elim
  ·exact h.elim

def pK (P:Program) (mem:List bm) (T:TypeId) (x:V):Option bm :=
  match x with
  | .mp b=>match mem[b]? with
    | some (.map _ clock)=>match jh P T with | some _=>some (.jO b clock [] clock) | none=>none
    | _=>none
  | .sc (.map none)=>match jh P T with | some _=>some .oa | none=>none
  | .sc (.string s)=>match P.underlying T with | some .string=>some (.nP s 0) | _=>none
  | _=>none
theorem KE {E:Env} {w:World} {a:Act} {st:St} (hs:dr E w a st) (o:Nat):E.F ⟨w.heap.size,o,none⟩=none:=by cases hx:E.F ⟨w.heap.size,o,none⟩ with | none=>rfl | some x=>have:=World.block_lt_of_cell? w _ (hs.F _ _ hx); simp at this
theorem dr.newObj {E:Env} {w:World} {a:Act} {st:St} (hs:dr E w a st) {key:Nat} (hk:jF st.mem key) {obj:Obj} {B:bm} (hv:B.dV=0) (hB:ob (E.with key 0 (w.heap.size,0,0)) (w.alloc obj) key B) :
    ∃ E',dr E' (w.alloc obj) a { st with mem:=dB st.mem key B }∧iC E w E' (w.alloc obj)∧E'.cI key 0=some (w.heap.size,0,0):=by have:=hs.new (obj:=obj) (B:=B) (e:=0) (c:=0) hk hv hB;exact⟨_,this.1,this.2,if_pos ⟨rfl,rfl⟩⟩
theorem zR {P:Program} {E:Env} {w:World} {a:Act} {st:St} (hs:dr E w a st) {key:Nat} (hk:jF st.mem key) {T:TypeId} {x:V} {y:Value} {B:bm} (hx:dh E x y) (h:pK P st.mem T x=some B) :
    ∃ E' w',(Instr.range T y).run P w = .ok (.pointer (some ⟨w.heap.size,0,none⟩)) w'∧dr E' w' a { st with mem:=dB st.mem key B }∧iC E w E' w'∧dh E' (.ptr key 0) (.pointer (some ⟨w.heap.size,0,none⟩)):=by
  have fT:(E.with key 0 (w.heap.size,0,0)).cI key 0=some (w.heap.size,0,0):=if_pos ⟨rfl,rfl⟩;unfold pK at h;split at h;·rename_i b;split at h;(·rename_i dO clock hB;split at h;(·rename_i p hp;cases h;obtain⟨kt,et⟩:=p;have hd:=ll hp;obtain⟨g,e,c,rfl,hb⟩:=tT hx;obtain⟨es,hh,hr,-⟩:=mZ hs hB hb;(have ep:b≠key:=fun e=>by subst e; rw [hs.free hk 0] at hb; cases hb);obtain⟨E',h1,h2,h3⟩:=hs.newObj hk (obj:=.mapIter (some g) clock #[] clock) (B:=.jO b clock [] clock) rfl ⟨w.heap.size,g,e,c,fT,(if_neg fun h=>ep h.1).trans hb,heap_alloc_new w _,fun o=>KE (E:=E) hs o⟩;exact⟨E',_,by simp [Instr.range,bG hd,fZ hh,newObj,Sem.run],h1,h2,.ptr _ _ _ _ 0 0 h3⟩);·cases h);·cases h
  ·obtain rfl:=sy hx;split at h;(·rename_i p hp;cases h;obtain⟨kt,et⟩:=p;have hd:=ll hp;obtain⟨E',h1,h2,h3⟩:=hs.newObj hk (obj:=.mapIter none 0 #[] 0) (B:=.oa) rfl ⟨w.heap.size,fT,heap_alloc_new w _,fun o=>KE (E:=E) hs o⟩;exact⟨E',_,by simp [Instr.range,bG hd,newObj,Sem.run],h1,h2,.ptr _ _ _ _ 0 0 h3⟩);·cases h
  ·rename_i s;obtain rfl:=sy hx;split at h;(·rename_i hd;cases h;obtain⟨E',h1,h2,h3⟩:=hs.newObj hk (obj:=.stringIter s 0) (B:=.nP s 0) rfl ⟨w.heap.size,fT,heap_alloc_new w _,fun o=>KE (E:=E) hs o⟩;exact⟨E',_,by simp [Instr.range,bG hd,newObj,Sem.run],h1,h2,.ptr _ _ _ _ 0 0 h3⟩);·cases h
  ·cases h
theorem B7 {P:Program} {E:Env} {w:World} {a:Act} {st:St} (hs:dr E w a st) {key:Nat} (hk:jF st.mem key) (T:TypeId) :
    ∃ E' w',(Instr.makeMap T none).run P w = .ok (.map (some w.heap.size)) w'∧dr E' w' a { st with mem:=dB st.mem key (.map [] 0) }∧iC E w E' w'∧dh E' (.mp key) (.map (some w.heap.size)):=by have fT:(E.with key 0 (w.heap.size,0,0)).cI key 0=some (w.heap.size,0,0):=if_pos ⟨rfl,rfl⟩;obtain⟨E',h1,h2,h3⟩:=hs.newObj hk (obj:=.map #[] 0) (B:=.map [] 0) rfl ⟨w.heap.size,#[],fT,heap_alloc_new w _,⟨rfl,fun i k e h=>by simp at h⟩,fun o=>KE (E:=E) hs o⟩;exact⟨E',_,by simp [Instr.makeMap,newObj,Sem.run],h1,h2,.mp _ _ _ 0 0 h3⟩
def yY (i:Ti):V:=if i.agg=true then .agg (i.zero.map fun z=>lL (.sc z)) else match i.zero with | z :: _=>lL (.sc z) | []=>.undef
def xT (tt:Table) (T:TypeId) (l c:V):Option (Nat×List V×Nat) :=
  match l,c with
  | .sc (.int _ l),.sc (.int _ c)=>match jy tt T with
    | some e=>match tt e with
      | some i=>if 0≤l∧l≤c∧i.bytes*c≤281474976710656∧c≤1152921504606846976∧0<i.size∧i.zero.length=i.size∧i.zero.all Value.oneCell'=true∧(i.agg=true∨i.size=1) then some (i.size,List.replicate l.toNat (yY i),c.toNat) else none
      | none=>none
    | none=>none
  | _,_=>none
theorem B8 {i:Ti} (h:i.agg=true∨i.size=1) (hz:i.zero.length=i.size):(yY i).cells=i.zero.map fun z=>lL (.sc z):=by
  unfold yY;split;·rfl
  · rename_i hn
    have h1 : i.size = 1 := by rcases h with h | h
                               · exact absurd h hn
                               · exact h
    match hzz:i.zero with | []=>rw [hzz] at hz; simp at hz; omega | [z]=>simp only [cR,cP]; unfold lL; split <;> rfl | _ :: _ :: _=>rw [hzz] at hz; simp at hz; omega
theorem FH {P:Program} {tt:Table} (ht:TT P tt) {E:Env} {w:World} {a:Act} {st:St} (hs:dr E w a st) {key:Nat} (hk:jF st.mem key) {T:TypeId} {l c:V} {x y:Value} {size cap:Nat} {rs:List V} (hl:dh E l x) (hc:dh E c y)
    (h:xT tt T l c=some (size,rs,cap)) :
    ∃ E' w',(Instr.makeSlice T x y).run P w = .ok (.slice (some ⟨w.heap.size,0,none⟩) rs.length cap) w'∧dr E' w' a { st with mem:=dB st.mem key (.rows 0 size rs) }∧iC E w E' w'∧dh E' (.ms key 0 0 rs.length) (.slice (some ⟨w.heap.size,0,none⟩) rs.length cap):=by
  unfold xT at h;split at h;·rename_i k1 l k2 c;obtain rfl:=sy hl;obtain rfl:=sy hc;unfold jy at h;cases hT:tt T with | none=>rw [hT] at h; simp at h | some iT =>rw [hT] at h; simp only at h;cases he:iT.elem with | none=>rw [he] at h; simp at h | some e =>rw [he] at h; simp only at h;cases hE:tt e with | none=>rw [hE] at h; simp at h | some i =>rw [hE] at h; simp only at h;split at h;(·rename_i ru;obtain⟨h0,h1,hb,mE,zJ,Fz,qd,Tt⟩:=ru;cases h;obtain⟨d,hd,-,Ds,-⟩:=ht.desc T iT hT;obtain rfl:=Ds e he;obtain⟨info,xQ,V2,hi3,z,hz,hzz⟩:=ht.size e i hE;(have XL:z.cells.size=i.size:=by rw [← Fz,← hzz]; simp);(have hwl:IntKind.i64.wrap l=l:=by rw [IntWalk.i64_in _ (by omega)]);(have hwc:IntKind.i64.wrap c=c:=by rw [IntWalk.i64_in _ (by omega)]);obtain⟨xs,qa⟩:∃ xs:Array Value,xs=(Array.range (c.toNat*i.size)).map (z.cells[· % z.cells.size]!):=⟨_,rfl⟩;(have gO:(Instr.makeSlice T (.int k1 l) (.int k2 c)).run P w = .ok (.slice (some ⟨w.heap.size,0,none⟩) l.toNat c.toNat) (w.alloc (.cells xs e (0,0))):=by (have e0:(decide (c<0)||decide ((info.bytes:Int)*c>2 ^ 48))=false:=by rw [hi3];simp only [apZ,decide_eq_false_iff_not];exact⟨by omega,by omega⟩);(have e1:(decide (l<0))=false:=by simp; omega);(have e2:(decide (l>c))=false:=by simp; omega);(have hzv:(zeroValue e).run P (w) = .ok z w:=by simp [zeroValue,hY xQ,hz]);simp only [Instr.makeSlice,Sem.run_bind,bG hd,Result.andThen_ok,asInt,asIntOf,Sem.run_pure,hY xQ,hwl,hwc,e0,e1,e2,bJ,cf,if_false,run_askRoom,iE xQ,V2];by_cases hn:c.toNat*i.size=0;(·(have KB:xs = #[]:=by rw [qa,hn]; simp);have XN:∀ f:Nat→Value,Array.map f (Array.range 0) = #[]:=fun f=>Array.eq_empty_of_size_eq_zero (by simp);simp only [hn,if_true,Sem.run_pure,Result.andThen_ok,XN,KB];rfl);·simp only [hn,if_false,Sem.run_bind,hzv,Result.andThen_ok,Sem.run_pure];simp [newRow,qa]);obtain⟨E',g1,g2,g3⟩:=hs.uU hk (xs:=xs) (rs:=List.replicate l.toNat (yY i)) (e:=i.size) (c:=c.toNat) e (by rw [qa]; simp) (by simp; omega) (fun q row hq=>by rw [ap0] at hq;split at hq;(·rename_i hql;cases hq;have rz:=B8 Tt Fz;refine⟨by rw [rz]; simpa using Fz,fun j cc hj=>?_⟩;rw [rz,ae,bA] at hj;obtain⟨v,hv,rfl⟩:=hj;(have E8:j<i.size:=by rw [← Fz]; exact (az.1 hv).1);(have ca:q*i.size+j<c.toNat*i.size:=by have:(q+1)*i.size≤c.toNat*i.size:=lE _ (by omega);rw [nO] at this; omega);(have ahF:(q*i.size+j) % i.size=j:=by rw [SO,Nat.add_mul_mod_self_right,Nat.mod_eq_of_lt E8]);refine⟨v,?_,a7.1 qd v (aB hv),pJ (.sc _ _)⟩;rw [qa];(have hzj:z.cells[j]?=some v:=by rw [← fC,hzz]; exact hv);(have hjz:j<z.cells.size:=by omega);simp only [aqq,Array.getElem?_range,ca,if_true,cA,XL,ahF];rw [getElem!_pos z.cells j hjz];rw [ch hjz] at hzj;exact hzj);·cases hq);refine⟨E',_,?_,g1,g2,?_⟩;(·simpa using gO);·simpa using g3);·cases h
  ·cases h
end Go.Eng
end

section
namespace Go.Eng
variable [bg]
open Go.RowKit (Below)
def oU (tt:Table) (mem:List bm) (ts:List TypeId) (s x:V):Option (Nat×Nat×Nat×Nat×List V×List V) :=
 match s with
 | .ms b v o l=>match mem[b]? with
  | some (.rows v' eb rs)=>match ts with
   | [t,u]=>match jy tt t with
    | some e=>match jy tt u with
     | some _=>match tt e with
      | some i =>
       if v'=v∧eb=i.size∧o+l=rs.length∧0<i.size∧i.bytes≤4096∧i.zero.length=i.size then
        match rowsOf mem i.size x with
        | some xs=>if l+xs.length≤34359738368 then some (i.size,b,v,l,rs.drop o,xs) else none
        | none=>none
       else none
      | none=>none
     | none=>none
    | none=>none
   | _=>none
  | _=>none
 | _=>none
theorem B9 {P:Program} {tt:Table} (ht:TT P tt) {E:Env} {w:World} {a:Act} {st:St} (hs:dr E w a st) {ts:Array TypeId} {ty:TypeId} {s x:V} {y z:Value} {size b v l:Nat} {rs0 xs:List V}
  (Iy:dh E s y) (Oc:dh E x z) (h:oU tt st.mem ts.toList s x=some (size,b,v,l,rs0,xs)) :
  ∃ u w' E' o' nj,(Builtin.append_ ts ty #[y,z]).run P w = .ok u w'∧nj.drop o'=rs0++xs∧o'+(l+xs.length)=nj.length∧dr E' w' a { st with mem:=st.mem.set b (.rows (v+1) size nj) }∧iC E w E' w'∧dh E' (.ms b (v+1) o' (l+xs.length)) u:=by
 unfold oU at h;split at h
 ·rename_i b1 v1 o l1;split at h
  ·rename_i v' eb rs hm;split at h
   ·rename_i t u Cx;obtain rfl:ts = #[t,u]:=by rw [← di (xs:=ts),Cx]
    split at h
    ·rename_i e he;split at h
     ·rename_i e' NY;split at h
      ·rename_i i hE;split at h
       ·rename_i hc;obtain⟨rfl,rfl,S2,zJ,zK,Fz⟩:=hc;split at h
        ·rename_i tY qa;split at h
         ·rename_i hlen;simp only [aF,eA] at h;obtain⟨rfl,rfl,rfl,rfl,rfl,rfl⟩:=h;have und:∀ {t e:TypeId},jy tt t=some e→P.underlying t=some (.slice e):=fun {t e} he=>by unfold jy at he;split at he;(·rename_i iu hU;obtain⟨d,hd,-,Ds,-⟩:=ht.desc t iu hU;rw [hd,Ds e he]);simp at he
          have hd:=und he;have Fa:=und NY;obtain⟨info,xQ,V2,hi3,z0,XK,hz1⟩:=ht.size e i hE;have XL:z0.cells.size=info.size:=by rw [V2,← Fz,← hz1]; simp
          rw [← V2] at qa zJ hm ⊢;rw [← hi3] at zK;have V3:dr E w.drew a st:=hs.drew;obtain⟨xa,xc,rfl,hxc,xA,NW,S0⟩:=jG (P:=P) hs Oc qa;obtain⟨xa',xc',heq,-,xB,hx3,XM⟩:=jG (P:=P) V3 Oc qa;simp only [Value.slice.injEq] at heq;obtain⟨rfl,-,rfl⟩:=heq
          have B4:∀ jP,jP<l1+tY.length→Builtin.nextslicecap (l1+tY.length) jP*info.bytes≤281474976710656:=fun jP ca =>
           growslice_fits ca (Co (ap6 hlen zK) (by decide))
          have lf:(rs.drop o).length=l1:=by rw [gG]; omega
          have tU:(rs.drop o++tY).length=l1+tY.length:=by rw [aQ,lf]
          have ig:∀ jP,l1+tY.length≤grownCap w (l1+tY.length) jP e:=fun jP=>grownCap_ge w (l1+tY.length) jP e;have XF:rowsOf st.mem info.size (.ms b1 v' o l1)=some (rs.drop o):=by (have h1:o+l1≤rs.length:=by omega);simp [rowsOf,hm,h1];rw [aX (by rw [gG]; omega)]
          obtain⟨sa,sc,rfl,hsc,A,uZ,wL⟩:=jG (P:=P) V3 Iy XF;rw [lf] at uZ Iy ⊢;have rz:∀ jP,(A++xB++Builtin.zeroCells z0.cells (grownCap w (l1+tY.length) jP e-(l1+tY.length))).size=grownCap w (l1+tY.length) jP e*info.size:=fun jP=>by simp only [abr,size_zeroCells,XL,wL.1,XM.1,lf,← jx];congr 1; have:=ig jP; omega
          by_cases uX:l1+tY.length≤sc
          ·rcases DI Iy with ⟨XD,Ok⟩ | ⟨g,eb',c,sa',sc',Ok,hb,hl,SR,Cs⟩
           ·simp only [Value.slice.injEq] at Ok;obtain⟨rfl,ahA,rfl⟩:=Ok;have KB:tY=[]:=cC.1 (by omega);subst KB;(have IA:l1=0:=by omega);subst IA;have XN:rs.drop o=[]:=cC.1 lf;rw [XN];exact⟨_,w,E,0,[],j7 (ty:=ty) hd Fa xQ xc xa xA NW,rfl,rfl,hs.FD hm,iC.refl E w,.jl _ _ _ _⟩
           simp only [Value.slice.injEq] at Ok;obtain⟨rfl,-,rfl⟩:=Ok;obtain⟨Fb,yX,V4⟩:=Cs;rcases hs.mem b1 _ hm with ⟨-,hn⟩ | ⟨g',T',cur,c',kc,hh,Dn,o8,Cu,hf⟩
           ·rw [hb] at hn; cases hn
           rw [hb] at kc; cases kc;by_cases ahG:sc=0
           ·
            have KB:tY=[]:=cC.1 (by omega)
            subst KB
            have IA:l1=0:=by omega
            subst IA
            subst ahG
            have XN:rs.drop o=[]:=cC.1 lf
            have gO:(Builtin.append_ #[t,u] ty #[.slice sa 0 0,.slice xa 0 xc]).run P w = .ok (.slice sa 0 0) w:=by
             cases sa with
             | none=>exact j7 (ty:=ty) hd Fa xQ xc xa xA NW
             | some ad =>
              have hxe:xA.toList=[]:=by
               have:=S0.1
               simp at this
               simpa using this
              have hfc:(Builtin.firstCells info.size 0 (.slice xa 0 xc)).run P w = .ok xA w:=NW
              simp [Builtin.append_,bG hd,bG Fa,iE xQ,Builtin.lenOf,hfc,hxe,storeCells]
            have hle:E.le (E.with b1 (v'+1) (g,info.size,c)):=Env.m4 (hs.dV b1 _ hm _ (lR v')) _
            have fT:(E.with b1 (v'+1) (g,info.size,c)).cI b1 (v'+1)=some (g,info.size,c):=if_pos ⟨rfl,rfl⟩
            refine⟨_,w,E.with b1 (v'+1) (g,info.size,c),o,rs,gO,by simp [XN],by omega,hs.renew hm hs.F (aw _) (hs.lt _ _ _ _ _ hb) (fun k B' kT iQ V6 g' e' c' gi=>⟨rfl,fun e=>by subst e; exact kT (hs.apart _ _ _ _ _ _ _ _ _ gi hb)⟩) ?_ (fun k v2 e2 c2 h=>hs.apart _ _ _ _ _ _ _ _ _ h hb),
             ⟨hle,fun k q g' e' c' kT=>?_,fun ad y hy=>.inl hy,rfl,rfl,rfl,aw _,fun _ _ _=>rfl⟩,?_⟩
            ·exact .inr ⟨g,T',cur,c,fT,hh,Dn,o8,fun q row hq=>let ⟨h3,h4⟩:=Cu q row hq; ⟨h3,fun j cc hj=>let ⟨v,hv,Ib,L7⟩:=h4 j cc hj; ⟨v,hv,Ib,L7.mono (Env.ld hle)⟩⟩,hf⟩
            ·by_cases hq:k=b1∧q=v'+1
             ·obtain⟨rfl,rfl⟩:=hq; rw [fT] at kT; cases kT; exact .inl ⟨_,_,_,_,hb⟩
             have:(E.with b1 (v'+1) (g,info.size,c)).cI k q=E.cI k q:=if_neg hq
             rw [this] at kT; exact .inl ⟨_,_,_,_,kT⟩
            exact .ms _ _ _ _ _ g info.size c _ _ fT (fun h=>absurd h (by simp)) (fun h=>SR h) ⟨by simp,yX,fun h=>absurd h (apy _)⟩
           obtain rfl:=V4 (by omega);have zL:rs.length*info.size+xA.toList.length≤cur.size:=by have:=S0.1;simp only [jY];rw [this,Dn,← jx]; exact lE _ (by omega)
           obtain⟨w',wS,SX,DK⟩:=lq (P:=P) (g:=g) (T:=T') (rs.length*info.size) xA.toList 0 w cur hh (by simpa using zL) (xR zJ S0);have gO:(Builtin.append_ #[t,u] ty #[.slice (some ⟨g,o*info.size,none⟩) l1 sc,.slice xa tY.length xc]).run P w = .ok (.slice (some ⟨g,o*info.size,none⟩) (l1+tY.length) sc) w':=by (have Ot:(storeCells (Addr.add ⟨g,o*info.size,none⟩ (l1*info.size)) xA.toList).run P w = .ok () w':=by rw [add_lit,← jx,S2]; exact wS);simp [Builtin.append_,bG hd,bG Fa,iE xQ,Builtin.lenOf,uX,NW,Ot]
           have hle:E.le (E.with b1 (v'+1) (g,info.size,c)):=Env.m4 (hs.dV b1 _ hm _ (lR v')) _;have fT:(E.with b1 (v'+1) (g,info.size,c)).cI b1 (v'+1)=some (g,info.size,c):=if_pos ⟨rfl,rfl⟩
           refine⟨_,w',E.with b1 (v'+1) (g,info.size,c),o,rs++tY,gO,by rw [List.drop_append_of_le_length (by omega)],by rw [aQ]; omega,hs.renew hm (fun ad y hy=>?_) (by rw [DK.size]; exact aw _) (by rw [DK.size]; exact hs.lt _ _ _ _ _ hb) (fun k B' kT iQ V6 g' e' c' gi=>?_) ?_ (fun k v2 e2 c2 h=>hs.apart _ _ _ _ _ _ _ _ _ h hb),
            ⟨hle,fun k q g' e' c' kT=>?_,fun ad y hy=>.inl hy,DK.os,DK.tape,DK.output,by rw [DK.size]; exact aw _,fun b' kc ep=>DK.heap b' fun e=>by subst e; exact ep _ _ _ _ hb⟩,?_⟩
           ·have ep:=hs.DD hf hy;rw [← hs.F ad y hy]; simp [World.cell?,DK.heap _ ep]
           ·(have hgg:g'≠g:=fun e=>by subst e;exact kT (hs.apart _ _ _ _ _ _ _ _ _ gi hb));exact⟨DK.heap _ hgg,hgg⟩
           ·refine .inr ⟨g,T',_,c,fT,SX,by rw [lV]; exact Dn,by rw [aQ]; omega,?_,hf⟩;intro q row hq;simp only [kC];(have FE:xA.toList.length=tY.length*info.size:=by simpa using S0.1);rw [VW] at hq;split at hq;(·rename_i ca;obtain⟨h3,h4⟩:=Cu q row hq;refine⟨h3,fun j cc hj=>?_⟩;obtain⟨v,hv,Ib,L7⟩:=h4 j cc hj;(have E8:j<info.size:=by rw [← h3]; exact (az.1 hj).1);refine⟨v,?_,Ib,L7⟩;rw [kf _ _ _ _ zL,if_neg (by have:=zH ca E8; omega)];exact hv);rename_i ahC;obtain⟨h3,h4⟩:=S0.2 _ row hq;refine⟨h3,fun j cc hj=>?_⟩;obtain⟨v,hv,Ib,L7⟩:=h4 j cc hj;(have E8:j<info.size:=by rw [← h3]; exact (az.1 hj).1);have hql:q-rs.length<tY.length:=(az.1 hq).1;(have hmul:q*info.size=rs.length*info.size+(q-rs.length)*info.size:=by rw [← jx]; congr 1; omega);refine⟨v,?_,Ib,L7⟩;rw [kf _ _ _ _ zL,if_pos (by have:=zH hql E8; omega)];dsimp only at hv;rw [← hv,fC];congr 1; omega
           ·by_cases hq:k=b1∧q=v'+1;(·obtain⟨rfl,rfl⟩:=hq; rw [fT] at kT; cases kT; exact .inl ⟨_,_,_,_,hb⟩);have:(E.with b1 (v'+1) (g,info.size,c)).cI k q=E.cI k q:=if_neg hq;rw [this] at kT; exact .inl ⟨_,_,_,_,kT⟩
           exact .ms _ _ _ _ _ g info.size c _ _ fT (fun _=>rfl) (fun h=>SR h) ⟨uX,yX,fun _=>rfl⟩
          have ca:sc<l1+tY.length:=by omega
          have gO:=lX (ty:=ty) hd Fa xQ XK sa l1 sc tY.length xc xa A xB uZ hx3 ca (by omega) (B4 sc ca);have hle:E.le (E.with b1 (v'+1) (w.heap.size,info.size,grownCap w (l1+tY.length) sc e)):=Env.m4 (hs.dV b1 _ hm _ (lR v')) _;have fT:(E.with b1 (v'+1) (w.heap.size,info.size,grownCap w (l1+tY.length) sc e)).cI b1 (v'+1)=some (w.heap.size,info.size,grownCap w (l1+tY.length) sc e):=if_pos ⟨rfl,rfl⟩
          refine⟨_,_,E.with b1 (v'+1) (w.heap.size,info.size,grownCap w (l1+tY.length) sc e),0,rs.drop o++tY,gO,rfl,by rw [tU]; omega,hs.renew hm (fun ad y hy=>?_) (by simp) (by simp) (fun k B' kT iQ V6 g' e' c' gi=>?_) ?_ (fun k v2 e2 c2 h=>absurd (hs.lt _ _ _ _ _ h) (apy _)),
           ⟨hle,fun k q g' e' c' kT=>?_,fun ad y hy=>.inl hy,rfl,rfl,rfl,by simp,fun b' kc ep=>ey w.drew _ b' kc⟩,?_⟩
          ·rw [World.cell?_alloc_lt w.drew _ ad (World.block_lt_of_cell? w ad (hs.F ad y hy))]; exact hs.F ad y hy
          ·have:=hs.lt _ _ _ _ _ gi;exact⟨ey w.drew _ g' this,by omega⟩
          ·refine .inr ⟨w.heap.size,e,_,_,fT,heap_alloc_new w.drew _,rz sc,by rw [tU]; exact ig sc,?_,fun o=>?_⟩;(·intro q row hq;obtain⟨h3,h4⟩:=m5 (C:=Builtin.zeroCells z0.cells (grownCap w (l1+tY.length) sc e-(l1+tY.length))) wL XM q row hq;exact⟨h3,fun j cc hj=>let ⟨v,hv,Ib,L7⟩:=h4 j cc hj; ⟨v,hv,Ib,L7.mono (Env.ld hle)⟩⟩);show E.F _=none;cases hx:E.F ⟨w.heap.size,o,none⟩ with | none=>rfl | some x=>have:=World.block_lt_of_cell? w _ (hs.F _ _ hx); simp at this
          ·by_cases hq:k=b1∧q=v'+1;(·obtain⟨rfl,rfl⟩:=hq; rw [fT] at kT; cases kT; exact .inr (aw _));have:(E.with b1 (v'+1) (w.heap.size,info.size,grownCap w (l1+tY.length) sc e)).cI k q=E.cI k q:=if_neg hq;rw [this] at kT; exact .inl ⟨_,_,_,_,kT⟩
          exact .ms _ _ _ _ _ w.heap.size info.size _ _ _ fT (fun _=>by simp) (fun _=>⟨rfl,rfl⟩) ⟨ig sc,bE _,fun _=>by simp⟩
         simp at h
        simp at h
       simp at h
      simp at h
     simp at h
    simp at h
   simp at h
  simp at h
 simp at h
end Go.Eng
end

section
namespace Go.Eng
variable [bg]
open Go.RowKit (Below)

def dC (mem:List bm):V→Option V
  | .undef=>some .undef
  | .sc v=>some (lL (.sc v))
  | .slice rows=>some (.slice rows)
  | .full rows=>some (.slice rows)
  | .fa cs=>some (.fa cs)
  | .gn=>some .gn
  | .ms b v s l=>match mem[b]? with
    | some (.rows v' _ rs)=>if v'=v∧s+l≤rs.length then some (.slice ((rs.drop s).take l)) else none
    | some (.uR v' _ rs)=>if v'=v∧s+l≤rs.length then some (.slice ((rs.drop s).take l)) else none
    | _=>none
  | .cX f [] []=>some (.sc (.func f #[] #[]))
  | _=>none
def iI (mem:List bm):List V→Option (List V)
  | []=>some []
  | c :: r=>match dC mem c with
    | some c'=>match iI mem r with | some r'=>some (c' :: r') | none=>none
    | none=>none
def gP (mem:List bm):V→Option V
  | .agg cs=>match iI mem cs with | some l=>some (.agg l) | none=>none
  | v=>dC mem v
def gx (mem:List bm):List V→Option (List V)
  | []=>some []
  | c :: r=>match gP mem c with
    | some c'=>match gx mem r with | some r'=>some (c' :: r') | none=>none
    | none=>none
def zS (mem:List bm):V→Option V
  | .eV vs=>match gx mem vs with | some l=>some (.eV l) | none=>none
  | v=>gP mem v

def jj:V→List (Nat×Nat)
  | .ms b v _ _=>[(b,v)]
  | _=>[]
def fb:V→List (Nat×Nat)
  | .agg cs=>cs.flatMap jj
  | v=>jj v
def refs:V→List (Nat×Nat)
  | .eV vs=>vs.flatMap fb
  | v=>fb v

def Env.qb (E:Env) (w:World) (keys:List (Nat×Nat)):Env :=
  { F:=fun ad=>match E.F ad with
      | some x=>some x
      | none=>if keys.any (fun k=>match E.cI k.1 k.2 with | some (g,_,_)=>g==ad.block | none=>false) then w.cell? ad else none
    cI:=E.cI
    gl:=E.gl.mono fun ad x h=>by simp only [h] }
theorem Env.wY (E:Env) (w:World) (keys:List (Nat×Nat)):E.le (E.qb w keys):=⟨fun ad x h=>by simp [Env.qb,h],fun _ _ _ h=>h⟩
theorem Env.KF {E:Env} {w:World} {keys:List (Nat×Nat)} (hF:∀ ad x,E.F ad=some x→w.cell? ad=some x) {ad:Addr} {x:Value} (h:(E.qb w keys).F ad=some x):w.cell? ad=some x:=by
  unfold Env.qb at h;dsimp only at h;split at h;·rename_i y hy; cases h; exact hF _ _ hy
  ·split at h;(·exact h);·cases h
theorem Env.DP {E:Env} {w:World} {keys:List (Nat×Nat)} {ad:Addr} {x:Value} (h:(E.qb w keys).F ad=some x):E.F ad=some x∨∃ k∈keys,∃ e c,E.cI k.1 k.2=some (ad.block,e,c):=by
  unfold Env.qb at h;dsimp only at h;split at h;·rename_i y hy; cases h; exact .inl hy
  ·split at h;(·rename_i dZ;obtain⟨k,hk,hm⟩:=agH.1 dZ;split at hm;(·rename_i g e c hb;simp only [beq_iff_eq] at hm; subst hm;exact .inr ⟨k,hk,e,c,hb⟩);·cases hm);·cases h
theorem Env.XT {E:Env} {w:World} {keys:List (Nat×Nat)} {k v g e c:Nat} (hk:(k,v)∈keys) (hb:E.cI k v=some (g,e,c)) {o:Nat} {x:Value} (hn:E.F ⟨g,o,none⟩=none) (hx:w.cell? ⟨g,o,none⟩=some x):(E.qb w keys).F ⟨g,o,none⟩=some x:=by have:keys.any (fun k=>match E.cI k.1 k.2 with | some (g',_,_)=>g'==g | none=>false)=true:=agH.2 ⟨(k,v),hk,by simp [hb]⟩;unfold Env.qb;dsimp only;rw [hn];dsimp only;rw [if_pos this]; exact hx

theorem FI {E:Env} {w:World} {a:Act} {st:St} (hs:dr E w a st) {keys:List (Nat×Nat)} {k v g e c:Nat} (hk:(k,v)∈keys) (hb:E.cI k v=some (g,e,c)) {B:bm} (hm:st.mem[k]?=some B) {rs:List V} {e':Nat}
    (hB:B = .rows v e' rs∨B = .uR v e' rs):e'=e∧rs.length≤c∧mC E.pure e rs (fun o=>(E.qb w keys).F ⟨g,o,none⟩):=by
  rcases hB with rfl | rfl
  ·(rcases hs.mem k _ hm with ⟨-,hn⟩ | ⟨g',T,xs,c',kc,hh,mY,hl,hr,hf⟩);(·rw [hb] at hn; cases hn);·rw [hb] at kc; cases kc;refine⟨rfl,hl,fun i row hi=>?_⟩;obtain⟨h1,h2⟩:=hr i row hi;exact⟨h1,fun j cc hj=>let ⟨x,hx,h⟩:=h2 j cc hj; ⟨x,Env.XT hk hb (hf _) (by rw [oP hh]; exact hx),h⟩⟩
  ·(rcases hs.mem k _ hm with ⟨-,hn⟩ | ⟨g',c',kc,hl,hr⟩);(·rw [hb] at hn; cases hn);rw [hb] at kc; cases kc;refine⟨rfl,hl,fun i row hi=>?_⟩;obtain⟨h1,h2⟩:=hr i row hi;exact⟨h1,fun j cc hj=>let ⟨x,hx,h⟩:=h2 j cc hj; ⟨x,(Env.wY E w keys).F _ _ hx,h⟩⟩

theorem pc {E:Env} {w:World} {a:Act} {st:St} (hs:dr E w a st) {keys:List (Nat×Nat)} {v v':V} {x:Value} (hr:dh E v x) (h:dC st.mem v=some v') (hk:∀ k∈jj v,k∈keys):dh (E.qb w keys).pure v' x:=by
  have hle:=Env.ld (Env.wY E w keys)
  have hms:∀ {b v s l:Nat} {B:bm} {rs:List V} {e':Nat},dh E (.ms b v s l) x→(b,v)∈keys→st.mem[b]?=some B→(B = .rows v e' rs∨B = .uR v e' rs)→s+l≤rs.length→dh (E.qb w keys).pure (.slice ((rs.drop s).take l)) x:=by
    intro b v s l B rs e' hr gi hm hB hl;have hlen:((rs.drop s).take l).length=l:=by simp; omega
    rcases DI hr with ⟨rfl,rfl⟩ | ⟨g,e,c,aa,cap,rfl,hb,IA,-,hlc⟩
    ·rw [show (rs.drop s).take 0=[] from by simp];exact .slice _ [] none 0 0 default (fun _ _=>default) (by simp) (by simp) (by simp) (by simp) (by simp) (by simp)
    · obtain⟨rfl,tU,hrk⟩:=FI hs gi hb hm hB
      have j1:∀ (i:Nat) (row:V) (j:Nat) (cc:V),((rs.drop s).take l)[i]?=some row→row.cells[j]?=some cc→∃ y,(E.qb w keys).F ⟨g,(s+i)*e'+j,none⟩=some y∧y.oneCell'=true∧dh E.pure cc y:=fun i row j cc hi hj =>
        (hrk _ _ (yV hi)).2 j cc hj
      let xf:Nat→Nat→Value:=fun i j=>((E.qb w keys).F ⟨g,(s+i)*e'+j,none⟩).getD default;have Fk:dh (E.qb w keys).pure (.slice ((rs.drop s).take l)) (.slice aa ((rs.drop s).take l).length cap):=by refine .slice _ _ _ _ e' ⟨g,s*e',none⟩ xf (fun ep=>IA ?_) (by rw [hlen]; exact hlc.1) (fun i row hi=>(hrk _ _ (yV hi)).1) (fun i row j cc hi hj=>?_) (fun i row j cc hi hj=>?_) fun i row j cc hi hj=>?_;(·have:((rs.drop s).take l).length≠0:=fun h0=>ep (cC.1 h0);omega);(·obtain⟨y,hy,-⟩:=j1 i row j cc hi hj;(have XP:s*e'+(i*e'+j)=(s+i)*e'+j:=by rw [jx]; omega);rw [add_lit,XP];show (E.qb w keys).F _=some (xf i j);simp [xf,hy]);(·obtain⟨y,hy,h1,-⟩:=j1 i row j cc hi hj;simp [xf,hy,h1]);·obtain⟨y,hy,-,h2⟩:=j1 i row j cc hi hj;(have:xf i j=y:=by simp [xf,hy]);rw [this]; exact h2.mono hle
      rw [hlen] at Fk; exact Fk
  unfold dC at h;split at h;·simp only [aF] at h; subst h; exact .undef _ _
  ·simp only [aF] at h; subst h; exact pJ (by rw [gN hr]; exact .sc _ _)
  ·simp only [aF] at h; subst h;cases hr with | slice _ _ a cap tR ad xf ha nR hz hF h1 hR=>exact (dh.slice E.pure _ a cap tR ad xf ha nR hz hF h1 hR).mono hle
  ·simp only [aF] at h; subst h;cases hr with | full _ _ a h =>cases h with | slice _ _ a cap tR ad xf ha nR hz hF h1 hR=>exact (dh.slice E.pure _ a _ tR ad xf ha (aw _) hz hF h1 hR).mono hle
  ·simp only [aF] at h; subst h;cases hr with | fa _ _ ad xf hF hR=>exact (dh.fa E.pure _ ad xf hF hR).mono hle
  ·simp only [aF] at h; subst h;cases hr with | gn=>exact .gn _
  ·rename_i b v s l;have gi:(b,v)∈keys:=hk (b,v) (by simp [jj]);split at h;(·rename_i v' e rs hm;split at h;(·rename_i hl; obtain⟨rfl,hl⟩:=hl; simp only [aF] at h; subst h; exact hms hr gi hm (.inl rfl) hl);·cases h);(·rename_i v' e rs hm;split at h;(·rename_i hl; obtain⟨rfl,hl⟩:=hl; simp only [aF] at h; subst h; exact hms hr gi hm (.inr rfl) hl);·cases h);·cases h
  ·simp only [aF] at h; subst h;cases hr with | cX _ f _ _ xs ys hx hy h1 h2 =>(have e1:xs = #[]:=by simpa using hx.symm);(have e2:ys = #[]:=by simpa using hy.symm);subst e1; subst e2; exact .sc _ _
  ·cases h

theorem rB {E:Env} {w:World} {a:Act} {st:St} (hs:dr E w a st) {keys:List (Nat×Nat)}:∀ {vs vs':List V} {xs:List Value},cY E vs xs→iI st.mem vs=some vs'→(∀ k∈vs.flatMap jj,k∈keys) →
    cY (E.qb w keys).pure vs' xs
  | [],vs',xs,hr,h,_=>by simp [iI] at h; subst h; rw [hr.of_nil]; exact .nil _
  | v :: vs,vs',xs,hr,h,hk=>by
    obtain⟨x,ys,rfl,h1,h2⟩:=hr.of_cons
    simp only [iI] at h
    split at h
    · rename_i c' hc
      split at h
      · rename_i r' Fc
        simp only [aF] at h; subst h
        exact .cons (pc hs h1 hc fun k iQ=>hk k (by simp [iQ])) (rB hs h2 Fc fun k iQ=>hk k (by simp at iQ ⊢; exact .inr iQ))
      · cases h
    · cases h

theorem zT {E:Env} {w:World} {a:Act} {st:St} (hs:dr E w a st) {keys:List (Nat×Nat)} {v v':V} {x:Value} (hr:dh E v x) (h:gP st.mem v=some v') (hk:∀ k∈fb v,k∈keys):dh (E.qb w keys).pure v' x:=by
  unfold gP at h;split at h;·split at h;(·rename_i cs l hl;simp only [aF] at h; subst h;cases hr with | agg _ _ xs hlen hh =>have:=rB hs (xs:=xs.toList) ⟨by simpa using hlen,fun i c x hc hx=>hh i c x hc (by simpa using hx)⟩ hl (by simpa [fb] using hk);exact .agg _ _ _ (by simpa using this.1) fun i c x hc hx=>this.2 i c x hc (by simpa using hx));·cases h
  ·rename_i ep;refine pc hs hr h fun k iQ=>hk k ?_;cases v <;> first | exact iQ | exact absurd rfl (ep _)
theorem mF {E:Env} {w:World} {a:Act} {st:St} (hs:dr E w a st) {keys:List (Nat×Nat)}:∀ {vs vs':List V} {xs:List Value},cY E vs xs→gx st.mem vs=some vs'→(∀ k∈vs.flatMap fb,k∈keys) →
    cY (E.qb w keys).pure vs' xs
  | [],vs',xs,hr,h,_=>by simp [gx] at h; subst h; rw [hr.of_nil]; exact .nil _
  | v :: vs,vs',xs,hr,h,hk=>by
    obtain⟨x,ys,rfl,h1,h2⟩:=hr.of_cons
    simp only [gx] at h
    split at h
    · rename_i c' hc
      split at h
      · rename_i r' Fc
        simp only [aF] at h; subst h
        exact .cons (zT hs h1 hc fun k iQ=>hk k (by simp [iQ])) (mF hs h2 Fc fun k iQ=>hk k (by simp at iQ ⊢; exact .inr iQ))
      · cases h
    · cases h
theorem Cz {E:Env} {w:World} {a:Act} {st:St} (hs:dr E w a st) {keys:List (Nat×Nat)} {v v':V} {x:Value} (hr:dh E v x) (h:zS st.mem v=some v') (hk:∀ k∈refs v,k∈keys):dh (E.qb w keys).pure v' x:=by
  unfold zS at h;split at h;·split at h;(·rename_i vs l hl;simp only [aF] at h; subst h;cases hr with | eV _ _ xs hlen hh =>have:=mF hs (xs:=xs.toList) ⟨by simpa using hlen,fun i c x hc hx=>hh i c x hc (by simpa using hx)⟩ hl (by simpa [refs] using hk);exact .eV _ _ _ (by simpa using this.1) fun i c x hc hx=>this.2 i c x hc (by simpa using hx));·cases h
  ·rename_i ep;refine zT hs hr h fun k iQ=>hk k ?_;cases v <;> first | exact iQ | exact absurd rfl (ep _)

def bR (P:Program) (f:FuncId) (args:List V) (r:V):Prop :=
  (∀ (xs:Array Value) (w:World),(callFunc f xs).run P w = .ok (.enter f xs) w) ∧
  ∀ (F:Addr→Option Value) (hg:Gl F) (w:World) (xs:Array Value),(∀ ad x,F ad=some x→w.cell? ad=some x)→cY ⟨F,fun _ _=>none,hg⟩ args xs.toList →
    Calls P f xs w fun e w'=>∃ F' x,e = .returned x∧(∀ ad y,F ad=some y→F' ad=some y)∧(∀ ad y,F' ad=some y→w'.cell? ad=some y)∧(∀ ad y,F' ad=some y→F ad=some y∨w.heap.size≤ad.block) ∧
      (∃ FJ,dh ⟨F',fun _ _=>none,FJ⟩ r x)∧Below w.heap.size w w'

def dK:V→Bool
  | .undef=>true
  | .sc _=>true
  | .agg cs=>cs.all (fun c=>match c with | .sc _=>true | _=>false)
  | _=>false
def dS:V→Bool
  | .eV vs=>vs.all dK
  | v=>dK v

theorem CA {E E':Env} {v:V} {x:Value} (h:dh E v x) (hf:dK v=true):dh E' v x:=by cases h with | undef=>exact .undef _ _ | sc=>exact .sc _ _ | agg _ cs xs hl hh =>refine .agg _ _ _ hl fun i c x hc hx=>?_;have h1:=hh i c x hc hx;simp only [dK,a7] at hf;have:=hf c (aB hc);cases c <;> simp at this;rw [gN h1]; exact .sc _ _ | _=>simp [dK] at hf
theorem L9 {E E':Env} {v:V} {x:Value} (h:dh E v x) (hf:dS v=true):dh E' v x:=by
  unfold dS at hf;split at hf;·cases h with | eV _ vs xs hl hh =>refine .eV _ _ _ hl fun i c x hc hx=>CA (hh i c x hc hx) ?_;simp only [a7] at hf;exact hf c (aB hc)
  ·exact CA h hf

def eU (mem:List bm) (k:Nat×Nat):List bm:=match mem[k.1]? with | some (.rows v e rs)=>if v=k.2 then mem.set k.1 (.uR v e rs) else mem | _=>mem
def ck (mem:List bm) (keys:List (Nat×Nat)):List bm:=keys.foldl eU mem

def oV (keys:List (Nat×Nat)) (q:Nat):Option bm→Option bm
  | some (.rows v e rs)=>if (q,v)∈keys then some (.uR v e rs) else some (.rows v e rs)
  | B=>B
theorem Ou (mem:List bm) (k:Nat×Nat) (q:Nat):(eU mem k)[q]?=oV [k] q mem[q]?:=by
  obtain⟨k,kv⟩:=k;unfold eU;dsimp only;split;·rename_i v e rs hk;split;(·rename_i hv;subst hv;rw [bK];by_cases hq:k=q;(·subst hq;rw [hk];simp [oV,(az.1 hk).1]);·rw [if_neg hq];have SZ:¬ q=k:=fun e=>hq e.symm;cases hB:mem[q]? with | none=>rfl | some B=>cases B <;> simp [oV,SZ]);·rename_i hv;cases hB:mem[q]? with | none=>rfl | some B =>(cases B <;> first | rfl | skip);rename_i v' e' nj;simp only [oV,eJ,eA];rw [if_neg];rintro⟨rfl,rfl⟩;rw [hk] at hB; cases hB; exact hv rfl
  ·rename_i hk;cases hB:mem[q]? with | none=>rfl | some B =>(cases B <;> first | rfl | skip);rename_i v e rs;simp only [oV,eJ,eA];rw [if_neg];rintro⟨rfl,rfl⟩;exact hk _ _ _ hB
theorem qk (keys:List (Nat×Nat)):∀ (mem:List bm) (q:Nat),(ck mem keys)[q]?=oV keys q mem[q]?:=by induction keys with | nil=>(intro mem q; simp only [ck,ba]; cases hB:mem[q]? with | none=>rfl | some B=>cases B <;> simp [oV]) | cons k r ih =>intro mem q;show (ck (eU mem k) r)[q]?=_;rw [ih,Ou];cases hB:mem[q]? with | none=>rfl | some B =>(cases B <;> first | rfl | skip);rename_i v e rs;simp only [oV,cb,tv,or_false];by_cases hq:(q,v)=k;(·rw [if_pos hq,if_pos (.inl hq)]);·rw [if_neg hq];by_cases hr:(q,v)∈r;(·rw [if_pos (.inr hr)]; simp [hr]);·rw [if_neg (fun h=>h.elim hq hr)]; simp [hr]
theorem tF (keys:List (Nat×Nat)):∀ (mem:List bm),(ck mem keys).length=mem.length:=by induction keys with | nil=>intro mem; rfl | cons k r ih =>intro mem;show (ck (eU mem k) r).length=_;rw [ih]; unfold eU;split;(·split <;> simp);·rfl

def bT (mem:List bm) (keys:List (Nat×Nat)) (r:V):List bm:=if dS r=true then mem else ck mem keys

theorem Ma {mem:List bm} {k:Nat×Nat}:∀ {us Ov:List V},gx mem us=some Ov→k∈us.flatMap fb→∃ B,mem[k.1]?=some B∧B.dV=k.2∧∃ e rs,B = .rows k.2 e rs∨B = .uR k.2 e rs:=by
  have Wa:∀ (cs tC:List V),iI mem cs=some tC→k∈cs.flatMap jj→∃ B,mem[k.1]?=some B∧B.dV=k.2∧∃ e rs,B = .rows k.2 e rs∨B = .uR k.2 e rs:=by intro cs;induction cs with | nil=>intro tC _ hm; simp at hm | cons c r ih =>intro tC hp hm;simp only [iI] at hp;split at hp;(·rename_i c' hc;split at hp;(·rename_i r' hr;simp only [kV,ew] at hm;(rcases hm with hm | hm);(·cases c <;> simp only [jj,eJ,tv] at hm;subst hm;simp only [dC] at hc;split at hc;(·rename_i h;split at hc;(·rename_i hv; obtain⟨rfl,-⟩:=hv; exact⟨_,h,rfl,_,_,.inl rfl⟩);·cases hc);(·rename_i h;split at hc;(·rename_i hv; obtain⟨rfl,-⟩:=hv; exact⟨_,h,rfl,_,_,.inr rfl⟩);·cases hc);·cases hc);·exact ih _ hr hm);·cases hp);·cases hp
  intro us;induction us with | nil=>intro Ov _ hm; simp at hm | cons c r ih =>intro Ov hp hm;simp only [gx] at hp;split at hp;(·rename_i c' hc;split at hp;(·rename_i r' hr;simp only [kV,ew] at hm;(rcases hm with hm | hm);(·unfold gP at hc;split at hc;(·split at hc;(·rename_i l hl; exact Wa _ _ hl hm);·cases hc);·rename_i ep;refine Wa [c] [c'] (by simp [iI,hc]) ?_;simp only [kV,apS,jv];cases c <;> first | exact hm | exact absurd rfl (ep _));·exact ih hr hm);·cases hp);·cases hp

theorem zU {E:Env} {w w':World} {a:Act} {st:St} (hs:dr E w a st) {vs vs':List V} (hp:gx st.mem vs=some vs') {F':Addr→Option Value} (IB:∀ ad y,(E.qb w (vs.flatMap fb)).F ad=some y→F' ad=some y)
    (kH:∀ ad y,F' ad=some y→w'.cell? ad=some y) (hF3:∀ ad y,F' ad=some y→(E.qb w (vs.flatMap fb)).F ad=some y∨w.heap.size≤ad.block) (hb:Below w.heap.size w w') :
    ∃ hg,iC E w ⟨F',E.cI,hg⟩ w'∧dr ⟨F',E.cI,hg⟩ w' a { st with mem:=ck st.mem (vs.flatMap fb) }:=by
  have hg:Gl F':=E.gl.mono fun ad x h=>IB _ _ ((Env.wY E w _).F _ _ h);refine⟨hg,?_⟩;have hle:E.le ⟨F',E.cI,hg⟩:=⟨fun ad y hy=>IB _ _ ((Env.wY E w _).F _ _ hy),fun _ _ _ h=>h⟩;have ahH:(E.qb w (vs.flatMap fb)).le ⟨F',E.cI,hg⟩:=⟨IB,fun _ _ _ h=>h⟩;have clean:∀ k B,st.mem[k]?=some B→B.held=true→(∀ v e rs,B ≠ .uR v e rs)→(∀ v e rs,B = .rows v e rs→(k,v) ∉ vs.flatMap fb)→∀ g e c o,E.cI k B.dV=some (g,e,c)→E.F ⟨g,o,none⟩=none→F' ⟨g,o,none⟩=none:=by intro k B hB hh da zV g e c o gi hn;cases hy:F' ⟨g,o,none⟩ with | none=>rfl | some y =>exfalso;(rcases hF3 _ y hy with h | h);(·(rcases Env.DP h with h | ⟨k',iQ,e',c',h⟩);(·rw [hn] at h; cases h);·obtain⟨B',uO,zp,e1,rs1,SY⟩:=Ma hp iQ;(have SX:B'.held=true:=by rcases SY with rfl | rfl <;> rfl);rw [← zp] at h;have fN:=hs.apart _ _ _ _ _ _ _ _ _ gi h;subst fN;rw [hB] at uO; cases uO;(rcases SY with rfl | rfl);(·exact zV _ _ _ rfl (by rw [show (k'.1,k'.2)=k' from rfl]; exact iQ));·exact da _ _ _ rfl);·have:=hs.lt _ _ _ _ _ gi; simp at h; omega
  refine⟨⟨hle,fun k v g e c h=>.inl ⟨k,v,e,c,h⟩,fun ad y hy=>?_,hb.os,hb.tape,hb.output,hb.size,fun b ca _=>hb.block b ca⟩,?_⟩;·(rcases hF3 ad y hy with h | h);(·(rcases Env.DP h with h | ⟨k,-,e,c,h⟩);(·exact .inl h);·exact .inr (.inr ⟨k.1,k.2,e,c,h⟩));·exact .inr (.inl h)
  ·(have tW:∀ (q:Nat) (B:bm),(ck st.mem (vs.flatMap fb))[q]?=some B→∃ B',st.mem[q]?=some B'∧B.dV=B'.dV∧B.held=B'.held∧(B=B'∧(∀ v e rs,B = .rows v e rs→(q,v) ∉ vs.flatMap fb)∨∃ v e rs,B' = .rows v e rs∧B = .uR v e rs∧(q,v)∈vs.flatMap fb):=fun q B hq=>by rw [qk] at hq;cases KG:st.mem[q]? with | none=>rw [KG] at hq; simp [oV] at hq | some B0 =>rw [KG] at hq;refine⟨B0,rfl,?_⟩;cases B0 with | rows v e rs =>(simp only [oV] at hq;split at hq;(·rename_i o7; cases hq; exact⟨rfl,rfl,.inr ⟨v,e,rs,rfl,rfl,o7⟩⟩);·rename_i o7; cases hq; exact⟨rfl,rfl,.inl ⟨rfl,fun v' e' nj h=>by cases h; exact o7⟩⟩) | _=>cases hq; exact⟨rfl,rfl,.inl ⟨rfl,fun v' e' nj h=>by cases h⟩⟩);refine⟨kH,fun k v g e c h=>qL (hs.lt _ _ _ _ _ h) hb.size,fun k B hk=>?_,fun k hk v=>hs.top k (by simpa [tF] using hk) v,fun k B hk v hv=>?_,hs.apart,hs.fr.mono hle⟩;(·obtain⟨B',uO,-,-,zQ⟩:=tW k B hk;(rcases zQ with ⟨rfl,zV⟩ | ⟨v,e,rs,rfl,rfl,o7⟩);(·have zW:=(hs.mem k B uO).mono (E':=⟨F',E.cI,hg⟩) (w':=w') hle (fun _ h=>h) (fun g e c h=>hb.block _ (hs.lt _ _ _ _ _ h));cases Tu:B with | uR v e rs =>(subst Tu;(rcases hs.mem k _ uO with h9 | ⟨g,c,mG,hl,hr⟩);(·exact .inl h9);refine .inr ⟨g,c,mG,hl,fun i row hi=>?_⟩;obtain⟨h5,h6⟩:=hr i row hi;exact⟨h5,fun j cc hj=>let ⟨x,hx,h7,h8⟩:=h6 j cc hj; ⟨x,hle.F _ _ hx,h7,h8.mono (Env.ld hle)⟩⟩) | hole=>subst Tu; exact hs.mem k _ uO | dead=>trivial | loop s nS fr params assign body=>subst Tu; exact zW (clean k _ uO rfl (fun _ _ _ h=>by cases h) (fun _ _ _ h=>by cases h)) | box cs=>subst Tu; exact zW (clean k _ uO rfl (fun _ _ _ h=>by cases h) (fun _ _ _ h=>by cases h)) | map dO clock=>subst Tu; exact zW (clean k _ uO rfl (fun _ _ _ h=>by cases h) (fun _ _ _ h=>by cases h)) | jO m since seen last=>subst Tu; exact zW (clean k _ uO rfl (fun _ _ _ h=>by cases h) (fun _ _ _ h=>by cases h)) | nP s pos=>subst Tu; exact zW (clean k _ uO rfl (fun _ _ _ h=>by cases h) (fun _ _ _ h=>by cases h)) | oa=>subst Tu; exact zW (clean k _ uO rfl (fun _ _ _ h=>by cases h) (fun _ _ _ h=>by cases h)) | rows v e rs=>subst Tu; exact zW (clean k _ uO rfl (fun _ _ _ h=>by cases h) zV));·(rcases hs.mem k _ uO with h9 | ⟨g,T,cur,c,mG,-⟩);(·exact .inl h9);·obtain⟨-,hl,hr⟩:=FI hs o7 mG uO (.inl rfl);refine .inr ⟨g,c,mG,hl,fun i row hi=>?_⟩;obtain⟨h5,h6⟩:=hr i row hi;exact⟨h5,fun j cc hj=>let ⟨x,hx,h7,h8⟩:=h6 j cc hj; ⟨x,ahH.F _ _ hx,h7,h8.mono (Env.ld hle)⟩⟩);·obtain⟨B',uO,Ib,-,-⟩:=tW k B hk;exact hs.dV k B' uO v (by omega)

theorem dr.freeze {E:Env} {w:World} {a:Act} {st:St} (hs:dr E w a st) {vs vs':List V} (hp:gx st.mem vs=some vs') :
    ∃ E',dr E' w a { st with mem:=ck st.mem (vs.flatMap fb) }∧iC E w E' w∧∀ xs,cY E vs xs→cY E' vs' xs:=by obtain⟨hg,h1,h2⟩:=zU hs hp (F':=(E.qb w (vs.flatMap fb)).F) (fun _ _ h=>h) (fun ad y h=>Env.KF hs.F h) (fun _ _ h=>.inl h) (Below.refl _ w);exact⟨_,h2,h1,fun xs hx=>(mF hs (keys:=vs.flatMap fb) hx hp fun k hk=>hk).mono ⟨fun _ _ h=>h,fun _ _ _ h=>by cases h⟩⟩

theorem Mb {P:Program} {f:FuncId} {E:Env} {w:World} {a:Act} {st:St} (hs:dr E w a st) {vs vs':List V} {r:V} {xs:Array Value} (hx:cY E vs xs.toList) (hp:gx st.mem vs=some vs') (hf:bR P f vs' r) :
    Calls P f xs w fun e w'=>∃ E' x,e = .returned x∧iC E w E' w'∧dr E' w' a { st with mem:=bT st.mem (vs.flatMap fb) r }∧dh E' r x:=by
  have h1:=mF hs (keys:=vs.flatMap fb) hx hp fun k hk=>hk;refine (hf.2 (E.qb w (vs.flatMap fb)).F (E.qb w (vs.flatMap fb)).gl w xs (fun ad x h=>Env.KF hs.F h) h1).mono ?_;rintro e w' ⟨F',x,rfl,IB,kH,hF3,⟨FJ,ni⟩,hb⟩;unfold bT;split;·rename_i abP;refine⟨E,x,rfl,⟨E.le_refl,fun k v g e c h=>.inl ⟨k,v,e,c,h⟩,fun _ _ h=>.inl h,hb.os,hb.tape,hb.output,hb.size,fun b ca _=>hb.block b ca⟩,?_,L9 ni abP⟩;refine⟨fun ad y hy=>?_,fun k v g e c h=>qL (hs.lt _ _ _ _ _ h) hb.size,fun k B hk=>?_,hs.top,hs.dV,hs.apart,hs.fr⟩;(·rw [hb.cell (World.block_lt_of_cell? w ad (hs.F ad y hy))]; exact hs.F ad y hy);·exact (hs.mem k B hk).mono E.le_refl (fun _ h=>h) (fun g e c h=>hb.block _ (hs.lt _ _ _ _ _ h)) fun _ _ _ _ _ h=>h
  ·obtain⟨hg,e1,s1⟩:=zU hs hp IB kH hF3 hb;exact⟨_,x,rfl,e1,s1,ni.mono ⟨fun _ _ h=>h,fun _ _ _ h=>by simp at h⟩⟩
end Go.Eng
end
