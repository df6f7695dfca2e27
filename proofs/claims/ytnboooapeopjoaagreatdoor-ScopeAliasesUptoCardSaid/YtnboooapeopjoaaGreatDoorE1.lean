import Derived.Orders
import Derived.Below
import Derived.Laws.AppendOwn
import Derived.Laws.Cells
import Derived.Laws.Entries
import Derived.Laws.ResultCell
import Derived.Laws.BytesArg
import Derived.Laws.Append
import Derived.IntWalk
open Array renaming append_assoc→anV,foldl_toList→ans,getD_eq_getD_getElem?→ki,getElem?_append_left→anD,getElem?_append_right→aoc,getElem?_eq_getElem→bS,getElem?_eq_none→am1,getElem?_eq_some_iff→dp,getElem?_map→anX,getElem?_modify→an4,getElem?_setIfInBounds_ne→BA,getElem?_toList→eX,isEmpty_iff_size_eq_zero→anM,length_toList→jq,size_append→Y5,size_map→anF,toArray_toList→cL,toList_append→jr,toList_filter→ant,toList_push→anR,toList_zipIdx→an0
open Bool renaming and_eq_true→aN,and_true→aK,eq_iff_iff→ae4,false_eq_true→b9,or_eq_false_iff→anu,or_self→bu
open Go.RowKit.Below renaming heap_alloc→dL
open List renaming all_cons→cA,all_eq_true→aY,all_nil→dA,any_eq_true→am3,append_nil→ou,drop_eq_getElem_cons→cQ,drop_eq_nil_of_le→dX,drop_zero→ang,ext_getElem?→di,findIdx?_cons→anW,flatMap_cons→gq,flatMap_nil→anm,foldl_cons→eZ,foldl_nil→anh,getD_eq_getElem?_getD→eH,getElem?_append→Tn,getElem?_append_left→bm,getElem?_append_right→aW,getElem?_cons_succ→mg,getElem?_cons_zero→fb,getElem?_drop→Yx,getElem?_eq_getElem→ah,getElem?_eq_none→dF,getElem?_eq_some_iff→ax,getElem?_map→ae,getElem?_replicate→anx,getElem?_set→bw,getElem?_set_ne→eE,getElem?_take→lX,getElem?_take_of_lt→jb,head?_eq_getElem?→an7,isEmpty_iff→anl,length_append→ch,length_cons→aD,length_drop→aep,length_eq_zero_iff→cd,length_nil→aM,length_take→dz,map_cons→cB,map_nil→dY,mem_append→fI,mem_cons→cp,mem_cons_of_mem→bh,mem_cons_self→bJ,mem_of_getElem?→ay,mem_singleton→fO,not_mem_nil→nG,take_nil→anz,take_of_length_le→bE,take_zero→mQ
open Nat renaming add_assoc→nH,add_comm→am2,add_mul→iL,add_zero→jS,div_add_mod→anH,div_lt_iff_lt_mul→an5,eq_zero_or_pos→anr,le_refl→aw,le_trans→AO,lt_irrefl→am0,lt_of_lt_of_le→pI,lt_or_ge→bW,lt_succ_self→kW,mod_lt→anf,mul_le_mul→anE,mul_le_mul_right→kJ,sub_self→c5,succ_mul→mR,zero_add→ct
open Option renaming getD_none→anL,getD_some→amY,isSome_none→anT,isSome_some→anU,map_eq_some_iff→br,map_none→amZ,map_some→bz
open Option.some renaming injEq→aB
open Prod.mk renaming injEq→dQ
set_option linter.all false
section
namespace Go.Eng

class a6 where
 n:Int
 κ:Int→Option Bool
 ok:∀ k b,κ k=some b→decide (k≤n)=b
 g:Option Nat
 U2:Nat→Option (List Value)
variable [a6]
structure Gl (F:Addr→Option Value):Prop where
 n:∀ g,a6.g=some g→F ⟨g,0,none⟩=some (.int .i64 a6.n)
 t:∀ g cs (j:Nat) x,a6.U2 g=some cs→cs[j]?=some x→F ⟨g,j,none⟩=some x
theorem Gl.mono {F F':Addr→Option Value} (h:Gl F) (hF:∀ ad x,F ad=some x→F' ad=some x):Gl F':=⟨fun g hg=>hF _ _ (h.n g hg),fun g cs j x h1 h2=>hF _ _ (h.t g cs j x h1 h2)⟩

inductive V where
 | undef
 | sc (v:Value)
 | agg (cs:List V)
 | slice (rows:List V)
 | ms (b v s l:Nat)
 | ptr (b o:Nat)
 | gC (b v i o:Nat)
 | eL (cs:List V)
 | cC (f:Fn) (first cap:List V)
 | eC (vs:List V)
 | jz (b:Nat)
 | mp (b:Nat)
 | gn
 | full (rows:List V)
 deriving Inhabited

def V.cells:V→List V
 | .agg cs=>cs
 | v=>[v]

structure Env where
 F:Addr→Option Value
 cj:Nat→Nat→Option (Nat×Nat×Nat)
 gl:Gl F

def Env.pure (E:Env):Env := { F:=E.F,cj:=fun _ _=>none,gl:=E.gl }

inductive cK:Env→V→Value→Prop
 | undef (E:Env) (x:Value):cK E .undef x
 | sc (E:Env) (v:Value):cK E (.sc v) v
 | agg (E:Env) (cs:List V) (xs:Array Value) (hl:cs.length=xs.size) (h:∀ (i:Nat) (c:V) (x:Value),cs[i]?=some c→xs[i]?=some x→cK E c x):cK E (.agg cs) (.agg xs)
 | slice (E:Env) (rows:List V) (a:Option Addr) (cap sy:Nat) (ad:Addr) (xf:Nat→Nat→Value) (ha:rows≠[]→a=some ad) (mW:rows.length≤cap)
   (hs:∀ (i:Nat) (row:V),rows[i]?=some row→row.cells.length=sy)
   (hF:∀ (i:Nat) (row:V) (j:Nat) (c:V),rows[i]?=some row→row.cells[j]?=some c→E.F (ad.add (i*sy+j))=some (xf i j))
   (h1:∀ (i:Nat) (row:V) (j:Nat) (c:V),rows[i]?=some row→row.cells[j]?=some c→(xf i j).oneCell'=true)
   (h:∀ (i:Nat) (row:V) (j:Nat) (c:V),rows[i]?=some row→row.cells[j]?=some c→cK E.pure c (xf i j)):cK E (.slice rows) (.slice a rows.length cap)
 | ms (E:Env) (b v s l g e c:Nat) (a:Option Addr) (cap:Nat) (hb:E.cj b v=some (g,e,c)) (hl:0<l→a=some ⟨g,s*e,none⟩) (h0:s=0→a=some ⟨g,0,none⟩∧cap=c) (hc:l≤cap∧s+cap=c∧(0<cap→a=some ⟨g,s*e,none⟩)) :
   cK E (.ms b v s l) (.slice a l cap)
 | iz (E:Env) (b v s:Nat):cK E (.ms b v s 0) (.slice none 0 0)
 | ptr (E:Env) (b o g e c:Nat) (hb:E.cj b 0=some (g,e,c)):cK E (.ptr b o) (.pointer (some ⟨g,o,none⟩))
 | gC (E:Env) (b v i o g e c:Nat) (hb:E.cj b v=some (g,e,c)):cK E (.gC b v i o) (.pointer (some ⟨g,i*e+o,none⟩))
 | eL (E:Env) (cs:List V) (ad:Addr) (xf:Nat→Value) (hF:∀ (j:Nat) (c:V),cs[j]?=some c→E.F (ad.add j)=some (xf j)) (h:∀ (j:Nat) (c:V),cs[j]?=some c→cK E.pure c (xf j)) :
   cK E (.eL cs) (.pointer (some ad))
 | cC (E:Env) (f:Fn) (first cap:List V) (xs ys:Array Value) (hx:first.length=xs.size) (hy:cap.length=ys.size)
   (h1:∀ (i:Nat) (c:V) (x:Value),first[i]?=some c→xs[i]?=some x→cK E c x) (h2:∀ (i:Nat) (c:V) (x:Value),cap[i]?=some c→ys[i]?=some x→cK E c x):cK E (.cC f first cap) (.func f xs ys)
 | jz (E:Env) (b l e c:Nat) (hb:E.cj b 0=some (l,e,c)):cK E (.jz b) (.func (.yield l) #[] #[])
 | mp (E:Env) (b l e c:Nat) (hb:E.cj b 0=some (l,e,c)):cK E (.mp b) (.map (some l))
 | gn (E:Env):cK E .gn (.int .i64 a6.n)
 | full (E:Env) (rows:List V) (a:Option Addr) (h:cK E (.slice rows) (.slice a rows.length rows.length)):cK E (.full rows) (.slice a rows.length rows.length)
 | eC (E:Env) (vs:List V) (xs:Array Value) (hl:vs.length=xs.size) (h:∀ (i:Nat) (c:V) (x:Value),vs[i]?=some c→xs[i]?=some x→cK E c x):cK E (.eC vs) (.tuple xs)

def cz (E:Env) (vs:List V) (xs:List Value):Prop:=vs.length=xs.length∧∀ (i:Nat) (v:V) (x:Value),vs[i]?=some v→xs[i]?=some x→cK E v x

theorem Env.JL {a b:Env} (h1:a.F=b.F) (h2:a.cj=b.cj):a=b:=by cases a; cases b; dsimp only at h1 h2; subst h1; subst h2; rfl

structure Env.le (E E':Env):Prop where
 F:∀ ad x,E.F ad=some x→E'.F ad=some x
 cj:∀ b v t,E.cj b v=some t→E'.cj b v=some t

theorem Env.le_refl (E:Env):E.le E:=⟨fun _ _ h=>h,fun _ _ _ h=>h⟩
theorem Env.le_trans {a b c:Env} (h:a.le b) (k:b.le c):a.le c:=⟨fun ad x hx=>k.F _ _ (h.F _ _ hx),fun b v t hx=>k.cj _ _ _ (h.cj _ _ _ hx)⟩
theorem Env.kp {a b:Env} (h:a.le b):a.pure.le b.pure:=⟨h.F,fun _ _ _ h=>h⟩
theorem Env.re (a:Env):a.pure.le a:=⟨fun _ _ h=>h,fun _ _ _ h=>by simp [Env.pure] at h⟩

theorem cK.mono {E E':Env} {v:V} {x:Value} (h:cK E v x) (hle:E.le E'):cK E' v x:=by induction h generalizing E' with | undef=>exact .undef _ _ | sc=>exact .sc _ _ | agg E cs xs hl h ih=>exact .agg _ _ _ hl fun i c x hc hx=>ih i c x hc hx hle | slice E rows a cap sy ad xf ha mW hs hF h1 h ih=>exact .slice _ _ _ _ sy ad xf ha mW hs (fun i row j c hi hj=>hle.F _ _ (hF i row j c hi hj)) h1 fun i row j c hi hj=>ih i row j c hi hj (Env.kp hle) | ms E b v s l g e c a cap hb hl h0 hc=>exact .ms _ _ _ _ _ g e c _ _ (hle.cj _ _ _ hb) hl h0 hc | iz E b v s=>exact .iz _ _ _ _ | ptr E b o g e c hb=>exact .ptr _ _ _ g e c (hle.cj _ _ _ hb) | gC E b v i o g e c hb=>exact .gC _ _ _ _ _ g e c (hle.cj _ _ _ hb) | eL E cs ad xf hF h ih=>exact .eL _ _ _ xf (fun j c hj=>hle.F _ _ (hF j c hj)) fun j c hj=>ih j c hj (Env.kp hle) | cC E f first cap xs ys hx hy h1 h2 U3 U4=>exact .cC _ _ _ _ _ _ hx hy (fun i c x hc hx=>U3 i c x hc hx hle) fun i c x hc hx=>U4 i c x hc hx hle | jz E b l e c hb=>exact .jz _ _ l e c (hle.cj _ _ _ hb) | mp E b l e c hb=>exact .mp _ _ l e c (hle.cj _ _ _ hb) | gn E=>exact .gn _ | full E rows a h ih=>exact .full _ _ _ (ih hle) | eC E vs xs hl h ih=>exact .eC _ _ _ hl fun i c x hc hx=>ih i c x hc hx hle

theorem cz.mono {E E':Env} {vs:List V} {xs:List Value} (h:cz E vs xs) (hle:E.le E'):cz E' vs xs :=
 ⟨h.1,fun i v x hv hx=>(h.2 i v x hv hx).mono hle⟩
theorem cz.nil (E:Env):cz E [] []:=⟨rfl,fun i v x h=>by simp at h⟩
theorem cz.cons {E:Env} {v:V} {x:Value} {vs:List V} {xs:List Value} (h:cK E v x) (hs:cz E vs xs):cz E (v :: vs) (x :: xs):=by refine⟨by simp [hs.1],fun i=>?_⟩;cases i with | zero=>intro v' x' hv hx; simp at hv hx; subst hv; subst hx; exact h | succ i=>intro v' x' hv hx; simp at hv hx; exact hs.2 i v' x' hv hx
theorem cz.of_cons {E:Env} {v:V} {vs:List V} {xs:List Value} (h:cz E (v :: vs) xs):∃ x ys,xs=x :: ys∧cK E v x∧cz E vs ys:=by cases xs with | nil=>have:=h.1; simp at this | cons x ys=>exact⟨x,ys,rfl,h.2 0 v x rfl rfl,by have:=h.1; simpa using this,fun i v' x' hv hx=>h.2 (i+1) v' x' (by simpa using hv) (by simpa using hx)⟩
theorem cz.of_nil {E:Env} {xs:List Value} (h:cz E [] xs):xs=[]:=by have:=h.1; simp at this; exact cd.1 this.symm
theorem cz.append {E:Env} {vs us:List V} {xs ys:List Value} (h:cz E vs xs) (k:cz E us ys):cz E (vs++us) (xs++ys):=by
 refine⟨by simp [h.1,k.1],fun i v x hv hx=>?_⟩;by_cases hi:i<vs.length;·rw [bm hi] at hv; rw [bm (h.1 ▸ hi)] at hx; exact h.2 i v x hv hx
 rw [aW (by omega)] at hv; rw [aW (by have:=h.1; omega),← h.1] at hx; exact k.2 _ v x hv hx
theorem cz.get {E:Env} {vs:List V} {xs:List Value} (h:cz E vs xs) {i:Nat} {v:V} (hv:vs[i]?=some v):∃ x,xs[i]?=some x∧cK E v x:=by
 have hi:i<xs.length:=by rw [← h.1]; exact (ax.1 hv).1
 exact⟨xs[i],ah hi,h.2 i v _ hv (ah hi)⟩
theorem cz.drop {E:Env} {vs:List V} {xs:List Value} (h:cz E vs xs) (n:Nat):cz E (vs.drop n) (xs.drop n) :=
 ⟨by simp [h.1],fun i v x hv hx=>h.2 (n+i) v x (by simpa using hv) (by simpa using hx)⟩
theorem cz.take {E:Env} {vs:List V} {xs:List Value} (h:cz E vs xs) (n:Nat):cz E (vs.take n) (xs.take n):=by
 refine⟨by simp [h.1],fun i v x hv hx=>?_⟩;have hi:i<n:=by by_cases hi:i<n;(·exact hi);rw [lX] at hv; simp [hi] at hv
 rw [jb hi] at hv hx;exact h.2 i v x hv hx
theorem cz.set {E:Env} {vs:List V} {xs:List Value} (h:cz E vs xs) (n:Nat) {v:V} {x:Value} (hv:cK E v x):cz E (vs.set n v) (xs.set n x):=by
 refine⟨by simp [h.1],fun i v' x' xR Qy=>?_⟩;by_cases hi:n=i;·subst hi;rw [bw] at xR Qy;simp only [if_true] at xR Qy;split at xR;(·split at Qy;(·simp at xR Qy; subst xR; subst Qy; exact hv);simp at Qy);simp at xR
 rw [eE hi] at xR Qy; exact h.2 i v' x' xR Qy

theorem cK.cells {E:Env} {v:V} {x:Value} (h:cK E v x) (hu:v ≠ .undef) (hs:∀ y,v = .sc y→∀ cs,y ≠ .agg cs):cz E v.cells x.cells.toList:=by cases h with | undef=>exact absurd rfl hu | sc =>(have:x.cells = #[x]:=by have:=hs x rfl;cases x <;> simp [Value.cells] at this ⊢);simp only [V.cells,this]; exact .cons (.sc _ _) (.nil _) | agg _ cs xs hl h=>exact⟨by simpa [V.cells,Value.cells] using hl,fun i c x hc hx=>h i c x hc (by simpa [Value.cells] using hx)⟩ | slice _ rows a cap sy ad xf ha mW hz hF h1 h=>exact .cons (.slice _ _ _ _ sy ad xf ha mW hz hF h1 h) (.nil _) | ms _ b v s l g e c a cap hb hl h0 hc=>exact .cons (.ms _ _ _ _ _ g e c _ _ hb hl h0 hc) (.nil _) | iz _ b v s=>exact .cons (.iz _ _ _ _) (.nil _) | ptr _ b o g e c hb=>exact .cons (.ptr _ _ _ g e c hb) (.nil _) | gC _ b v i o g e c hb=>exact .cons (.gC _ _ _ _ _ g e c hb) (.nil _) | eL _ cs ad xf hF h=>exact .cons (.eL _ _ _ xf hF h) (.nil _) | cC _ f first cap xs ys hx hy h1 h2=>exact .cons (.cC _ _ _ _ _ _ hx hy h1 h2) (.nil _) | jz _ b l e c hb=>exact .cons (.jz _ _ l e c hb) (.nil _) | mp _ b l e c hb=>exact .cons (.mp _ _ l e c hb) (.nil _) | gn=>exact .cons (.gn _) (.nil _) | full _ rows a h=>exact .cons (.full _ _ _ h) (.nil _) | eC _ vs xs hl h=>exact .cons (.eC _ _ _ hl h) (.nil _)
end Go.Eng
end

section
namespace Go.Eng
variable [a6]

structure Ti where
 size:Nat
 agg:Bool
 zero:List Value
 bd:List (Nat×Nat):=[]
 elem:Option TypeId:=none
 bytes:Nat:=0
 deriving Inhabited

abbrev Table:=TypeId→Option Ti

structure TT (P:Program) (tt:Table):Prop where
 size:∀ t i,tt t=some i→∃ info,P.info? t=some info∧info.size=i.size∧info.bytes=i.bytes∧∃ z,info.zero=some z∧z.cells.toList=i.zero
 desc:∀ t i,tt t=some i→∃ d,P.underlying t=some d∧(i.agg=true↔((∃ fs,d = .struct fs)∨∃ n e,d = .array n e)) ∧
  (∀ e,i.elem=some e→d = .slice e) ∧
  (∀ (f off sz:Nat),i.bd[f]?=some (off,sz)→∃ fs fd inf,d = .struct fs∧fs.size=i.bd.length∧fs[f]?=some fd∧fd.offset=off∧P.info? fd.type=some inf∧inf.size=sz∧sz≠0)

def dv {α:Type} (P:Program):Sem α→Option α
 | .pure a=>some a
 | .program k=>dv P (k P)
 | .mark _ k=>dv P k
 | _=>none

theorem fX {α:Type} {P:Program} (s:Sem α) {v:α} (h:dv P s=some v) (w:World):s.run P w = .ok v w:=by induction s with | pure a=>simp [dv] at h; subst h; rfl | program k ih=>exact ih P h | mark m k ih=>exact ih h | _=>simp [dv] at h

def kx:Value→V
 | .agg cs=>.agg (cs.toList.map V.sc)
 | .tuple vs=>.eC (vs.toList.map V.sc)
 | v=>.sc v

theorem ng (E:Env) (cs:Array Value) (i:Nat) (c:V) (x:Value) (hc:(cs.toList.map V.sc)[i]?=some c) (hx:cs[i]?=some x):cK E c x:=by simp only [ae,eX,hx,bz,aB] at hc;subst hc; exact .sc _ _
theorem kj (E:Env) (v:Value):cK E (kx v) v:=by cases v with | agg cs=>exact .agg _ _ _ (by simp) (ng E cs) | tuple cs=>exact .eC _ _ _ (by simp) (ng E cs) | _=>exact .sc _ _

inductive ba where
 | hole
 | dead
 | box (cs:List V)
 | rows (v e:Nat) (rs:List V)
 | tv (v e:Nat) (rs:List V)
 | loop (s:LoopState) (mX:Option Code) (fr:List V) (params:Array Tmp) (assign body:Code)
 | map (dq:List (Value×Nat×V)) (clock:Nat)
 | jc (m since:Nat) (seen:List Nat) (last:Nat)
 | mS (s:ByteArray) (pos:Nat)
 | nh
 deriving Inhabited

structure St where
 fr:List V
 mem:List ba

def St.eval (st:St):Operand→V
 | .tmp t=>st.fr.getD t .undef
 | .const v=>kx v
 | .global g=>if a6.g=some g then .eL [.gn] else match a6.U2 g with | some cs=>.eL (cs.map V.sc) | none=>.undef
 | .func f=>.sc (.func (.func f) #[] #[])

def St.put (st:St) (dst:Option Tmp) (v:V):St :=
 match dst with
 | some d => { st with fr:=st.fr.set d v }
 | none=>st

def lI (E:Env) (e:Nat) (rs:List V) (at_:Nat→Option Value):Prop :=
 ∀ (i:Nat) (row:V),rs[i]?=some row→row.cells.length=e∧∀ (j:Nat) (c:V),row.cells[j]?=some c→∃ x,at_ (i*e+j)=some x∧x.oneCell'=true∧cK E c x

def fP (E:Env) (dq:List (Value×Nat×V)) (es:List MapEntry):Prop :=
 dq.length=es.length∧∀ (i:Nat) (k:Value×Nat×V) (e:MapEntry),dq[i]?=some k→es[i]?=some e→e.key=k.1∧e.born=k.2.1∧cK E k.2.2 e.val
theorem fP.mono {E E':Env} {dq:List (Value×Nat×V)} {es:List MapEntry} (h:fP E dq es) (hle:E.le E'):fP E' dq es :=
 ⟨h.1,fun i k e hk he=>let ⟨h1,h2,h3⟩:=h.2 i k e hk he; ⟨h1,h2,h3.mono hle⟩⟩

def ni (E:Env) (w:World) (k:Nat):ba→Prop
 | .hole=>∀ v,E.cj k v=none
 | .dead=>True
 | .box cs=>∃ g T xs,E.cj k 0=some (g,0,0)∧w.heap[g]?=some (.cells xs T (0,0))∧cz E cs xs.toList∧∀ o,E.F ⟨g,o,none⟩=none
 | .rows v e rs=>(rs=[]∧E.cj k v=none)∨∃ g T xs c,E.cj k v=some (g,e,c)∧w.heap[g]?=some (.cells xs T (0,0))∧xs.size=c*e∧rs.length≤c∧lI E.pure e rs (fun o=>xs[o]?)∧∀ o,E.F ⟨g,o,none⟩=none
 | .tv v e rs=>(rs=[]∧E.cj k v=none)∨∃ g c,E.cj k v=some (g,e,c)∧rs.length≤c∧lI E.pure e rs (fun o=>E.F ⟨g,o,none⟩)
 | .loop s mX fr params assign body=>∃ l fn tmps db,E.cj k 0=some (l,0,0)∧w.heap[l]?=some (.loop { state:=s,pending:=mX,fn:=fn,tmps:=tmps,params:=params,assign:=assign,body:=body,defers:=db })∧cz E fr tmps.toList∧∀ o,E.F ⟨l,o,none⟩=none

 | .map dq clock=>∃ g es,E.cj k 0=some (g,0,0)∧w.heap[g]?=some (.map es clock)∧fP E dq es.toList∧∀ o,E.F ⟨g,o,none⟩=none
 | .jc m since seen last=>∃ g gm e c,E.cj k 0=some (g,0,0)∧E.cj m 0=some (gm,e,c)∧w.heap[g]?=some (.mapIter (some gm) since seen.toArray last)∧∀ o,E.F ⟨g,o,none⟩=none
 | .mS s pos=>∃ g,E.cj k 0=some (g,0,0)∧w.heap[g]?=some (.stringIter s pos)∧∀ o,E.F ⟨g,o,none⟩=none
 | .nh=>∃ g,E.cj k 0=some (g,0,0)∧w.heap[g]?=some (.mapIter none 0 #[] 0)∧∀ o,E.F ⟨g,o,none⟩=none

def ba.dw:ba→Nat
 | .rows v _ _=>v
 | .tv v _ _=>v
 | _=>0
def ba.held:ba→Bool
 | .hole | .dead=>false
 | _=>true

structure cU (E:Env) (w:World) (a:Act) (st:St):Prop where
 F:∀ ad x,E.F ad=some x→w.cell? ad=some x
 lt:∀ k v g e c,E.cj k v=some (g,e,c)→g<w.heap.size
 mem:∀ k B,st.mem[k]?=some B→ni E w k B
 top:∀ k,st.mem.length≤k→∀ v,E.cj k v=none
 dw:∀ k B,st.mem[k]?=some B→∀ v,B.dw<v→E.cj k v=none
 apart:∀ k k' v v' g e c e' c',E.cj k v=some (g,e,c)→E.cj k' v'=some (g,e',c')→k=k'
 fr:cz E st.fr a.tmps.toList

theorem cU.eval {E:Env} {w:World} {a:Act} {st:St} (h:cU E w a st) (x:Operand):cK E (st.eval x) (a.eval x):=by cases x with | tmp t =>(simp only [St.eval,Act.eval];cases hv:st.fr[t]? with | none=>rw [eH,hv]; exact .undef _ _ | some v =>obtain⟨x,hx,hr⟩:=h.fr.get hv;rw [eH,hv,ki];simp only [eX] at hx;rw [hx]; exact hr) | const v=>exact kj E v | global g =>(simp only [St.eval,Act.eval];split;(·rename_i hg;refine .eL _ _ _ (fun _=>.int .i64 a6.n) (fun j c hc=>?_) fun j c hc=>?_;(·match j with | 0=>exact E.gl.n g hg | j+1=>simp at hc);match j with | 0=>simp at hc; subst hc; exact .gn _ | j+1=>simp at hc);split;(·rename_i cs BB;refine .eL _ _ _ (fun j=>(cs[j]?).getD undef) (fun j c hc=>?_) fun j c hc=>?_;(·simp only [ae,br] at hc;obtain⟨x,hx,rfl⟩:=hc;(have h1:(Addr.mk g 0 none).add j=⟨g,j,none⟩:=by unfold Addr.add; by_cases hj:j=0 <;> simp [hj]);rw [h1,hx];exact E.gl.t g cs j x BB hx);simp only [ae,br] at hc;obtain⟨x,hx,rfl⟩:=hc;rw [hx]; exact .sc _ _);exact .undef _ _) | func f=>exact .sc _ _

structure gE (E:Env) (w:World) (E':Env) (w':World):Prop where
 le:E.le E'
 cj:∀ k v g e c,E'.cj k v=some (g,e,c)→(∃ k0 v0 e0 c0,E.cj k0 v0=some (g,e0,c0))∨w.heap.size≤g
 F:∀ ad x,E'.F ad=some x→E.F ad=some x∨w.heap.size≤ad.block∨∃ k0 v0 e0 c0,E.cj k0 v0=some (ad.block,e0,c0)
 os:w'.os=w.os
 tape:w'.tape=w.tape
 output:w'.output=w.output
 size:w.heap.size≤w'.heap.size
 heap:∀ b,b<w.heap.size→(∀ k v e c,E.cj k v≠some (b,e,c))→w'.heap[b]?=w.heap[b]?

theorem gE.refl (E:Env) (w:World):gE E w E w :=
 ⟨E.le_refl,fun k v g e c h=>.inl ⟨k,v,e,c,h⟩,fun _ _ h=>.inl h,rfl,rfl,rfl,aw _,fun _ _ _=>rfl⟩
theorem gE.trans {E E1 E2:Env} {w w1 w2:World} (h:gE E w E1 w1) (k:gE E1 w1 E2 w2):gE E w E2 w2:=by
 refine⟨Env.le_trans h.le k.le,?_,?_,k.os.trans h.os,k.tape.trans h.tape,k.output.trans h.output,AO h.size k.size,?_⟩;·intro q v g e c hq;(rcases k.cj q v g e c hq with ⟨k0,v0,e0,c0,h0⟩ | h0);(·exact h.cj _ _ _ _ _ h0);exact .inr (AO h.size h0)
 ·intro ad x hx;(rcases k.F ad x hx with h0 | h0 | ⟨k0,v0,e0,c0,h0⟩);(·exact h.F _ _ h0);(·exact .inr (.inl (AO h.size h0)));(rcases h.cj _ _ _ _ _ h0 with h1 | h1);(·exact .inr (.inr h1));exact .inr (.inl h1)
 intro b hb dK;rw [k.heap b (pI hb h.size) ?_,h.heap b hb dK];intro q v e c hq;rcases h.cj _ _ _ _ _ hq with ⟨k0,v0,e0,c0,h0⟩ | h0
 ·exact dK _ _ _ _ h0
 omega
theorem gE.drew (E:Env) (w:World):gE E w E w.drew :=
 ⟨E.le_refl,fun k v g e c h=>.inl ⟨k,v,e,c,h⟩,fun _ _ h=>.inl h,rfl,rfl,rfl,aw _,fun _ _ _=>rfl⟩
theorem cU.drew {E:Env} {w:World} {a:Act} {st:St} (h:cU E w a st):cU E w.drew a st :=
 ⟨h.F,h.lt,fun k B hB=>by have:=h.mem k B hB; cases B <;> exact this,h.top,h.dw,h.apart,h.fr⟩

theorem cU.put {E:Env} {w:World} {a:Act} {st:St} (h:cU E w a st) (dst:Option Tmp) {v:V} {x:Value} (hr:cK E v x):cU E w (a.put dst x) (st.put dst v):=by cases dst with | none=>exact h | some d=>exact⟨h.F,h.lt,h.mem,h.top,h.dw,h.apart,by simpa [St.put,Act.put] using h.fr.set d hr⟩
end Go.Eng
end

section
namespace Go.Eng
variable [a6]

def jh (tt:Table) (T:TypeId) (cs:List V):Option V :=
 match tt T with
 | some i=>if i.agg then (if i.size≤cs.length then some (.agg (cs.take i.size)) else none) else cs.head?
 | none=>none

def rowOf (mem:List ba) (b v i:Nat):Option V :=
 match mem[b]? with
 | some (.rows v' _ rs)=>if v'=v then rs[i]? else none
 | some (.tv v' _ rs)=>if v'=v then rs[i]? else none
 | _=>none

def pM (tt:Table) (mem:List ba) (T:TypeId):V→Option V
 | .ptr b o=>match mem[b]? with | some (.box cs)=>jh tt T (cs.drop o) | _=>none
 | .gC b v i o=>match rowOf mem b v i with | some row=>jh tt T (row.cells.drop o) | none=>none
 | .eL cs=>jh tt T cs
 | _=>none

def QZ (tt:Table) (S:TypeId) (f:Nat):Option Nat:=match tt S with | some i=>(match i.bd[f]? with | some p=>some p.1 | none=>none) | none=>none
def iM (tt:Table) (T:TypeId):Option TypeId:=match tt T with | some i=>i.elem | none=>none
def nK (tt:Table) (T:TypeId):Option Nat:=match tt T with | some i=>some i.size | none=>none

def fieldAt (off:Nat):V→Option V
 | .ptr b o=>some (.ptr b (o+off))
 | .gC b v i o=>some (.gC b v i (o+off))
 | .eL cs=>some (.eL (cs.drop off))
 | _=>none
def BC (tt:Table) (S:TypeId) (f:Nat) (x:V):Option V:=match QZ tt S f with | some off=>fieldAt off x | none=>none

def lJ (mem:List ba) (b v:Nat):Option Nat :=
 match mem[b]? with
 | some (.rows v' e _)=>if v'=v then some e else none
 | some (.tv v' e _)=>if v'=v then some e else none
 | _=>none

def indexAt (mem:List ba) (size:Nat) (n:Int):V→Option V
 | .slice rows=>if 0≤n then (match rows[n.toNat]? with | some row=>if row.cells.length=size then some (.eL row.cells) else none | none=>none) else none
 | .ms b v s l=>if 0≤n∧n<l∧lJ mem b v=some size then some (.gC b v (s+n.toNat) 0) else none
 | _=>none
def nj (tt:Table) (mem:List ba) (T:TypeId) (x i:V):Option V :=
 match i with
 | .sc (.int _ n)=>match iM tt T with
  | some e=>match nK tt e with
   | some size=>indexAt mem size n x
   | none=>none
  | none=>none
 | _=>none

theorem add_add (a:Addr) (m n:Nat):(a.add m).add n=a.add (m+n):=by unfold Addr.add;by_cases hm:m=0 <;> by_cases hn:n=0 <;> simp [hm,hn,nH]
theorem add_lit (b o n:Nat):(Addr.mk b o none).add n=⟨b,o+n,none⟩:=by unfold Addr.add; by_cases hn:n=0 <;> simp [hn]

theorem bn {P:Program} {t:TypeId} {d:TypeDesc} (h:P.underlying t=some d) (w:World):(underlying t).run P w = .ok d w:=by simp [underlying,h]
theorem gg {P:Program} {t:TypeId} {i:TypeInfo} (h:P.info? t=some i) (w:World):(typeInfo t).run P w = .ok i w:=by simp [typeInfo,h]
theorem gG {P:Program} {t:TypeId} {i:TypeInfo} (h:P.info? t=some i) (w:World):(sizeOf t).run P w = .ok i.size w:=by simp [sizeOf,gg h]
theorem TT.isAgg {P:Program} {tt:Table} (h:TT P tt) {t:TypeId} {i:Ti} (ht:tt t=some i) (w:World):(isAgg t).run P w = .ok i.agg w:=by obtain⟨d,hd,ha,-⟩:=h.desc t i ht;simp only [Go.isAgg,Sem.run_bind,bn hd,Result.andThen_ok];cases hi:i.agg with | true =>(rcases ha.1 hi with ⟨fs,rfl⟩ | ⟨n,e,rfl⟩ <;> rfl) | false =>(have:¬ ((∃ fs,d = .struct fs)∨∃ n e,d = .array n e):=fun hh=>by rw [ha.2 hh] at hi; cases hi);cases d <;> first | rfl | (exfalso; apply this; first | exact .inl ⟨_,rfl⟩ | exact .inr ⟨_,_,rfl⟩)
theorem TT.sizeOf {P:Program} {tt:Table} (h:TT P tt) {t:TypeId} {i:Ti} (ht:tt t=some i) (w:World):(Go.sizeOf t).run P w = .ok i.size w:=by obtain⟨info,h1,h2,-⟩:=h.size t i ht;rw [gG h1,h2]

def nL (E:Env) (w:World) (ad:Addr) (cs:List V):Prop:=∀ (j:Nat) (c:V),cs[j]?=some c→∃ x,w.cell? (ad.add j)=some x∧cK E c x
theorem nL.drop {E:Env} {w:World} {ad:Addr} {cs:List V} (h:nL E w ad cs) (n:Nat):nL E w (ad.add n) (cs.drop n):=fun j c hc=>by rw [add_add]; exact h _ _ (by simpa using hc)

theorem xk {P:Program} {tt:Table} (ht:TT P tt) {E:Env} {w:World} {ad:Addr} {cs:List V} {T:TypeId} {v:V} (h:nL E w ad cs) (hp:jh tt T cs=some v) :
  ∃ x,(loadVar T ad).run P w = .ok x w∧cK E v x:=by unfold jh at hp;cases hi:tt T with | none=>rw [hi] at hp; simp at hp | some i =>rw [hi] at hp; simp only at hp;cases ha:i.agg with | false =>simp only [ha,b9,if_false] at hp;obtain⟨x,hx,hr⟩:=h 0 v (by simpa [an7] using hp);(have h0:ad.add 0=ad:=by simp [Addr.add]);rw [h0] at hx;refine⟨x,?_,hr⟩;simp [loadVar,ht.isAgg hi,ha,hx] | true =>simp only [ha,if_true] at hp;split at hp;(·rename_i hle;simp only [aB] at hp; subst hp;(have hx:∀ j,j<i.size→∃ x,w.cell? (ad.add j)=some x∧∀ c,cs[j]?=some c→cK E c x:=fun j hj=>by (have Gb:j<cs.length:=by omega);obtain⟨x,hx,hr⟩:=h j _ (ah Gb);exact⟨x,hx,fun c hc=>by rw [ah Gb] at hc; cases hc; exact hr⟩);let f:Nat→Value:=fun j=>(w.cell? (ad.add j)).getD default;(have hf:∀ j,j<i.size→w.cell? (ad.add j)=some (f j):=fun j hj=>by obtain⟨x,hx,-⟩:=hx j hj;simp [f,hx]);refine⟨.agg ((List.range i.size).map f).toArray,?_,?_⟩;(·simp only [loadVar,Sem.run_bind,ht.isAgg hi,Result.andThen_ok,ha,if_true,ht.sizeOf hi];rw [run_loadCells w ad i.size f hf];simp);refine .agg _ _ _ (by simp; omega) fun j c x hc hxx=>?_;(have hj:j<i.size:=by by_cases hj:j<i.size;(·exact hj);rw [lX] at hc; simp [hj] at hc);rw [jb hj] at hc;obtain⟨y,hy,hr⟩:=hx j hj;simp [hj] at hxx;rw [← hxx];(have:f j=y:=by simp [f,hy]);rw [this]; exact hr c hc);simp at hp

theorem Gp {E:Env} {w:World} (hF:∀ ad x,E.F ad=some x→w.cell? ad=some x) {cs:List V} {x:Value} (h:cK E (.eL cs) x):∃ ad,x = .pointer (some ad)∧nL E w ad cs:=by cases h with | eL _ _ ad xf hf hr=>exact⟨ad,rfl,fun j c hc=>⟨xf j,hF _ _ (hf j c hc),(hr j c hc).mono E.re⟩⟩

theorem nM {w:World} {g:Nat} {xs:Array Value} {T:TypeId} {fz:Nat×Nat} (h:w.heap[g]?=some (.cells xs T fz)) (o:Nat):w.cell? ⟨g,o,none⟩=xs[o]?:=by simp [World.cell?,h]

theorem JM {E:Env} {w:World} {a:Act} {st:St} (hs:cU E w a st) {b o:Nat} {cs:List V} (hm:st.mem[b]?=some (.box cs)) {x:Value} (h:cK E (.ptr b o) x) :
  ∃ ad,x = .pointer (some ad)∧nL E w ad (cs.drop o):=by cases h with | ptr _ _ _ g e c hb =>obtain⟨g',T,xs,j9,hh,hr,-⟩:=hs.mem b _ hm;rw [hb] at j9; cases j9;refine⟨_,rfl,fun j c hc=>?_⟩;rw [add_lit,nM hh];obtain⟨y,hy,LO⟩:=hr.get (i:=o+j) (by simpa using hc);exact⟨y,by simpa using hy,LO⟩

theorem Gq {E:Env} {w:World} {a:Act} {st:St} (hs:cU E w a st) {b v i o:Nat} {row:V} (hm:rowOf st.mem b v i=some row) {x:Value} (h:cK E (.gC b v i o) x) :
  ∃ ad,x = .pointer (some ad)∧nL E w ad (row.cells.drop o):=by cases h with | gC _ _ _ _ _ g e c hb =>refine⟨_,rfl,fun j cc hc=>?_⟩;rw [add_lit];(have Y8:row.cells[o+j]?=some cc:=by simpa using hc);unfold rowOf at hm;split at hm;(·rename_i v' e' rs hk;split at hm;(·rename_i hv;subst hv;(rcases hs.mem b _ hk with ⟨rfl,-⟩ | ⟨g',T,xs,c',j9,hh,-,-,hr,-⟩);(·simp at hm);rw [hb] at j9; cases j9;obtain⟨-,h2⟩:=hr i row hm;obtain⟨y,hy,-,LO⟩:=h2 _ _ Y8;exact⟨y,by rw [nM hh,nH]; exact hy,LO.mono E.re⟩);cases hm);(·rename_i v' e' rs hk;split at hm;(·rename_i hv;subst hv;(rcases hs.mem b _ hk with ⟨rfl,-⟩ | ⟨g',c',j9,-,hr⟩);(·simp at hm);rw [hb] at j9; cases j9;obtain⟨-,h2⟩:=hr i row hm;obtain⟨y,hy,-,LO⟩:=h2 _ _ Y8;exact⟨y,hs.F _ _ (by rw [nH]; exact hy),LO.mono E.re⟩);cases hm);simp at hm

theorem wk {P:Program} {tt:Table} (ht:TT P tt) {E:Env} {w:World} {a:Act} {st:St} (hs:cU E w a st) {T:TypeId} {p v:V} {x:Value} (hr:cK E p x) (h:pM tt st.mem T p=some v) :
  ∃ y,(Instr.loadAt T x).run P w = .ok y w∧cK E v y:=by
 have key:∃ ad cs,x = .pointer (some ad)∧nL E w ad cs∧jh tt T cs=some v:=by unfold pM at h;split at h;(·split at h;(·rename_i hm;obtain⟨ad,h1,h2⟩:=JM hs hm hr;exact⟨ad,_,h1,h2,h⟩);simp at h);(·split at h;(·rename_i hm;obtain⟨ad,h1,h2⟩:=Gq hs hm hr;exact⟨ad,_,h1,h2,h⟩);simp at h);(·obtain⟨ad,h1,h2⟩:=Gp hs.F hr;exact⟨ad,_,h1,h2,h⟩);simp at h
 obtain⟨ad,cs,rfl,hc,hp⟩:=key;obtain⟨y,hy,LO⟩:=xk ht hc hp;exact⟨y,by simp [Instr.loadAt,Instr.sureAddr,hy],LO⟩

theorem BD {P:Program} {tt:Table} (ht:TT P tt) {E:Env} {S:TypeId} {f:Nat} {p v:V} {x:Value} (hr:cK E p x) (h:BC tt S f p=some v) (w:World) :
  ∃ y,(Instr.fieldAt S x f).run P w = .ok y w∧cK E v y:=by unfold BC QZ at h;cases hi:tt S with | none=>rw [hi] at h; simp at h | some i =>rw [hi] at h; simp only at h;cases ho:i.bd[f]? with | none=>rw [ho] at h; simp at h | some off =>rw [ho] at h; simp only at h;obtain⟨d,hd,-,-,ae7⟩:=ht.desc S i hi;obtain⟨fs,fd,inf,rfl,-,hf,YA,n8,sA,Lx⟩:=ae7 f off.1 off.2 ho;(have lZ:inf.size≠0:=by omega);obtain⟨off,sz⟩:=off;dsimp only at YA;subst YA;(have run:∀ ad,(Instr.fieldAt S (.pointer (some ad)) f).run P w = .ok (.pointer (some (ad.add fd.offset))) w:=fun ad=>by simp [Instr.fieldAt,bn hd,hf,Instr.sureAddr,fieldPlace,gG n8,lZ]);unfold Eng.fieldAt at h;split at h;(·simp only [aB] at h; subst h;cases hr with | ptr _ _ _ g e c hb=>exact⟨_,run _,by rw [add_lit]; exact .ptr _ _ _ g e c hb⟩);(·simp only [aB] at h; subst h;cases hr with | gC _ _ _ _ _ g e c hb=>exact⟨_,run _,by rw [add_lit,nH]; exact .gC _ _ _ _ _ g e c hb⟩);(·simp only [aB] at h; subst h;cases hr with | eL _ _ ad xf hf hr=>exact⟨_,run _,.eL _ _ _ (fun j=>xf (fd.offset+j)) (fun j c hc=>by rw [add_add]; exact hf _ _ (by simpa using hc)) fun j c hc=>hr _ _ (by simpa using hc)⟩);simp at h

theorem Dx {E:Env} {w:World} {a:Act} {st:St} (hs:cU E w a st) {b v size g e c:Nat} (h:lJ st.mem b v=some size) (hb:E.cj b v=some (g,e,c)):e=size:=by
 unfold lJ at h;split at h;·rename_i hk;split at h;(·rename_i hv;subst hv;(rcases hs.mem b _ hk with ⟨-,hn⟩ | ⟨g',T',xs,c',j9,-⟩);(·rw [hb] at hn; cases hn);rw [hb] at j9; cases j9; simpa using h);cases h
 ·rename_i hk;split at h;(·rename_i hv;subst hv;(rcases hs.mem b _ hk with ⟨-,hn⟩ | ⟨g',c',j9,-⟩);(·rw [hb] at hn; cases hn);rw [hb] at j9; cases j9; simpa using h);cases h
 simp at h

theorem BE {P:Program} {tt:Table} (ht:TT P tt) {E:Env} {w:World} {a:Act} {st:St} (hs:cU E w a st) {T:TypeId} {p i v:V} {x y:Value} (hp:cK E p x) (hi:cK E i y) (h:nj tt st.mem T p i=some v) :
  ∃ z,(Instr.indexAt T x y).run P w = .ok z w∧cK E v z:=by
 unfold nj at h;split at h;·rename_i k n;cases hi with | sc =>unfold iM nK at h;cases hT:tt T with | none=>rw [hT] at h; simp at h | some iT =>rw [hT] at h; simp only at h;cases he:iT.elem with | none=>rw [he] at h; simp at h | some e =>rw [he] at h; simp only at h;cases hE:tt e with | none=>rw [hE] at h; simp at h | some ie =>rw [hE] at h; simp only at h;obtain⟨d,hd,-,BF,-⟩:=ht.desc T iT hT;obtain rfl:=BF e he;(have run:∀ (ad:Addr) (len cap:Nat),0≤n→n<len→(Instr.indexAt T (.slice (some ad) len cap) (.int k n)).run P w = .ok (.pointer (some (ad.add (n.toNat*ie.size)))) w:=fun ad len cap h0 h1=>by simp [Instr.indexAt,asIntOf,bn hd,ht.sizeOf hE,h0,h1]);unfold Eng.indexAt at h;split at h;(·rename_i rows;split at h;(·rename_i h0;split at h;(·rename_i row vg;split at h;(·rename_i hlen;simp only [aB] at h; subst h;cases hp with | slice _ _ aa cap sy ad xf ha mW hz hF h1 hR =>have bX:n.toNat<rows.length:=(ax.1 vg).1;(have dK:rows≠[]:=by rintro rfl; simp at bX);obtain rfl:=ha dK;(have ae8:sy=ie.size:=by rw [← hz _ _ vg,hlen]);subst ae8;exact⟨_,run ad _ cap h0 (by omega),.eL _ _ _ (fun j=>xf n.toNat j) (fun j c hc=>by rw [add_add]; exact hF _ _ _ _ vg hc) fun j c hc=>hR _ _ _ _ vg hc⟩);simp at h);simp at h);simp at h);(·rename_i b v s l;split at h;(·rename_i h0;obtain⟨h0,h1,h2⟩:=h0;simp only [aB] at h; subst h;cases hp with | iz=>simp at h1; omega | ms _ _ _ _ _ g e' c aa cap hb hl Qz hc =>obtain rfl:=hl (by omega);have hee:e'=ie.size:=Dx hs h2 hb;subst hee;refine⟨_,run _ _ cap h0 h1,?_⟩;have:=cK.gC E b v (s+n.toNat) 0 g ie.size c hb;rw [add_lit,← iL];simpa using this);simp at h);simp at h
 simp at h
end Go.Eng
end

section
namespace Go.Eng
variable [a6]

def AQ:List V→Option (List Value)
 | []=>some []
 | .sc v :: r=>match AQ r with | some l=>some (v :: l) | none=>none
 | _ :: _=>none

def fw:V→Option Value
 | .sc v=>some v
 | .agg cs=>match AQ cs with | some l=>some (.agg l.toArray) | none=>none
 | _=>none

theorem AR {E:Env}:∀ {vs:List V} {xs:List Value} {l:List Value},cz E vs xs→AQ vs=some l→xs=l
 | [],xs,l,h,hl=>by simp [AQ] at hl; subst hl; exact h.of_nil
 | v :: vs,xs,l,h,hl=>by
  obtain⟨x,ys,rfl,h1,h2⟩:=h.of_cons
  cases v with
  | sc v =>
   simp only [AQ] at hl
   split at hl
   ·rename_i l' Y9
    simp only [aB] at hl; subst hl
    cases h1
    rw [AR h2 Y9]
   simp at hl
  | _=>simp [AQ] at hl

theorem jU {E:Env} {v:V} {x y:Value} (h:cK E v x) (hv:fw v=some y):x=y:=by cases v with | sc v=>cases h; simpa [fw] using hv | agg cs =>(simp only [fw] at hv;split at hv;(·rename_i l hl;simp only [aB] at hv; subst hv;cases h with | agg _ _ xs hlen hr =>have:=AR (E:=E) (xs:=xs.toList) ⟨by simpa using hlen,fun i c x hc hx=>hr i c x hc (by simpa using hx)⟩ hl;rw [← this]);simp at hv) | _=>simp [fw] at hv

def sg (P:Program) (f:Value→Sem Value) (x:V):Option V :=
 match fw x with
 | some a=>match dv P (f a) with | some v=>some (kx v) | none=>none
 | none=>none
def eM (P:Program) (f:Value→Value→Sem Value) (x y:V):Option V :=
 match fw x with
 | some a=>match fw y with
  | some b=>match dv P (f a b) with | some v=>some (kx v) | none=>none
  | none=>none
 | none=>none

theorem qc {P:Program} {f:Value→Sem Value} {E:Env} {w:World} {x v:V} {a:Value} (hx:cK E x a) (h:sg P f x=some v):∃ y,(f a).run P w = .ok y w∧cK E v y:=by
 unfold sg at h;split at h;·rename_i a' ha;cases jU hx ha;split at h;(·rename_i y hy;simp only [aB] at h; subst h;exact⟨y,fX _ hy w,kj E y⟩);simp at h
 simp at h
theorem mh {P:Program} {f:Value→Value→Sem Value} {E:Env} {w:World} {x y v:V} {a b:Value} (hx:cK E x a) (hy:cK E y b) (h:eM P f x y=some v) :
  ∃ z,(f a b).run P w = .ok z w∧cK E v z:=by
 unfold eM at h;split at h;·rename_i a' ha;cases jU hx ha;split at h;(·rename_i b' hb;cases jU hy hb;split at h;(·rename_i z hz;simp only [aB] at h; subst h;exact⟨z,fX _ hz w,kj E z⟩);simp at h);simp at h
 simp at h

def U5:V→Option V
 | .ptr b o=>some (.ptr b o)
 | .gC b v i o=>some (.gC b v i o)
 | .eL cs=>some (.eL cs)
 | .cC (.func f) a b=>some (.cC (.func f) a b)
 | .sc (.func (.func f) a b)=>some (.sc (.func (.func f) a b))
 | _=>none

def dx (rows:List V) (l size:Nat):Bool:=match rows[l]? with | some row=>row.cells.length==size | none=>true

def cutAt (mem:List ba) (size:Nat) (l:Int) (h:Option Int):V→Option V
 | .slice rows =>
  if 0≤l∧l≤h.getD rows.length∧h.getD rows.length≤rows.length∧dx rows l.toNat size=true then some (.slice ((rows.drop l.toNat).take (h.getD rows.length-l).toNat)) else none
 | .ms b v s n =>
  if 0≤l∧l≤h.getD n∧h.getD n≤n∧lJ mem b v=some size then some (.ms b v (s+l.toNat) (h.getD n-l).toNat) else none
 | _=>none

def Dy:V→Option Int
 | .sc (.int _ n)=>some n
 | _=>none

def BG (P:Program) (tt:Table) (mem:List ba) (T:TypeId) (x:V) (lo hi:Option V):Option V :=
 match x with
 | .sc a=>match lo with
  | none=>match hi with
   | none=>sg P (fun a=>Instr.sliceAt T a none none none) (.sc a)
   | some h=>eM P (fun a h=>Instr.sliceAt T a none (some h) none) (.sc a) h
  | some l=>match hi with
   | none=>eM P (fun a l=>Instr.sliceAt T a (some l) none none) (.sc a) l
   | some h=>match fw h with
    | some h=>eM P (fun a l=>Instr.sliceAt T a (some l) (some h) none) (.sc a) l
    | none=>none
 | x=>match iM tt T with
  | none=>none
  | some e=>match nK tt e with
   | none=>none
   | some size=>match lo with
    | none=>match hi with
     | none=>cutAt mem size 0 none x
     | some h=>match Dy h with | some h=>cutAt mem size 0 (some h) x | none=>none
    | some l=>match Dy l with
     | none=>none
     | some l=>match hi with
      | none=>cutAt mem size l none x
      | some h=>match Dy h with | some h=>cutAt mem size l (some h) x | none=>none

theorem qd {E:Env} {v:V} {x:Value} {n:Int} (h:cK E v x) (hv:Dy v=some n):∃ k,x = .int k n:=by
 unfold Dy at hv;split at hv;·cases h; simp at hv; subst hv; exact⟨_,rfl⟩
 simp at hv

theorem nN {E:Env} {w:World} {a:Act} {st:St} (hs:cU E w a st) {size:Nat} {l:Int} {h:Option Int} {x v:V} {y:Value} (hx:cK E x y) (hc:cutAt st.mem size l h x=some v) :
  ∃ aa len cap,y = .slice aa len cap∧0≤l∧l≤h.getD len∧h.getD len≤len∧len≤cap ∧
   cK E v (.slice (if cap=l.toNat then aa else aa.map (·.add (l.toNat*size))) (h.getD len-l).toNat (cap-l.toNat)):=by
 unfold cutAt at hc;split at hc
 ·rename_i rows;split at hc
  ·rename_i hh;obtain⟨h0,h1,h2,h3⟩:=hh;simp only [aB] at hc; subst hc
   cases hx with
   | slice _ _ aa cap sy ad xf ha mW hz hF o0 hR =>
    refine⟨aa,rows.length,cap,rfl,h0,h1,h2,mW,?_⟩
    have hlen:((rows.drop l.toNat).take (h.getD rows.length-l).toNat).length=(h.getD rows.length-l).toNat:=by simp; omega
    have hg:∀ (i:Nat) (row:V),((rows.drop l.toNat).take (h.getD rows.length-l).toNat)[i]?=some row→rows[l.toNat+i]?=some row:=fun i row hi=>by
     rw [lX] at hi
     split at hi
     ·simpa using hi
     simp at hi
    suffices Dz:cK E (.slice ((rows.drop l.toNat).take (h.getD rows.length-l).toNat)) (.slice (if cap=l.toNat then aa else aa.map (·.add (l.toNat*size))) ((rows.drop l.toNat).take (h.getD rows.length-l).toNat).length (cap-l.toNat)) by
     rw [hlen] at Dz; exact Dz
    refine .slice _ _ _ (cap-l.toNat) sy (ad.add (l.toNat*sy)) (fun i j=>xf (l.toNat+i) j) (fun dK=>?_) (by rw [hlen]; omega) (fun i row hi=>hz _ _ (hg i row hi))
     (fun i row j c hi hj=>by rw [add_add,← nH,← iL]; exact hF _ _ _ _ (hg i row hi) hj) (fun i row j c hi hj=>o0 _ _ _ _ (hg i row hi) hj) fun i row j c hi hj=>hR _ _ _ _ (hg i row hi) hj
    have bX:l.toNat<rows.length:=by
     rcases bW l.toNat rows.length with bX | jw
     ·exact bX
     exact absurd (by rw [dX jw]; simp) dK
    have LP:rows≠[]:=by rintro rfl; simp at bX
    rw [if_neg (by omega),ha LP]
    unfold dx at h3
    rw [ah bX] at h3
    simp only [beq_iff_eq] at h3
    rw [← h3,hz _ _ (ah bX)]
    rfl
  simp at hc
 ·rename_i b v s n;split at hc;(·rename_i hh;obtain⟨h0,h1,h2,h3⟩:=hh;simp only [aB] at hc; subst hc;cases hx with | iz =>refine⟨none,0,0,rfl,h0,h1,h2,aw _,?_⟩;(have e1:l.toNat=0:=by have:((0:Nat):Int)=0:=rfl; omega);(have e2:(h.getD (0:Nat)-l).toNat=0:=by have:((0:Nat):Int)=0:=rfl; omega);rw [e1,e2];exact .iz _ _ _ _ | ms _ _ _ _ _ g e c aa cap hb hl Qz AS =>obtain rfl:=Dx hs h3 hb;refine⟨aa,n,cap,rfl,h0,h1,h2,AS.1,?_⟩;refine .ms _ _ _ _ _ g e c _ _ hb (fun hp=>?_) (fun hz=>?_) ⟨by omega,by omega,fun hp=>by rw [if_neg (by omega),AS.2.2 (by omega)];simp only [bz,add_lit,← iL]⟩;(·rw [if_neg (by omega),hl (by omega)];simp only [bz,add_lit,← iL]);obtain⟨h5,h6⟩:=Qz (by omega);(have:l.toNat=0:=by omega);rw [this,h5];refine⟨?_,by omega⟩;split;(·rfl);simp [Addr.add]);simp at hc
 simp at hc

theorem nO {P:Program} {tt:Table} (ht:TT P tt) {T e:TypeId} {size:Nat} (he:iM tt T=some e) (hz:nK tt e=some size) (w:World) (aa:Option Addr) (len cap:Nat) (lo hi:Option Value)
  (l:Int) (h:Option Int) (nP:(lo=none∧l=0)∨∃ k,lo=some (.int k l)) (tw:(hi=none∧h=none)∨∃ k n,hi=some (.int k n)∧h=some n)
  (h0:0≤l) (h1:l≤h.getD len) (h2:h.getD len≤len) (h3:len≤cap) :
  (Instr.sliceAt T (.slice aa len cap) lo hi none).run P w = .ok (.slice (if cap=l.toNat then aa else aa.map (·.add (l.toNat*size))) (h.getD len-l).toNat (cap-l.toNat)) w:=by unfold iM at he;unfold nK at hz;cases hT:tt T with | none=>rw [hT] at he; simp at he | some iT =>rw [hT] at he; simp only at he;cases hE:tt e with | none=>rw [hE] at hz; simp at hz | some ie =>rw [hE] at hz; simp only [aB] at hz; subst hz;obtain⟨d,hd,-,BF,-⟩:=ht.desc T iT hT;obtain rfl:=BF e he;(have aj5:∀ m:Int,(m-l).toNat=m.toNat-l.toNat:=fun m=>by omega);(rcases nP with ⟨rfl,rfl⟩ | ⟨k,rfl⟩ <;> rcases tw with ⟨rfl,rfl⟩ | ⟨k',n,rfl,rfl⟩ <;> simp only [amY,anL] at h1 h2 ⊢ <;> simp only [Instr.sliceAt,Instr.slice,Sem.run_bind,bn hd,Result.andThen_ok,Instr.sliceBounds,Instr.sliceBound,asIntOf,Sem.run_pure,ht.sizeOf hE,anT]);(·simp);(·rw [if_pos ⟨by omega,by omega⟩]; simp);(·rw [if_pos ⟨by omega,by omega⟩]; simp; omega);rw [if_pos ⟨by omega,by omega⟩];simp only [Sem.run_pure,Result.andThen_ok];rw [if_pos ⟨by omega,by omega⟩];simp; omega
end Go.Eng
end

section
namespace Go.Eng
variable [a6]

def gr (kind:TypeDesc) (k:Value):List (Value×Nat×V)→Nat→Option (Option (Nat×V))
 | [],_=>some none
 | e :: r,i=>match Instr.sameNow kind k e.1 with
  | some true=>some (some (i,e.2.2))
  | some false=>gr kind k r (i+1)
  | none=>none
def qe (P:Program) (T:TypeId) (k:Value):List (Value×Nat×V)→Nat→Option (Option (Nat×V))
 | [],_=>some none
 | e :: r,i=>match dv P (Op.equal T k e.1) with
  | some true=>some (some (i,e.2.2))
  | some false=>qe P T k r (i+1)
  | none=>none
def oz (P:Program) (T:TypeId) (k:Value) (dq:List (Value×Nat×V)):Option (Option (Nat×V)) :=
 match P.underlying T with
 | some d=>match gr d k dq 0 with
  | some r=>some r
  | none=>qe P T k dq 0
 | none=>none

def Found (E:Env) (dq:List (Value×Nat×V)) (es:List MapEntry):Option (Nat×V)→Option (Nat×Value)→Prop
 | none,none=>True
 | some (i,v),some (j,x)=>i=j∧cK E v x∧∃ kb e,dq[i]?=some kb∧es[i]?=some e∧kb.2.2=v∧e.val=x
 | _,_=>False

theorem fP.get {E:Env} {dq:List (Value×Nat×V)} {es:List MapEntry} (h:fP E dq es) {i:Nat} {kb:Value×Nat×V} (hk:dq[i]?=some kb):∃ e,es[i]?=some e∧e.key=kb.1∧e.born=kb.2.1∧cK E kb.2.2 e.val:=by
 have hi:i<es.length:=by rw [← h.1]; exact (ax.1 hk).1
 exact⟨es[i],ah hi,h.2 i kb _ hk (ah hi)⟩
theorem fP.drop {E:Env} {dq:List (Value×Nat×V)} {es:List MapEntry} (h:fP E dq es) (n:Nat):fP E (dq.drop n) (es.drop n) :=
 ⟨by simp [h.1],fun i k e hk he=>h.2 (n+i) k e (by simpa using hk) (by simpa using he)⟩
theorem fP.of_nil {E:Env} {es:List MapEntry} (h:fP E [] es):es=[]:=by have:=h.1; simp at this; exact cd.1 this.symm
theorem fP.of_cons {E:Env} {k:Value×Nat×V} {r:List (Value×Nat×V)} {es:List MapEntry} (h:fP E (k :: r) es):∃ e es',es=e :: es'∧e.key=k.1∧e.born=k.2.1∧cK E k.2.2 e.val∧fP E r es':=by cases es with | nil=>have:=h.1; simp at this | cons e es' =>obtain⟨h1,h2,h3⟩:=h.2 0 k e rfl rfl;exact⟨e,es',rfl,h1,h2,h3,by have:=h.1; simpa using this,fun i k' e' hk he=>h.2 (i+1) k' e' (by simpa using hk) (by simpa using he)⟩

theorem xS {E:Env} {kind:TypeDesc} {k:Value} {dq:List (Value×Nat×V)} {es:List MapEntry} (h:fP E dq es):∀ (n:Nat) {r:Option (Nat×V)},gr kind k (dq.drop n) n=some r →
  ∃ r',Instr.findNow kind k (es.drop n) n=some r'∧Found E dq es r r':=by intro n;generalize hl:dq.length-n=m;induction m generalizing n with | zero =>intro r hr;have h1:dq.drop n=[]:=dX (by omega);have h2:es.drop n=[]:=dX (by have:=h.1; omega);rw [h1] at hr; rw [h2];simp only [gr,aB] at hr; subst hr;exact⟨none,rfl,trivial⟩ | succ m ih =>intro r hr;(have hn:n<dq.length:=by omega);(have Tp:n<es.length:=by have:=h.1; omega);rw [cQ hn] at hr;rw [cQ Tp];have hk:=ah hn;have he:=ah Tp;obtain⟨h1,h2,h3⟩:=h.2 n _ _ hk he;simp only [gr] at hr;simp only [Instr.findNow,h1];split at hr;(·rename_i hs; rw [hs]; simp only [aB] at hr; subst hr;exact⟨_,rfl,rfl,h3,_,_,hk,he,rfl,rfl⟩);(·rename_i hs; rw [hs]; exact ih (n+1) (by omega) hr);cases hr
theorem Ar {E:Env} {kind:TypeDesc} {k:Value} {dq:List (Value×Nat×V)} {es:List MapEntry} (h:fP E dq es):∀ (n:Nat),gr kind k (dq.drop n) n=none→Instr.findNow kind k (es.drop n) n=none:=by intro n;generalize hl:dq.length-n=m;induction m generalizing n with | zero =>intro hr;have h1:dq.drop n=[]:=dX (by omega);rw [h1] at hr;simp [gr] at hr | succ m ih =>intro hr;(have hn:n<dq.length:=by omega);(have Tp:n<es.length:=by have:=h.1; omega);rw [cQ hn] at hr;rw [cQ Tp];obtain⟨h1,h2,h3⟩:=h.2 n _ _ (ah hn) (ah Tp);simp only [gr] at hr;simp only [Instr.findNow,h1];split at hr;(·cases hr);(·rename_i hs; rw [hs]; exact ih (n+1) (by omega) hr);rename_i hs; rw [hs]
theorem xT {P:Program} {E:Env} {T:TypeId} {k:Value} {dq:List (Value×Nat×V)} {es:List MapEntry} (h:fP E dq es) (w:World):∀ (n:Nat) {r:Option (Nat×V)},qe P T k (dq.drop n) n=some r →
  ∃ r',(Instr.findAsking T k (es.drop n) n).run P w = .ok r' w∧Found E dq es r r':=by intro n;generalize hl:dq.length-n=m;induction m generalizing n with | zero =>intro r hr;have h1:dq.drop n=[]:=dX (by omega);have h2:es.drop n=[]:=dX (by have:=h.1; omega);rw [h1] at hr; rw [h2];simp only [qe,aB] at hr; subst hr;exact⟨none,rfl,trivial⟩ | succ m ih =>intro r hr;(have hn:n<dq.length:=by omega);(have Tp:n<es.length:=by have:=h.1; omega);rw [cQ hn] at hr;rw [cQ Tp];have hk:=ah hn;have he:=ah Tp;obtain⟨h1,h2,h3⟩:=h.2 n _ _ hk he;simp only [qe] at hr;simp only [Instr.findAsking,h1,Sem.run_bind];split at hr;(·rename_i hs; rw [fX _ hs w]; simp only [aB] at hr; subst hr;exact⟨_,rfl,rfl,h3,_,_,hk,he,rfl,rfl⟩);(·rename_i hs; rw [fX _ hs w];simpa using ih (n+1) (by omega) hr);cases hr
theorem gH {P:Program} {E:Env} {T:TypeId} {k:Value} {dq:List (Value×Nat×V)} {es:Array MapEntry} (h:fP E dq es.toList) (w:World) {r:Option (Nat×V)} (hr:oz P T k dq=some r) :
  ∃ r',(Instr.findKey T k es.toList).run P w = .ok r' w∧Found E dq es.toList r r':=by
 unfold oz at hr;split at hr;·rename_i d hd;simp only [Instr.findKey,Sem.run_bind,bn hd,Result.andThen_ok];split at hr;(·rename_i r1 h1;simp only [aB] at hr; subst hr;obtain⟨r',h2,h3⟩:=xS h 0 (r:=r1) (by simpa using h1);simp only [ang] at h2;rw [h2];exact⟨r',rfl,h3⟩);rename_i h1;have h2:=Ar h 0 (by simpa using h1);simp only [ang] at h2;rw [h2];simpa using xT h w 0 (r:=r) (by simpa using hr)
 cases hr

def sh (P:Program) (T:TypeId) (k:Value):Bool :=
 match P.underlying T with
 | some (.int _)=>true
 | some .string=>true
 | some .bool=>true
 | _=>match dv P (Instr.checkKey false 10000 T k),dv P (Instr.checkKey true 10000 T k) with
  | some _,some _=>true
  | _,_=>false
theorem nQ {P:Program} {T:TypeId} {k:Value} (h:sh P T k=true) (b:Bool) (w:World):(Instr.checkKey b 10000 T k).run P w = .ok () w:=by
 unfold sh at h;have U6:∀ d,P.underlying T=some d→(∀ m,d ≠ .interface m)→(∀ n e,d ≠ .array n e)→(∀ fs,d ≠ .struct fs)→(Instr.checkKey b 10000 T k).run P w = .ok () w:=by intro d hd h1 h2 h3;show (Instr.checkKey b (9999+1) T k).run P w=_;rw [Instr.checkKey];simp only [Sem.run_bind,bn hd,Result.andThen_ok];cases d <;> first | (cases k <;> rfl) | exact absurd rfl (h1 _) | exact absurd rfl (h2 _ _) | exact absurd rfl (h3 _)
 split at h;·rename_i hd; exact U6 _ hd (by simp) (by simp) (by simp)
 ·rename_i hd; exact U6 _ hd (by simp) (by simp) (by simp)
 ·rename_i hd; exact U6 _ hd (by simp) (by simp) (by simp)
 split at h;·rename_i h1 h2;cases b;(·exact fX _ h1 w);exact fX _ h2 w
 cases h

def zeroV (P:Program) (T:TypeId):Option V :=
 match P.info? T with
 | some i=>match i.zero with | some z=>some (kx z) | none=>none
 | none=>none
theorem qf {P:Program} {T:TypeId} {v:V} (h:zeroV P T=some v) (E:Env) (w:World):∃ z,(zeroValue T).run P w = .ok z w∧cK E v z:=by
 unfold zeroV at h;split at h;·rename_i i hi;split at h;(·rename_i z hz;cases h;exact⟨z,by simp [zeroValue,gg hi,hz],kj E z⟩);cases h
 cases h
def iv (P:Program) (T:TypeId):Option (TypeId×TypeId):=match P.underlying T with | some (.map k e)=>some (k,e) | _=>none
theorem kz {P:Program} {T kt et:TypeId} (h:iv P T=some (kt,et)):P.underlying T=some (.map kt et):=by
 unfold iv at h;split at h;·rename_i hd; cases h; exact hd
 cases h

def QA (ok b:Bool) (v:V):V:=if ok=true then .eC [v,.sc (.bool b)] else v
theorem BH {E:Env} {v:V} {x:Value} (h:cK E v x) (ok b:Bool):cK E (QA ok b v) (if ok=true then .tuple #[x,.bool b] else x):=by
 unfold QA;split;·refine .eC _ _ _ rfl fun i c y hc hy=>?_;match i with | 0=>simp at hc hy; subst hc; subst hy; exact h | 1=>simp at hc hy; subst hc; subst hy; exact .sc _ _ | i+2=>simp at hc
 exact h
def oA (P:Program) (mem:List ba) (kt et:TypeId) (m:V) (key:Value) (ok:Bool):Option V :=
 match m with
 | .mp b=>match mem[b]? with
  | some (.map dq _)=>match oz P kt key dq with
   | some (some (_,v))=>some (QA ok true v)
   | some none=>match zeroV P et with | some z=>some (QA ok false z) | none=>none
   | none=>none
  | _=>none
 | .sc (.map none)=>match oz P kt key [] with
  | some none=>match zeroV P et with | some z=>some (QA ok false z) | none=>none
  | _=>none
 | _=>none
def jV (P:Program) (mem:List ba) (T:TypeId) (m i:V) (ok:Bool):Option V :=
 match iv P T with
 | some (kt,et)=>match fw i with
  | some key=>if sh P kt key=true then oA P mem kt et m key ok else none
  | none=>none
 | none=>none

theorem sB {E:Env} {b:Nat} {x:Value} (h:cK E (.mp b) x):∃ g e c,x = .map (some g)∧E.cj b 0=some (g,e,c):=by cases h with | mp _ _ l e c hb=>exact⟨l,e,c,rfl,hb⟩
theorem l0 {E:Env} {w:World} {a:Act} {st:St} (hs:cU E w a st) {b:Nat} {dq:List (Value×Nat×V)} {clock:Nat} (hm:st.mem[b]?=some (.map dq clock)) {g e c:Nat} (hb:E.cj b 0=some (g,e,c)) :
  ∃ es,w.heap[g]?=some (.map es clock)∧fP E dq es.toList∧(∀ o,E.F ⟨g,o,none⟩=none)∧(e,c)=(0,0):=by obtain⟨g',es,h1,h2,h3,h4⟩:=hs.mem b _ hm;rw [hb] at h1; cases h1;exact⟨es,h2,h3,h4,rfl⟩
theorem fp {P:Program} {w:World} {g:Nat} {es:Array MapEntry} {clock:Nat} (h:w.heap[g]?=some (.map es clock)):(getObj g).run P w = .ok (.map es clock) w:=by simp [getObj,Sem.run,h]
theorem iQ {P:Program} {w:World} {g:Nat} {o o':Obj} (h:w.heap[g]?=some o) (hc:∀ a b c,o ≠ .cells a b c):(setObj g o').run P w = .ok () { w with heap:=w.heap.setIfInBounds g o' }:=by unfold setObj;rw [Sem.run,h];cases o <;> first | rfl | exact absurd rfl (hc _ _ _)

theorem rf {E:Env} {v y:Value} (h:cK E (.sc v) y):y=v:=by cases h; rfl
theorem As {P:Program} {E:Env} {w:World} {a:Act} {st:St} (hs:cU E w a st) {T:TypeId} {m i v:V} {ok:Bool} {x y:Value} (hm:cK E m x) (hi:cK E i y) (h:jV P st.mem T m i ok=some v) :
  ∃ z,(Instr.lookup T x y ok).run P w = .ok z w∧cK E v z:=by
 unfold jV at h;split at h;·rename_i kt et hd;have hd:=kz hd;split at h;(·rename_i key fg;cases jU hi fg;split at h;(·rename_i gh;have Ly:=fun b=>nQ gh b w;unfold oA at h;split at h;(·rename_i b;obtain⟨g,e,c,rfl,hb⟩:=sB hm;split at h;(·rename_i dq clock hB;obtain⟨es,hh,hr,-⟩:=l0 hs hB hb;split at h;(·rename_i j u hf;obtain⟨r',h1,h2⟩:=gH hr w hf;match r',h2 with | some (j',z),h2 =>cases h;exact⟨_,by simp [Instr.lookup,bn hd,fp hh,Ly,h1],BH h2.2.1 ok true⟩);(·rename_i hf;obtain⟨r',h1,h2⟩:=gH hr w hf;match r',h2 with | none,h2 =>split at h;(·rename_i z hz;cases h;obtain⟨z',h3,h4⟩:=qf hz E w;exact⟨_,by simp [Instr.lookup,bn hd,fp hh,Ly,h1,h3],BH h4 ok false⟩);cases h);cases h);cases h);(·obtain rfl:=rf hm;split at h;(·rename_i hf;obtain⟨r',h1,h2⟩:=gH (E:=E) (es := #[]) ⟨rfl,fun i k e h=>by simp at h⟩ w hf;match r',h2 with | none,h2 =>split at h;(·rename_i z hz;cases h;obtain⟨z',h3,h4⟩:=qf hz E w;exact⟨_,by simp at h1; simp [Instr.lookup,bn hd,Ly,h1,h3],BH h4 ok false⟩);cases h);cases h);cases h);cases h);cases h
 cases h
def vh (mem:List ba) (ts:Array TypeId) (P:Program):List V→Option V
 | [.mp b]=>match mem[b]? with
  | some (.map dq _)=>match ts[0]? with
   | some T=>match iv P T with | some _=>some (.sc (.int .i64 dq.length)) | none=>none
   | none=>none
  | _=>none
 | _=>none
theorem Gr {P:Program} {E:Env} {w:World} {a:Act} {st:St} (hs:cU E w a st) {ts:Array TypeId} {ty:TypeId} {xs:List V} {v:V} {ys:Array Value} (hx:cz E xs ys.toList) (h:vh st.mem ts P xs=some v) :
  ∃ z,(Builtin.len_ ts ty ys).run P w = .ok z w∧cK E v z:=by
 unfold vh at h;split at h;·rename_i b;split at h;(·rename_i dq clock hB;split at h;(·rename_i T h0;split at h;(·rename_i p hp;cases h;obtain⟨kt,et⟩:=p;have hd:=kz hp;obtain⟨x,r,hy,h1,h2⟩:=hx.of_cons;have:=h2.of_nil; subst this;(obtain rfl:ys = #[x]:=by rw [← cL (xs:=ys),hy]);obtain⟨g,e,c,rfl,hb⟩:=sB h1;obtain⟨es,hh,hr,-⟩:=l0 hs hB hb;refine⟨.int .i64 es.size,by simp [Builtin.len_,h0,bn hd,fp hh,goInt],?_⟩;(have:dq.length=es.size:=by simpa using hr.1);rw [this]; exact .sc _ _);cases h);cases h);cases h
 cases h
def JN (mem:List ba) (it:V):Option V :=
 match it with
 | .ptr b 0=>match mem[b]? with
  | some (.jc m _ seen last)=>match mem[m]? with
   | some (.map dq clock)=>if clock=last then (match seen.getLast? with
    | some DA=>match dq.find? (fun e=>e.2.1==DA) with
     | some e=>some (.eC [kx e.1,e.2.2])
     | none=>none
    | none=>none) else none
   | _=>none
  | _=>none
 | _=>none
theorem fP.find {E:Env} (p:Nat→Bool):∀ {dq:List (Value×Nat×V)} {es:List MapEntry} {k:Value×Nat×V},fP E dq es→dq.find? (fun e=>p e.2.1)=some k→∃ e,es.find? (fun e=>p e.born)=some e∧e.key=k.1∧cK E k.2.2 e.val
 | [],es,k,h,hf=>by simp at hf
 | c :: r,es,k,h,hf=>by
  obtain⟨e,es',rfl,h1,h2,h3,h4⟩:=h.of_cons
  rw [List.find?_cons] at hf ⊢
  rw [h2]
  split at hf
  ·rename_i hp; cases hf; exact⟨e,rfl,h1,h3⟩
  exact fP.find p h4 hf
theorem Gs {P:Program} {E:Env} {w:World} {a:Act} {st:St} (hs:cU E w a st) {it v:V} {x:Value} (hi:cK E it x) (h:JN st.mem it=some v):∃ z,(Instr.entry x).run P w = .ok z w∧cK E v z:=by
 unfold JN at h;split at h;·rename_i b;split at h;(·rename_i m since seen last hB;split at h;(·rename_i dq clock hM;split at h;(·rename_i n9;split at h;(·rename_i DA vi;split at h;(·rename_i e he;cases h;obtain⟨g,gm,em,cm,hb,QB,hh,hf⟩:=hs.mem b _ hB;obtain⟨es,hhm,hr,hfm,h0⟩:=l0 hs hM QB;cases hi with | ptr _ _ _ g' e' c' j9 =>rw [hb] at j9; cases j9;(have js:(getObj g).run P w = .ok (.mapIter (some gm) since seen.toArray last) w:=by simp [getObj,Sem.run,hh]);obtain⟨en,h1,h2,h3⟩:=fP.find (fun n=>n==DA) hr he;(have Za:seen.toArray.back?=some DA:=by simpa using vi);(have DB:es.find? (fun e=>e.born==DA)=some en:=by rw [← List.find?_toArray,cL] at h1; exact h1);refine⟨.tuple #[en.key,en.val],?_,?_⟩;(·subst n9;simp only [Instr.entry,Sem.run_bind,js,Result.andThen_ok,Za,fp hhm,bne_self_eq_false,b9,if_false,DB];rfl);refine .eC _ _ _ rfl fun i c y hc hy=>?_;match i with | 0=>simp at hc hy; subst hc; subst hy; rw [h2]; exact kj E _ | 1=>simp at hc hy; subst hc; subst hy; exact h3 | i+2=>simp at hc);cases h);cases h);cases h);cases h);cases h
 cases h
end Go.Eng
end

section
namespace Go.Eng
variable [a6]

theorem fY {E:Env} {v y:Value} (h:cK E (.sc v) y):y=v:=by cases h; rfl

theorem Gt {P:Program} {tt:Table} (ht:TT P tt) {E:Env} {w:World} {a:Act} {st:St} (hs:cU E w a st) {T:TypeId} {x v:V} {lo hi:Option Operand} {y:Value} (hx:cK E x y)
  (h:BG P tt st.mem T x (lo.map st.eval) (hi.map st.eval)=some v):∃ z,(Instr.sliceAt T y (lo.map a.eval) (hi.map a.eval) none).run P w = .ok z w∧cK E v z:=by
 unfold BG at h;split at h;·cases lo with | none =>(cases hi with | none=>exact qc hx h | some hi=>exact mh (f:=fun a h=>Instr.sliceAt T a none (some h) none) hx (hs.eval hi) h) | some lo =>cases hi with | none=>exact mh (f:=fun a l=>Instr.sliceAt T a (some l) none none) hx (hs.eval lo) h | some hi =>simp only [bz] at h ⊢;split at h;(·rename_i hv hhv;rw [jU (hs.eval hi) hhv];exact mh (f:=fun a l=>Instr.sliceAt T a (some l) (some hv) none) hx (hs.eval lo) h);simp at h
 split at h;·simp at h
 rename_i e he;split at h;·simp at h
 rename_i size hz;cases lo with | none =>(cases hi with | none =>obtain⟨aa,len,cap,rfl,h0,h1,h2,h3,hr⟩:=nN hs hx h;exact⟨_,nO ht he hz w aa len cap none none 0 none (.inl ⟨rfl,rfl⟩) (.inl ⟨rfl,rfl⟩) h0 h1 h2 h3,hr⟩ | some hi =>simp only [bz,amZ] at h ⊢;split at h;(·rename_i n hn;obtain⟨k,hk⟩:=qd (hs.eval hi) hn;obtain⟨aa,len,cap,rfl,h0,h1,h2,h3,hr⟩:=nN hs hx h;exact⟨_,nO ht he hz w aa len cap none _ 0 (some n) (.inl ⟨rfl,rfl⟩) (.inr ⟨k,n,by rw [hk],rfl⟩) h0 h1 h2 h3,hr⟩);simp at h) | some lo =>simp only [bz] at h ⊢;split at h;(·simp at h);rename_i l hl;obtain⟨k,hk⟩:=qd (hs.eval lo) hl;cases hi with | none =>simp only [amZ] at h ⊢;obtain⟨aa,len,cap,rfl,h0,h1,h2,h3,hr⟩:=nN hs hx h;exact⟨_,nO ht he hz w aa len cap _ none l none (.inr ⟨k,by rw [hk]⟩) (.inl ⟨rfl,rfl⟩) h0 h1 h2 h3,hr⟩ | some hi =>simp only [bz] at h ⊢;split at h;(·rename_i n hn;obtain⟨k',jA⟩:=qd (hs.eval hi) hn;obtain⟨aa,len,cap,rfl,h0,h1,h2,h3,hr⟩:=nN hs hx h;exact⟨_,nO ht he hz w aa len cap _ _ l (some n) (.inr ⟨k,by rw [hk]⟩) (.inr ⟨k',n,by rw [jA],rfl⟩) h0 h1 h2 h3,hr⟩);simp at h

def oa:List V→Option (List Value)
 | []=>some []
 | v :: r=>match fw v with
  | some x=>match oa r with | some l=>some (x :: l) | none=>none
  | none=>none
theorem o1 {E:Env}:∀ {vs:List V} {xs l:List Value},cz E vs xs→oa vs=some l→xs=l
 | [],xs,l,h,hl=>by simp [oa] at hl; subst hl; exact h.of_nil
 | v :: vs,xs,l,h,hl=>by
  obtain⟨x,ys,rfl,h1,h2⟩:=h.of_cons
  simp only [oa] at hl
  split at hl
  ·rename_i x' Qy
   split at hl
   ·rename_i l' Y9
    simp only [aB] at hl; subst hl
    rw [jU h1 Qy,o1 h2 Y9]
   simp at hl
  simp at hl

def kZ (P:Program) (f:Array Value→Sem Value) (xs:List V):Option V :=
 match oa xs with
 | some l=>match dv P (f l.toArray) with | some v=>some (kx v) | none=>none
 | none=>none

theorem cU.oB {E:Env} {w:World} {a:Act} {st:St} (hs:cU E w a st) (xs:Array Operand):cz E (xs.toList.map st.eval) (xs.map a.eval).toList:=by refine⟨by simp,fun i v x hv hx=>?_⟩;simp only [ae,Array.toList_map,br] at hv hx;obtain⟨o,ho,rfl⟩:=hv;obtain⟨o',Tq,rfl⟩:=hx;rw [ho] at Tq; cases Tq;exact hs.eval o

def BI (P:Program) (tt:Table) (ts:Array TypeId) (ty:TypeId):List V→Option V
 | [.slice rows]=>match ts[0]? with
  | some t=>match iM tt t with | some _=>some (.sc (.int .i64 rows.length)) | none=>none
  | none=>none
 | [.ms _ _ _ l]=>match ts[0]? with
  | some t=>match iM tt t with | some _=>some (.sc (.int .i64 l)) | none=>none
  | none=>none
 | xs=>kZ P (Builtin.len_ ts ty) xs

def aiW (tt:Table) (S:TypeId) (f:Nat) (T:TypeId) (x:V):Option V :=
 match x with
 | .agg cs=>match QZ tt S f with
  | some off=>jh tt T (cs.drop off)
  | none=>none
 | _=>none

def JO (k:Int):Bool:=match a6.κ k with | some b=>b | none=>decide (k≤a6.n)
theorem BJ (k:Int):JO k=decide (k≤a6.n):=by
 unfold JO;split;·rename_i b h; exact (a6.ok k b h).symm
 rfl
def It (op:BinOp) (x y:V):Option V :=
 match y with
 | .gn=>match op,x with
  | .leq,.sc (.int .i64 k)=>some (.sc (.bool (JO k)))
  | .gtr,.sc (.int .i64 k)=>some (.sc (.bool (!JO k)))
  | _,_=>none
 | _=>none
theorem DC {P:Program} {E:Env} {w:World} {op:BinOp} {T:TypeId} {x y v:V} {a b:Value} (xo yo:Operand) (hx:cK E x a) (hy:cK E y b) (h:It op x y=some v) :
  ∃ z,(do eqGuard op T xo yo a b; binOp op T a b:Sem Value).run P w = .ok z w∧cK E v z:=by
 unfold It at h;split at h;·cases hy;split at h;(·rename_i k;cases h;cases hx;refine⟨.bool (decide (k≤a6.n)),by simp [binOp,Op.intCmp,eqGuard],by rw [BJ]; exact .sc _ _⟩);(·rename_i k;cases h;cases hx;refine⟨.bool (decide (k>a6.n)),by simp [binOp,Op.intCmp,eqGuard],?_⟩;(have:(!JO k)=decide (k>a6.n):=by rw [BJ];by_cases h:k≤a6.n;(·rw [decide_eq_true h,decide_eq_false (by omega)]; rfl);rw [decide_eq_false h,decide_eq_true (by omega)]; rfl);rw [this]; exact .sc _ _);cases h
 cases h
def vj (P:Program) (op:BinOp) (T:TypeId) (y:V):Option V :=
 match y with
 | .sc (.pointer none)=>match P.underlying T with
  | some (.pointer _)=>match op with
   | .eql=>some (.sc (.bool false))
   | .neq=>some (.sc (.bool true))
   | _=>none
  | _=>none
 | _=>none
def BK (P:Program) (op:BinOp) (T:TypeId) (x y:V):Option V :=
 match x with
 | .eL _=>vj P op T y
 | .ptr _ _=>vj P op T y
 | .gC _ _ _ _=>vj P op T y
 | _=>none
theorem BL {P:Program} {E:Env} {w:World} {op:BinOp} {T:TypeId} {x y v:V} {a b:Value} (xo yo:Operand) (hx:cK E x a) (hy:cK E y b) (h:BK P op T x y=some v) :
  ∃ z,(do eqGuard op T xo yo a b; binOp op T a b:Sem Value).run P w = .ok z w∧cK E v z:=by
 have key:∀ ad:Addr,a = .pointer (some ad)→vj P op T y=some v→∃ z,(do eqGuard op T xo yo a b; binOp op T a b:Sem Value).run P w = .ok z w∧cK E v z:=by rintro ad rfl h;unfold vj at h;split at h;(·split at h;(·rename_i e hT;cases hy;(have he:(Op.equal T (.pointer (some ad)) (.pointer none)).run P w = .ok false w:=by show (Op.equalIn (9999+1) T _ _).run P w=_;unfold Op.equalIn;simp [bn hT]);split at h;(·cases h;exact⟨.bool false,by simp [binOp,eqGuard,he],.sc _ _⟩);(·cases h;exact⟨.bool true,by simp [binOp,eqGuard,he],.sc _ _⟩);cases h);cases h);cases h
 unfold BK at h;split at h;·cases hx with | eL _ _ ad xf hF hR=>exact key ad rfl h
 ·cases hx with | ptr _ _ _ g e c hb=>exact key _ rfl h
 ·cases hx with | gC _ _ _ _ _ g e c hb=>exact key _ rfl h
 cases h
def mi:List V→Option (List Int)
 | []=>some []
 | .sc (.int .u8 n) :: r=>match mi r with | some l=>some (n :: l) | none=>none
 | _=>none
def qg (P:Program) (s d:TypeId) (rows:List V):Option V :=
 match P.underlying s with
 | some (.slice e)=>match P.underlying e with
  | some (.int .u8)=>match P.underlying d with
   | some .string=>match mi rows with | some ns=>some (.sc (.string (strOfNums ns))) | none=>none
   | _=>none
  | _=>none
 | _=>none
def xU (P:Program) (mem:List ba) (s d:TypeId):V→Option V
 | .slice rows=>qg P s d rows
 | .ms b v o l=>match mem[b]? with
  | some (.rows v' e rs)=>if v'=v∧e=1∧o+l≤rs.length then qg P s d ((rs.drop o).take l) else none
  | some (.tv v' e rs)=>if v'=v∧e=1∧o+l≤rs.length then qg P s d ((rs.drop o).take l) else none
  | _=>none
 | x=>sg P (convert s d) x
theorem LQ (P:Program) (mem:List ba) (s d:TypeId) (x:Value):xU P mem s d (.sc x)=sg P (convert s d) (.sc x):=rfl
theorem pO:∀ {rows:List V} {ns:List Int},mi rows=some ns→ns.length=rows.length
 | [],ns,h=>by simp [mi] at h; subst h; rfl
 | r :: rs,ns,h=>by
  unfold mi at h
  split at h
  ·rename_i heq; exact absurd heq (by simp)
  ·rename_i n l heq
   cases heq
   split at h
   ·rename_i l' hl
    cases h
    simp [pO hl]
   cases h
  cases h
theorem mY:∀ {rows:List V} {ns:List Int},mi rows=some ns→∀ (i:Nat) (r:V),rows[i]?=some r→r = .sc (.int .u8 (ns.getD i 0))
 | [],ns,h,i,r,hr=>by simp at hr
 | r0 :: rs,ns,h,i,r,hr=>by
  unfold mi at h
  split at h
  ·rename_i heq; exact absurd heq (by simp)
  ·rename_i n l heq
   cases heq
   split at h
   ·rename_i l' hl
    cases h
    cases i with
    | zero=>simp at hr; subst hr; rfl
    | succ i=>exact mY hl i r (by simpa using hr)
   cases h
  cases h
theorem o2 {P:Program} {w:World} {E:Env} {s d:TypeId} {rows:List V} {v:V} {aa:Option Addr} {cap:Nat} (h:qg P s d rows=some v) (hn:rows≠[]→∃ g o,aa=some ⟨g,o,none⟩∧∀ (i:Nat) (r:V),rows[i]?=some r→∃ x,w.cell? ⟨g,o+i,none⟩=some x∧cK E r x) :
  ∃ y,(convert s d (.slice aa rows.length cap)).run P w = .ok y w∧cK E v y:=by
 unfold qg at h;split at h;·rename_i e hs;split at h;(·rename_i he;split at h;(·rename_i hd;split at h;(·rename_i ns hb;cases h;refine⟨_,?_,.sc _ _⟩;have hl:=pO hb;cases rows with | nil =>(have:ns=[]:=cd.1 hl;subst this;rw [run_convert_bytes_string w s d e aa _ cap hs he hd];cases aa with | none=>simp [Conv.bytesToString]; rfl | some a0 =>have:=run_bytesToString (P:=P) w a0 0 cap [] (by simp [loadCells,loadCellsFrom]);have e0:strOfNums []=ByteArray.empty:=rfl;rw [e0];simpa using this) | cons r0 rr =>obtain⟨g,o,rfl,hc⟩:=hn (by simp);refine run_convert_bytes_arg w s e hs he g o _ cap ns hl (fun i hi=>?_) d hd;obtain⟨x,hx,hr⟩:=hc i _ (ah hi);rw [hx,mY hb i _ (ah hi)] at *;rw [fY hr]);cases h);cases h);cases h
 cases h
theorem wm {P:Program} {s d:TypeId} {rows:List V} {v:V} (h:qg P s d rows=some v):∃ ns,mi rows=some ns:=by
 unfold qg at h;split at h;·split at h;(·split at h;(·split at h;(·rename_i ns hb; exact⟨ns,hb⟩);cases h);cases h);cases h
 cases h
theorem JP {w:World} {ad:Addr} {x:Value} (h:w.cell? ad=some x):ad.spot=none:=by
 unfold World.cell? at h;split at h;·split at h;(·simp at h);rename_i h1; cases hs:ad.spot with | none=>rfl | some s=>simp [hs] at h1
 simp at h
theorem DD {P:Program} {E:Env} {w:World} {a:Act} {st:St} (hs:cU E w a st) {s d:TypeId} {x v:V} {y:Value} (hx:cK E x y) (h:xU P st.mem s d x=some v):∃ z,(convert s d y).run P w = .ok z w∧cK E v z:=by
 have ms:∀ (b v' o l e:Nat) (rs:List V),cK E (.ms b v' o l) y→e=1→o+l≤rs.length→(∀ g e' c,E.cj b v'=some (g,e',c)→e'=e∧lI E.pure e rs (fun k=>w.cell? ⟨g,k,none⟩)) →
   qg P s d ((rs.drop o).take l)=some v→∃ z,(convert s d y).run P w = .ok z w∧cK E v z:=by
  intro b v' o l e rs hr he hl ml hb
  obtain⟨ns,hns⟩:=wm hb
  have hlen:((rs.drop o).take l).length=l:=by simp; omega
  cases hr with
  | iz =>
   have h0:(rs.drop o).take 0=[]:=mQ
   rw [h0] at hb
   exact o2 (aa:=none) (cap:=0) (w:=w) (E:=E) hb (fun dK=>absurd rfl dK)
  | ms _ _ _ _ _ g e' c aa cap fA hla Qz AS =>
   have j9:=hb
   rw [← hlen]
   refine o2 hb fun dK=>?_
   have U7:0<l:=by
    rcases anr l with h0 | h0
    ·subst h0; exact absurd mQ dK
    exact h0
   obtain⟨U8,U9⟩:=ml g e' c fA
   subst he
   subst U8
   refine⟨g,o*1,hla U7,fun i r hi=>?_⟩
   have hi':rs[o+i]?=some r:=by
    rw [lX] at hi
    split at hi
    ·simpa using hi
    simp at hi
   obtain⟨-,h2⟩:=U9 _ r hi'
   have Dn:=mY hns i r hi
   obtain⟨x,hx,-,JQ⟩:=h2 0 r (by rw [Dn]; rfl)
   refine⟨x,?_,JQ.mono (Env.re E)⟩
   have:(o+i)*1+0=o*1+i:=by omega
   rw [← this]; exact hx
 unfold xU at h;split at h;·rename_i rows;obtain⟨ns,hns⟩:=wm h;cases hx with | slice _ _ aa cap sy ad xf ha mW hz hF o0 hR =>refine o2 h fun dK=>?_;(have key:∀ (i:Nat) (r:V),rows[i]?=some r→∃ x,w.cell? (ad.add i)=some x∧cK E r x:=fun i r hi=>by have Dn:=mY hns i r hi;(have hc:r.cells=[r]:=by rw [Dn]; rfl);(have he:sy=1:=by rw [← hz i r hi,hc]; rfl);have h1:=hF i r 0 r hi (by rw [hc]; rfl);have h2:=hR i r 0 r hi (by rw [hc]; rfl);rw [he,Nat.mul_one,jS] at h1;exact⟨_,hs.F _ _ h1,h2.mono (Env.re E)⟩);(obtain⟨r0,h0⟩:∃ r0,rows[0]?=some r0:=by cases rows with | nil=>exact absurd rfl dK | cons r0 rr=>exact⟨r0,rfl⟩);obtain⟨x0,Iu,-⟩:=key 0 r0 h0;(have Zb:ad.add 0=ad:=by simp [Addr.add]);have QC:=JP Iu;rw [Zb] at QC;obtain⟨g,o,sp⟩:=ad;obtain rfl:sp=none:=QC;refine⟨g,o,ha dK,fun i r hi=>?_⟩;obtain⟨x,hx,hr⟩:=key i r hi;exact⟨x,by rw [← hx]; congr 1; unfold Addr.add; by_cases h0:i=0 <;> simp [h0],hr⟩
 ·rename_i b v' o l;split at h;(·rename_i v1 e rs hm;split at h;(·rename_i hc;obtain⟨rfl,rfl,hl⟩:=hc;refine ms b v1 o l 1 rs hx rfl hl (fun g e' c fA=>?_) h;(rcases hs.mem b _ hm with ⟨afc,hn⟩ | ⟨g',T,xs,c',j9,hh,-,-,ml,-⟩);(·rw [hn] at fA; cases fA);rw [j9] at fA; cases fA;refine⟨rfl,fun i row hi=>?_⟩;obtain⟨h1,h2⟩:=ml i row hi;refine⟨h1,fun j cc hj=>?_⟩;obtain⟨x,hx,h3⟩:=h2 j cc hj;exact⟨x,(nM hh _).trans hx,h3⟩);cases h);(·rename_i v1 e rs hm;split at h;(·rename_i hc;obtain⟨rfl,rfl,hl⟩:=hc;refine ms b v1 o l 1 rs hx rfl hl (fun g e' c fA=>?_) h;(rcases hs.mem b _ hm with ⟨afc,hn⟩ | ⟨g',c',j9,-,ml⟩);(·rw [hn] at fA; cases fA);rw [j9] at fA; cases fA;refine⟨rfl,fun i row hi=>?_⟩;obtain⟨h1,h2⟩:=ml i row hi;refine⟨h1,fun j cc hj=>?_⟩;obtain⟨x,hx,h3⟩:=h2 j cc hj;exact⟨x,hs.F _ _ hx,h3⟩);cases h);cases h
 exact qc hx h
def rU (op:BinOp) (T:TypeId) (x y:Operand):Value→Value→Sem Value:=fun u v=>do eqGuard op T x y u v; binOp op T u v
def xV (P:Program) (tt:Table) (T:TypeId) (x i:V):Option V :=
 match x with
 | .ptr b o=>match i with
  | .sc (.int _ n)=>match P.underlying T with
   | some (.array len e)=>match nK tt e with
    | some size=>if 0≤n∧n<len then some (.ptr b (o+n.toNat*size)) else none
    | none=>none
   | _=>none
  | _=>none
 | _=>none
theorem DE {P:Program} {tt:Table} (ht:TT P tt) {E:Env} {T:TypeId} {p i v:V} {x y:Value} (hp:cK E p x) (hi:cK E i y) (h:xV P tt T p i=some v) (w:World) :
  ∃ z,(Instr.indexAt T x y).run P w = .ok z w∧cK E v z:=by
 unfold xV nK at h;split at h;·rename_i b o;split at h;(·rename_i k n;split at h;(·rename_i len e hd;cases hE:tt e with | none=>rw [hE] at h; simp at h | some ie =>rw [hE] at h; simp only at h;split at h;(·rename_i h0;cases h;cases hi with | sc =>cases hp with | ptr _ _ _ g e' c hb =>refine⟨.pointer (some ⟨g,o+n.toNat*ie.size,none⟩),?_,.ptr _ _ _ g e' c hb⟩;simp [Instr.indexAt,asIntOf,bn hd,Instr.sureAddr,ht.sizeOf hE,h0,add_lit]);cases h);cases h);cases h
 cases h
def Tr (rows:List V):Bool→V
 | true=>.full rows
 | false=>.slice rows
def Iv (tt:Table) (T:TypeId) (x h m:V):Option V :=
 match x with
 | .slice rows=>match Dy h with
  | some a=>match Dy m with
   | some b=>match iM tt T with
    | some e=>match nK tt e with
     | some _=>if 0≤a∧a≤b∧b≤rows.length then some (Tr (rows.take a.toNat) (decide (a=b))) else none
     | none=>none
    | none=>none
   | none=>none
  | none=>none
 | _=>none
theorem DF {P:Program} {tt:Table} (ht:TT P tt) {E:Env} {T:TypeId} {x h m v:V} {y z u:Value} (hx:cK E x y) (hh:cK E h z) (hm:cK E m u) (hc:Iv tt T x h m=some v) (w:World) :
  ∃ q,(Instr.sliceAt T y none (some z) (some u)).run P w = .ok q w∧cK E v q:=by
 unfold Iv at hc;split at hc;·rename_i rows;split at hc;(·rename_i a ha;split at hc;(·rename_i b hb;obtain⟨k1,rfl⟩:=qd hh ha;obtain⟨k2,rfl⟩:=qd hm hb;unfold iM nK at hc;cases hT:tt T with | none=>rw [hT] at hc; simp at hc | some iT =>rw [hT] at hc; simp only at hc;cases he:iT.elem with | none=>rw [he] at hc; simp at hc | some e =>rw [he] at hc; simp only at hc;cases hE:tt e with | none=>rw [hE] at hc; simp at hc | some ie =>rw [hE] at hc; simp only at hc;obtain⟨d,hd,-,BF,-⟩:=ht.desc T iT hT;obtain rfl:=BF e he;split at hc;(·rename_i u5;obtain⟨h0,h1,h2⟩:=u5;cases hc;cases hx with | slice _ _ aa cap sy ad xf haa mW hz hF o0 hR =>(have hlen:(rows.take a.toNat).length=a.toNat:=by rw [dz]; omega);(have fZ:(Instr.sliceAt T (.slice aa rows.length cap) none (some (.int k1 a)) (some (.int k2 b))).run P w = .ok (.slice aa a.toNat b.toNat) w:=by simp only [Instr.sliceAt,Instr.slice,Sem.run_bind,bn hd,Result.andThen_ok,Instr.sliceBounds,Instr.sliceBound,asIntOf,Sem.run_pure,ht.sizeOf hE,anU];rw [if_pos ⟨by omega,by omega⟩];simp only [Sem.run_pure,Result.andThen_ok];rw [if_pos ⟨by omega,by omega⟩];simp [Addr.add]);refine⟨_,fZ,?_⟩;(have hg:∀ (i:Nat) (row:V),(rows.take a.toNat)[i]?=some row→rows[i]?=some row:=fun i row hi=>by rw [lX] at hi;split at hi;(·exact hi);cases hi);have:=cK.slice E (rows.take a.toNat) aa b.toNat sy ad xf (fun dK=>haa fun h=>dK (by rw [h,anz])) (by omega) (fun i row hi=>hz _ _ (hg i row hi)) (fun i row j c hi hj=>hF _ _ _ _ (hg i row hi) hj) (fun i row j c hi hj=>o0 _ _ _ _ (hg i row hi) hj) fun i row j c hi hj=>hR _ _ _ _ (hg i row hi) hj;rw [hlen] at this;by_cases Q0:a=b;(·rw [decide_eq_true Q0];(have hbn:b.toNat=(rows.take a.toNat).length:=by rw [hlen,Q0]);(have h4:(Value.slice aa a.toNat b.toNat) = .slice aa (rows.take a.toNat).length (rows.take a.toNat).length:=by rw [← hbn,← Q0]);rw [h4];exact .full _ _ _ (by rw [← h4]; exact this));rw [decide_eq_false Q0];exact this);cases hc);cases hc);cases hc
 cases hc
def BM (P:Program) (tt:Table) (S:TypeId) (f:Nat) (x:V):Option V :=
 match x with
 | .agg cs=>match P.underlying S with
  | some (.struct fs)=>match fs[f]? with
   | some fd=>jh tt fd.type (cs.drop fd.offset)
   | none=>none
  | _=>none
 | _=>none
theorem At {P:Program} {tt:Table} (ht:TT P tt) {E:Env} {S:TypeId} {f:Nat} {x v:V} {y:Value} (hx:cK E x y) (h:BM P tt S f x=some v) (w:World):∃ z,(Instr.field S y f).run P w = .ok z w∧cK E v z:=by
 unfold BM at h;split at h;·rename_i cs;split at h;(·rename_i fs hu;split at h;(·rename_i fd hf;cases hx with | agg _ _ xs hl hr =>simp only [Instr.field,Sem.run_bind,bn hu,Result.andThen_ok,hf];unfold jh at h;cases hi:tt fd.type with | none=>rw [hi] at h; simp at h | some i =>rw [hi] at h; simp only at h;cases ha:i.agg with | false =>simp only [ha,b9,if_false] at h;(have h0:cs[fd.offset]?=some v:=by simpa [an7] using h);(have bX:fd.offset<xs.size:=by rw [← hl]; exact (ax.1 h0).1);refine⟨xs[fd.offset],?_,hr _ _ _ h0 (bS bX)⟩;simp [part,asAgg,ht.isAgg hi,ha,bS bX] | true =>simp only [ha,if_true] at h;split at h;(·rename_i hle;simp only [aB] at h; subst h;rw [aep] at hle;refine⟨.agg (xs.extract fd.offset (fd.offset+i.size)),?_,.agg _ _ _ (by simp; omega) fun j c z hc hz=>?_⟩;(·simp [part,asAgg,ht.isAgg hi,ha,ht.sizeOf hi]);(have hj:j<i.size:=by by_cases hj:j<i.size;(·exact hj);rw [lX] at hc; simp [hj] at hc);rw [jb hj,Yx] at hc;refine hr (fd.offset+j) c z hc ?_;rw [Array.getElem?_extract] at hz;split at hz;(·exact hz);cases hz);cases h);cases h);cases h
 cases h
def lr (P:Program) (tt:Table) (st:St) (o:Oper):Option V :=
 match o.op with
 | .move x=>some (st.eval x)
 | .assign x=>some (st.eval x)
 | .pick c a b=>match st.eval c with | .sc (.bool t)=>some (if t=true then st.eval a else st.eval b) | _=>none
 | .load T x=>pM tt st.mem T (st.eval x)
 | .nilCheck x=>U5 (st.eval x)
 | .binOp op T x y _=>match It op (st.eval x) (st.eval y) with
  | some v=>some v
  | none=>match BK P op T (st.eval x) (st.eval y) with
   | some v=>some v
   | none=>eM P (rU op T x y) (st.eval x) (st.eval y)
 | .unOp op _ x=>sg P (Op.unary op) (st.eval x)
 | .convert s d x=>xU P st.mem s d (st.eval x)
 | .makeFunc fn first cap=>some (.cC fn (first.toList.map st.eval) (cap.toList.map st.eval))
 | .slice T x lo hi none=>BG P tt st.mem T (st.eval x) (lo.map st.eval) (hi.map st.eval)
 | .fieldAddr S x f=>BC tt S f (st.eval x)
 | .field S x f=>BM P tt S f (st.eval x)
 | .slice T x none (some h) (some m)=>Iv tt T (st.eval x) (st.eval h) (st.eval m)
 | .indexAddr T x i=>match nj tt st.mem T (st.eval x) (st.eval i) with
  | some v=>some v
  | none=>xV P tt T (st.eval x) (st.eval i)
 | .index T x i=>eM P (Instr.index T) (st.eval x) (st.eval i)
 | .extract t i=>match st.eval t with | .eC vs=>vs[i]? | _=>none
 | .lookup T x i ok=>jV P st.mem T (st.eval x) (st.eval i) ok
 | .entry it=>JN st.mem (st.eval it)
 | .call { callee:=.builtin .len,args:=xs,argTypes:=ts }=>match vh st.mem ts P (xs.toList.map st.eval) with
  | some v=>some v
  | none=>BI P tt ts o.type (xs.toList.map st.eval)
 | .call { callee:=.builtin .max,args:=xs,argTypes:=ts }=>kZ P (Builtin.max_ ts o.type) (xs.toList.map st.eval)
 | .call { callee:=.builtin .min,args:=xs,argTypes:=ts }=>kZ P (Builtin.min_ ts o.type) (xs.toList.map st.eval)
 | _=>none

theorem qh {P:Program} {f:Array Value→Sem Value} {E:Env} {w:World} {xs:List V} {v:V} {ys:Array Value} (hx:cz E xs ys.toList) (h:kZ P f xs=some v):∃ z,(f ys).run P w = .ok z w∧cK E v z:=by
 unfold kZ at h;split at h;·rename_i l hl;have:=o1 hx hl;split at h;(·rename_i z hz;simp only [aB] at h; subst h;subst this;exact⟨z,fX _ (by simpa using hz) w,kj E z⟩);simp at h
 simp at h

theorem BN {P:Program} {tt:Table} (ht:TT P tt) {ts:Array TypeId} {ty t e:TypeId} (h0:ts[0]?=some t) (he:iM tt t=some e) (w:World) (aa:Option Addr) (len cap:Nat) :
  (Builtin.len_ ts ty #[.slice aa len cap]).run P w = .ok (.int .i64 len) w:=by unfold iM at he;cases hT:tt t with | none=>rw [hT] at he; simp at he | some iT =>rw [hT] at he; simp only at he;obtain⟨d,hd,-,BF,-⟩:=ht.desc t iT hT;obtain rfl:=BF e he;simp [Builtin.len_,h0,bn hd,goInt]

theorem Gu {P:Program} {tt:Table} (ht:TT P tt) {E:Env} {w:World} {ts:Array TypeId} {ty:TypeId} {xs:List V} {v:V} {ys:Array Value} (hx:cz E xs ys.toList) (h:BI P tt ts ty xs=some v) :
  ∃ z,(Builtin.len_ ts ty ys).run P w = .ok z w∧cK E v z:=by
 unfold BI at h;split at h;·split at h;(·rename_i t h0;split at h;(·rename_i e he;simp only [aB] at h; subst h;obtain⟨x,r,hy,h1,h2⟩:=hx.of_cons;have:=h2.of_nil; subst this;(obtain rfl:ys = #[x]:=by rw [← cL (xs:=ys),hy]);cases h1 with | slice _ _ aa cap sy ad xf ha mW hz hF o0 hR=>exact⟨_,BN ht h0 he w aa _ cap,.sc _ _⟩);simp at h);simp at h
 ·split at h;(·rename_i t h0;split at h;(·rename_i e he;simp only [aB] at h; subst h;obtain⟨x,r,hy,h1,h2⟩:=hx.of_cons;have:=h2.of_nil; subst this;(obtain rfl:ys = #[x]:=by rw [← cL (xs:=ys),hy]);cases h1 with | iz=>exact⟨_,BN ht h0 he w none _ 0,.sc _ _⟩ | ms _ _ _ _ _ g e' c aa cap hb hl Qz AS=>exact⟨_,BN ht h0 he w aa _ cap,.sc _ _⟩);simp at h);simp at h
 exact qh hx h

theorem c6 {P:Program} {s:Sem Value} {w:World} {x:Value} (h:s.run P w = .ok x w):(do pure (Next.value (← s)):Sem Next).run P w = .ok (.value x) w:=by simp [h]

theorem rh {P:Program} {tt:Table} (ht:TT P tt) {E:Env} {w:World} {a:Act} {st:St} (hs:cU E w a st) {o:Oper} {v:V} (h:lr P tt st o=some v) :
  ∃ x,(execOp a.eval o).run P w = .ok (.value x) w∧cK E v x:=by
 obtain⟨dst,op,type,pos,after,guard⟩:=o;unfold lr at h;dsimp only at h;split at h;·simp only [aB] at h; subst h; exact⟨_,rfl,hs.eval _⟩
 ·simp only [aB] at h; subst h; exact⟨_,rfl,hs.eval _⟩
 ·rename_i c x y;split at h;(·rename_i t hc;simp only [aB] at h; subst h;have:=hs.eval c;rw [hc] at this;refine⟨if t=true then a.eval x else a.eval y,?_,?_⟩;(·simp [execOp,fY this,asBool]);cases t <;> exact hs.eval _);simp at h
 ·obtain⟨y,h1,h2⟩:=wk ht hs (hs.eval _) h;exact⟨y,c6 h1,h2⟩
 ·rename_i x;have hx:=hs.eval x;generalize hy:a.eval x=y at hx;(have fZ:∀ z,(∀ m f c,z ≠ .func (.method m) f c)→z ≠ .pointer none→z ≠ .nilIface→z ≠ .nilFunc→a.eval x=z→(execOp a.eval { dst,op:=.nilCheck x,type,pos,after,guard }).run P w = .ok (.value z) w:=by intro z h1 h2 h3 h4 he;simp only [execOp,he];rfl);unfold U5 at h;split at h <;> simp only [aB,reduceCtorEq] at h <;> subst h <;> rename_i hv <;> rw [hv] at hx;(·cases hx with | ptr _ _ _ g e c hb=>exact⟨_,fZ _ (by simp) (by simp) (by simp) (by simp) hy,.ptr _ _ _ g e c hb⟩);(·cases hx with | gC _ _ _ _ _ g e c hb=>exact⟨_,fZ _ (by simp) (by simp) (by simp) (by simp) hy,.gC _ _ _ _ _ g e c hb⟩);(·cases hx with | eL _ _ ad xf hF hr=>exact⟨_,fZ _ (by simp) (by simp) (by simp) (by simp) hy,.eL _ _ _ xf hF hr⟩);(·cases hx with | cC _ f first cap xs ys h1 h2 h3 h4=>exact⟨_,fZ _ (by simp) (by simp) (by simp) (by simp) hy,.cC _ _ _ _ _ _ h1 h2 h3 h4⟩);have:=fY hx;subst this;exact⟨_,fZ _ (by simp) (by simp) (by simp) (by simp) hy,.sc _ _⟩
 ·rename_i op T x y _;split at h;(·rename_i hg;cases h;obtain⟨z,h1,h2⟩:=DC (P:=P) (w:=w) (T:=T) x y (hs.eval x) (hs.eval y) hg;exact⟨z,c6 h1,h2⟩);split at h;(·rename_i hg;cases h;obtain⟨z,h1,h2⟩:=BL (P:=P) (w:=w) (T:=T) x y (hs.eval x) (hs.eval y) hg;exact⟨z,c6 h1,h2⟩);obtain⟨z,h1,h2⟩:=mh (w:=w) (hs.eval x) (hs.eval y) h;exact⟨z,c6 h1,h2⟩
 ·obtain⟨z,h1,h2⟩:=qc (w:=w) (hs.eval _) h;exact⟨z,c6 h1,h2⟩
 ·obtain⟨z,h1,h2⟩:=DD (w:=w) hs (hs.eval _) h;exact⟨z,c6 h1,h2⟩
 ·(rename_i fn first cap);simp only [aB] at h; subst h;(have h1:=hs.oB first);have h2:=hs.oB cap;exact⟨_,c6 rfl,.cC _ _ _ _ _ _ (by simp) (by simp) (fun i c x hc hx=>h1.2 i c x hc (by simpa using hx)) fun i c x hc hx=>h2.2 i c x hc (by simpa using hx)⟩
 ·obtain⟨z,h1,h2⟩:=Gt ht hs (hs.eval _) h;exact⟨z,c6 h1,h2⟩
 ·obtain⟨z,h1,h2⟩:=BD ht (hs.eval _) h w;exact⟨z,c6 h1,h2⟩
 ·obtain⟨z,h1,h2⟩:=At ht (hs.eval _) h w;exact⟨z,c6 h1,h2⟩
 ·obtain⟨z,h1,h2⟩:=DF ht (hs.eval _) (hs.eval _) (hs.eval _) h w;exact⟨z,c6 h1,h2⟩
 ·split at h;(·rename_i hv;cases h;obtain⟨z,h1,h2⟩:=BE ht hs (hs.eval _) (hs.eval _) hv;exact⟨z,c6 h1,h2⟩);obtain⟨z,h1,h2⟩:=DE ht (hs.eval _) (hs.eval _) h w;exact⟨z,c6 h1,h2⟩
 ·obtain⟨z,h1,h2⟩:=mh (w:=w) (hs.eval _) (hs.eval _) h;exact⟨z,c6 h1,h2⟩
 ·rename_i t i;split at h;(·rename_i vs hv;have:=hs.eval t;rw [hv] at this;generalize hy:a.eval t=y at this;cases this with | eC _ _ xs hl hr =>(have hi:i<xs.size:=by rw [← hl]; exact (ax.1 h).1);exact⟨xs[i],c6 (by simp [hy,Instr.extract,bS hi]),hr i v _ h (bS hi)⟩);simp at h
 ·obtain⟨z,h1,h2⟩:=As hs (hs.eval _) (hs.eval _) h;exact⟨z,c6 h1,h2⟩
 ·obtain⟨z,h1,h2⟩:=Gs hs (hs.eval _) h;exact⟨z,c6 h1,h2⟩
 ·split at h;(·rename_i hl;cases h;obtain⟨z,h1,h2⟩:=Gr hs (hs.oB _) hl;exact⟨z,c6 h1,h2⟩);obtain⟨z,h1,h2⟩:=Gu ht (w:=w) (hs.oB _) h;exact⟨z,c6 h1,h2⟩
 ·obtain⟨z,h1,h2⟩:=qh (w:=w) (hs.oB _) h;exact⟨z,c6 h1,h2⟩
 ·obtain⟨z,h1,h2⟩:=qh (w:=w) (hs.oB _) h;exact⟨z,c6 h1,h2⟩
 simp at h
end Go.Eng
end

section
namespace Go.Eng
variable [a6]
open Go.RowKit (Below)

def c7 (mem:List ba) (key:Nat) (B:ba):List ba:=if key<mem.length then mem.set key B else mem++[B]
def iR (mem:List ba) (key:Nat):Prop:=mem[key]?=some .hole∨key=mem.length
def Env.with (E:Env) (key dw:Nat) (t:Nat×Nat×Nat):Env := { F:=E.F,cj:=fun k v=>if k=key∧v=dw then some t else E.cj k v,gl:=E.gl }

theorem o3 {mem:List ba} {key:Nat} (h:key≤mem.length) (B:ba) (k:Nat):(c7 mem key B)[k]?=if k=key then some B else mem[k]?:=by
 unfold c7;split;·rename_i bX;rw [bw];by_cases hk:key=k;(·subst hk; simp [bX]);rw [if_neg hk,if_neg (fun e=>hk e.symm)]
 rename_i jw;have fg:key=mem.length:=by omega
 by_cases hk:k=key;·subst hk; rw [if_pos rfl,fg]; simp
 rw [if_neg hk,Tn];split;·rfl
 rw [dF (by simp; omega),dF (by omega)]
theorem si {mem:List ba} {key:Nat} (h:key≤mem.length) (B:ba):mem.length≤(c7 mem key B).length∧key<(c7 mem key B).length:=by unfold c7;split <;> simp <;> omega
theorem iR.le {mem:List ba} {key:Nat} (h:iR mem key):key≤mem.length:=by
 rcases h with h | h
 ·exact Nat.le_of_lt (ax.1 h).1
 omega
theorem cU.free {E:Env} {w:World} {a:Act} {st:St} (hs:cU E w a st) {key:Nat} (h:iR st.mem key):∀ v,E.cj key v=none:=by
 rcases h with h | h
 ·exact hs.mem _ _ h
 exact hs.top _ (by omega)
theorem Env.l4 {E:Env} {key dw:Nat} (h:E.cj key dw=none) (t:Nat×Nat×Nat):E.le (E.with key dw t) :=
 ⟨fun _ _ h=>h,fun b v u hb=>by
  show (if b=key∧v=dw then some t else E.cj b v)=some u
  rw [if_neg (fun e=>by rw [e.1,e.2,h] at hb; cases hb)]; exact hb⟩

theorem ni.mono {E E':Env} {w w':World} {k:Nat} {B:ba} (h:ni E w k B) (hle:E.le E') (LS:∀ v,E.cj k v=none→E'.cj k v=none)
  (xW:∀ g e c,E.cj k B.dw=some (g,e,c)→w'.heap[g]?=w.heap[g]?) (hF:∀ g e c o,E.cj k B.dw=some (g,e,c)→E.F ⟨g,o,none⟩=none→E'.F ⟨g,o,none⟩=none):ni E' w' k B:=by
 have ml:∀ {e rs} {f f':Nat→Option Value},(∀ o x,f o=some x→f' o=some x)→lI E.pure e rs f→lI E'.pure e rs f':=fun hf hr i row hi=>by obtain⟨h1,h2⟩:=hr i row hi;exact⟨h1,fun j c hj=>let ⟨x,hx,h1,hr⟩:=h2 j c hj; ⟨x,hf _ _ hx,h1,hr.mono (Env.kp hle)⟩⟩
 cases B with | hole=>exact fun v=>LS v (h v) | dead=>trivial | box cs =>obtain⟨g,T,xs,hb,hh,hr,hf⟩:=h;exact⟨g,T,xs,hle.cj _ _ _ hb,(xW _ _ _ hb).trans hh,hr.mono hle,fun o=>hF _ _ _ o hb (hf o)⟩ | rows v e rs =>((rcases h with ⟨h1,h2⟩ | ⟨g,T,xs,c,hb,hh,lZ,hl,hr,hf⟩);(·exact .inl ⟨h1,LS _ h2⟩);exact .inr ⟨g,T,xs,c,hle.cj _ _ _ hb,(xW _ _ _ hb).trans hh,lZ,hl,ml (fun _ _ h=>h) hr,fun o=>hF _ _ _ o hb (hf o)⟩) | loop s mX fr params assign body =>obtain⟨l,fn,tmps,db,hb,hh,hr,hf⟩:=h;exact⟨l,fn,tmps,db,hle.cj _ _ _ hb,(xW _ _ _ hb).trans hh,hr.mono hle,fun o=>hF _ _ _ o hb (hf o)⟩ | map dq clock =>obtain⟨g,es,hb,hh,hr,hf⟩:=h;exact⟨g,es,hle.cj _ _ _ hb,(xW _ _ _ hb).trans hh,hr.mono hle,fun o=>hF _ _ _ o hb (hf o)⟩ | jc m since seen last =>obtain⟨g,gm,e,c,hb,hm,hh,hf⟩:=h;exact⟨g,gm,e,c,hle.cj _ _ _ hb,hle.cj _ _ _ hm,(xW _ _ _ hb).trans hh,fun o=>hF _ _ _ o hb (hf o)⟩ | mS s pos =>obtain⟨g,hb,hh,hf⟩:=h;exact⟨g,hle.cj _ _ _ hb,(xW _ _ _ hb).trans hh,fun o=>hF _ _ _ o hb (hf o)⟩ | nh =>obtain⟨g,hb,hh,hf⟩:=h;exact⟨g,hle.cj _ _ _ hb,(xW _ _ _ hb).trans hh,fun o=>hF _ _ _ o hb (hf o)⟩ | tv v e rs =>(rcases h with ⟨h1,h2⟩ | ⟨g,c,hb,hl,hr⟩);(·exact .inl ⟨h1,LS _ h2⟩);exact .inr ⟨g,c,hle.cj _ _ _ hb,hl,ml (fun _ _ h=>hle.F _ _ h) hr⟩

theorem cU.new {E:Env} {w:World} {a:Act} {st:St} (hs:cU E w a st) {key:Nat} (hk:iR st.mem key) {obj:Obj} {B:ba} {e c:Nat} (LU:B.dw=0)
  (hB:ni (E.with key 0 (w.heap.size,e,c)) (w.alloc obj) key B) :
  cU (E.with key 0 (w.heap.size,e,c)) (w.alloc obj) a { st with mem:=c7 st.mem key B }∧gE E w (E.with key 0 (w.heap.size,e,c)) (w.alloc obj):=by
 have AT:=hs.free hk;have hle:=Env.l4 (AT 0) (w.heap.size,e,c);have gI:∀ k v,¬ (k=key∧v=0)→(E.with key 0 (w.heap.size,e,c)).cj k v=E.cj k v:=fun k v dK=>if_neg dK;have fg:(E.with key 0 (w.heap.size,e,c)).cj key 0=some (w.heap.size,e,c):=if_pos ⟨rfl,rfl⟩;have QD:∀ k v,k≠key→(E.with key 0 (w.heap.size,e,c)).cj k v=E.cj k v:=fun k v dK=>gI k v fun h=>dK h.1;refine⟨⟨fun ad x hx=>?_,fun k v g e' c' hb=>?_,fun k B' tn=>?_,fun k jA v=>?_,fun k B' tn v hv=>?_,?_,hs.fr.mono hle⟩,hle,fun k v g e' c' hb=>?_,fun ad x hx=>.inl hx,rfl,rfl,rfl,by simp,fun b hb _=>dL w _ b hb⟩;·rw [World.cell?_alloc_lt w _ ad (World.block_lt_of_cell? w ad (hs.F ad x hx))]; exact hs.F ad x hx
 ·by_cases fe:k=key∧v=0;(·obtain⟨rfl,rfl⟩:=fe; rw [fg] at hb; cases hb; simp);rw [gI k v fe] at hb; have:=hs.lt _ _ _ _ _ hb; simp; omega
 ·rw [o3 hk.le] at tn;split at tn;(·rename_i fe; subst fe; cases tn; exact hB);rename_i fe;exact (hs.mem k B' tn).mono hle (fun v h=>by rw [QD k v fe]; exact h) (fun g e' c' hb=>dL w _ g (hs.lt _ _ _ _ _ hb)) fun _ _ _ o _ h=>h
 ·have:=si hk.le B;dsimp only at jA;rw [QD k v (by omega)]; exact hs.top k (by omega) v
 ·dsimp only at tn;rw [o3 hk.le] at tn;split at tn;(·rename_i fe; subst fe; cases tn; rw [gI k v (by omega)]; exact AT v);rename_i fe; rw [QD k v fe]; exact hs.dw k B' tn v hv
 ·intro k k' v v' g e1 c1 e2 c2 h5 h6;by_cases fe:k=key∧v=0 <;> by_cases BO:k'=key∧v'=0;(·rw [fe.1,BO.1]);(·obtain⟨rfl,rfl⟩:=fe; rw [fg] at h5; cases h5; rw [gI k' _ BO] at h6; have:=hs.lt _ _ _ _ _ h6; omega);(·obtain⟨rfl,rfl⟩:=BO; rw [fg] at h6; cases h6; rw [gI k _ fe] at h5; have:=hs.lt _ _ _ _ _ h5; omega);rw [gI k _ fe] at h5; rw [gI k' _ BO] at h6;exact hs.apart _ _ _ _ _ _ _ _ _ h5 h6
 by_cases fe:k=key∧v=0;·obtain⟨rfl,rfl⟩:=fe; rw [fg] at hb; cases hb; exact .inr (aw _)
 rw [gI k v fe] at hb; exact .inl ⟨_,_,_,_,hb⟩

theorem cU.LV {E:Env} {w:World} {a:Act} {st:St} (hs:cU E w a st) {key:Nat} (hk:iR st.mem key) {xs:Array Value} {cs:List V} (hr:cz E cs xs.toList) (T:TypeId) :
  ∃ E',cU E' (w.alloc (.cells xs T (0,0))) a { st with mem:=c7 st.mem key (.box cs) }∧gE E w E' (w.alloc (.cells xs T (0,0)))∧cK E' (.ptr key 0) (.pointer (some ⟨w.heap.size,0,none⟩)):=by
 have hle:=Env.l4 (hs.free hk 0) (w.heap.size,0,0);have:=hs.new (obj:=.cells xs T (0,0)) (B:=.box cs) (e:=0) (c:=0) hk rfl ⟨w.heap.size,T,xs,if_pos ⟨rfl,rfl⟩,heap_alloc_new w _,hr.mono hle,fun o=>?_⟩;·exact⟨_,this.1,this.2,.ptr _ _ _ _ 0 0 (if_pos ⟨rfl,rfl⟩)⟩
 show E.F _=none;cases hx:E.F ⟨w.heap.size,o,none⟩ with | none=>rfl | some x=>have:=World.block_lt_of_cell? w _ (hs.F _ _ hx); simp at this

theorem cU.tz {E:Env} {w:World} {a:Act} {st:St} (hs:cU E w a st) {key:Nat} (hk:iR st.mem key) {xs:Array Value} {rs:List V} {e c:Nat} (T:TypeId) (lZ:xs.size=c*e) (hl:rs.length≤c)
  (hr:lI E.pure e rs (fun o=>xs[o]?)) :
  ∃ E',cU E' (w.alloc (.cells xs T (0,0))) a { st with mem:=c7 st.mem key (.rows 0 e rs) }∧gE E w E' (w.alloc (.cells xs T (0,0)))∧cK E' (.ms key 0 0 rs.length) (.slice (some ⟨w.heap.size,0,none⟩) rs.length c):=by
 have hle:=Env.l4 (hs.free hk 0) (w.heap.size,e,c);have:=hs.new (obj:=.cells xs T (0,0)) (B:=.rows 0 e rs) (e:=e) (c:=c) hk rfl (.inr ⟨w.heap.size,T,xs,c,if_pos ⟨rfl,rfl⟩,heap_alloc_new w _,lZ,hl,fun i row hi=>?_,fun o=>?_⟩);·exact⟨_,this.1,this.2,.ms _ _ _ _ _ w.heap.size e c _ _ (if_pos ⟨rfl,rfl⟩) (fun _=>by simp) (fun _=>⟨rfl,rfl⟩) ⟨hl,ct _,fun _=>by simp⟩⟩
 ·obtain⟨h1,h2⟩:=hr i row hi;exact⟨h1,fun j c' hj=>let ⟨x,hx,h1,hr⟩:=h2 j c' hj; ⟨x,hx,h1,hr.mono (Env.kp hle)⟩⟩
 show E.F _=none;cases hx:E.F ⟨w.heap.size,o,none⟩ with | none=>rfl | some x=>have:=World.block_lt_of_cell? w _ (hs.F _ _ hx); simp at this

theorem cU.Q1 {E:Env} {w:World} {a:Act} {st:St} (hs:cU E w a st) {key:Nat} (hk:iR st.mem key) (e:Nat):cU E w a { st with mem:=c7 st.mem key (.rows 0 e []) }:=by
 have hn:=hs.free hk;refine⟨hs.F,hs.lt,fun k B hB=>?_,fun k jA=>hs.top k ?_,fun k B hB v hv=>?_,hs.apart,hs.fr⟩;·rw [o3 hk.le] at hB;split at hB;(·rename_i fe; subst fe; cases hB; exact .inl ⟨rfl,hn 0⟩);exact hs.mem k B hB
 ·have:=si hk.le (.rows 0 e []); dsimp only at jA; omega
 dsimp only at hB;rw [o3 hk.le] at hB;split at hB;·rename_i fe; subst fe; exact hn v
 exact hs.dw k B hB v hv
end Go.Eng
end

section
namespace Go.Eng
variable [a6]
open Go.RowKit (Below)

def ju (xs:Array Value) (o:Nat):List Value→Array Value
 | []=>xs
 | v :: r=>ju (xs.setIfInBounds o v) (o+1) r
def jW (cs:List V) (o:Nat):List V→List V
 | []=>cs
 | v :: r=>jW (cs.set o v) (o+1) r

theorem k6 (vs:List Value):∀ (xs:Array Value) (o:Nat),(ju xs o vs).size=xs.size:=by induction vs with | nil=>intro xs o; rfl | cons v r ih=>intro xs o; simp [ju,ih]
theorem xX (vs:List V):∀ (cs:List V) (o:Nat),(jW cs o vs).length=cs.length:=by induction vs with | nil=>intro cs o; rfl | cons v r ih=>intro cs o; simp [jW,ih]
theorem wo {E:Env} (vs:List V):∀ (ys:List Value) (cs:List V) (xs:Array Value) (o:Nat),cz E vs ys→cz E cs xs.toList→cz E (jW cs o vs) (ju xs o ys).toList:=by induction vs with | nil=>intro ys cs xs o h k; have:=h.of_nil; subst this; exact k | cons v r ih =>intro ys cs xs o h k;obtain⟨y,ys,rfl,h1,h2⟩:=h.of_cons;exact ih ys _ _ _ h2 (by simpa using k.set o h1)
theorem jB (vs:List Value):∀ (xs:Array Value) (o k:Nat),o+vs.length≤xs.size→(ju xs o vs)[k]?=if o≤k∧k<o+vs.length then vs[k-o]? else xs[k]?:=by induction vs with | nil=>intro xs o k _; simp [ju]; intro h1 h2; omega | cons v r ih =>intro xs o k h;simp only [aD] at h;rw [ju,ih _ _ _ (by simp; omega)];by_cases h1:o+1≤k∧k<o+1+r.length;(·rw [if_pos h1,if_pos ⟨by omega,by simp; omega⟩];(have:k-o=(k-(o+1))+1:=by omega);rw [this,mg]);rw [if_neg h1];by_cases h2:k=o;(·subst h2;rw [if_pos ⟨aw _,by simp⟩];simp only [c5,fb];rw [Array.getElem?_setIfInBounds_self_of_lt (by omega)]);rw [if_neg (by simp only [aD]; omega),BA (fun e=>h2 e.symm)]
theorem DG (vs:List V):∀ (cs:List V) (o k:Nat),o+vs.length≤cs.length→(jW cs o vs)[k]?=if o≤k∧k<o+vs.length then vs[k-o]? else cs[k]?:=by induction vs with | nil=>intro xs o k _; simp [jW]; intro h1 h2; omega | cons v r ih =>intro xs o k h;simp only [aD] at h;rw [jW,ih _ _ _ (by simp; omega)];by_cases h1:o+1≤k∧k<o+1+r.length;(·rw [if_pos h1,if_pos ⟨by omega,by simp; omega⟩];(have:k-o=(k-(o+1))+1:=by omega);rw [this,mg]);rw [if_neg h1];by_cases h2:k=o;(·subst h2;rw [if_pos ⟨aw _,by simp⟩];simp only [c5,fb];rw [bw]; simp; omega);rw [if_neg (by simp only [aD]; omega),eE (fun e=>h2 e.symm)]

structure tA (w w':World) (g:Nat):Prop where
 os:w'.os=w.os
 tape:w'.tape=w.tape
 output:w'.output=w.output
 size:w'.heap.size=w.heap.size
 heap:∀ b,b≠g→w'.heap[b]?=w.heap[b]?

theorem kA {P:Program} {g:Nat} {T:TypeId} (o:Nat):∀ (vs:List Value) (i:Nat) (w:World) (xs:Array Value),w.heap[g]?=some (.cells xs T (0,0))→o+i+vs.length≤xs.size →
  (∀ v∈vs,v.oneCell'=true)→∃ w',(storeCells ⟨g,o,none⟩ vs i).run P w = .ok () w'∧w'.heap[g]?=some (.cells (ju xs (o+i) vs) T (0,0))∧tA w w' g:=by intro vs;induction vs with | nil=>intro i w xs hh _ _; exact⟨w,rfl,hh,rfl,rfl,rfl,rfl,fun _ _=>rfl⟩ | cons v r ih =>intro i w xs hh hl h1;simp only [aD] at hl;(have hc:w.cell? ⟨g,o+i,none⟩=some (xs[o+i]'(by omega)):=by rw [nM hh,bS]);(have hf:w.frozen? ⟨g,o+i,none⟩=false:=by simp [World.frozen?,hh]);(have QE:(w.setCell ⟨g,o+i,none⟩ v).heap[g]?=some (.cells (xs.setIfInBounds (o+i) v) T (0,0)):=by simp [World.setCell,an4,hh]);obtain⟨w',h2,h3,h4⟩:=ih (i+1) _ _ QE (by simp; omega) (fun v hv=>h1 v (bh _ hv));refine⟨w',?_,by rw [ju]; exact h3,h4.os,h4.tape,h4.output,by rw [h4.size]; simp,fun b hb=>(h4.heap b hb).trans (Go.RowKit.Below.heap_setCell w _ v b hb)⟩;rw [storeCells];simp only [Sem.run_bind,add_lit];rw [run_store P w _ v .plain (h1 v (bJ ..))];simp [stored,hc,hf,h2]

def BP:V→Bool
 | .sc v=>v.oneCell'
 | .undef=>false
 | .agg _=>false
 | .eC _=>false
 | _=>true
def k7:V→Option (List V)
 | .agg cs=>if cs.all BP then some cs else none
 | v=>if BP v then some [v] else none

theorem DH {E:Env} {c:V} {x:Value} (h:cK E c x) (ho:BP c=true):x.oneCell'=true:=by cases h <;> first | rfl | exact ho | simp [BP] at ho
theorem o4 {E:Env} {v:V} {x:Value} {cs:List V} (h:cK E v x) (hc:k7 v=some cs):cz E cs x.cells.toList∧∀ y∈x.cells.toList,y.oneCell'=true:=by
 have key:∀ (cs:List V) (xs:List Value),cz E cs xs→cs.all BP=true→∀ y∈xs,y.oneCell'=true:=by intro cs;induction cs with | nil=>intro xs h _ y hy; rw [h.of_nil] at hy; simp at hy | cons c r ih =>intro xs h ha y hy;obtain⟨x,ys,rfl,h1,h2⟩:=h.of_cons;simp only [cA,aN] at ha;(rcases cp.1 hy with rfl | hy);(·exact DH h1 ha.1);exact ih ys h2 ha.2 y hy
 unfold k7 at hc;split at hc;·split at hc;(·rename_i sj er;simp only [aB] at hc; subst hc;have:=h.cells (by simp) (by simp);exact⟨this,key _ _ this er⟩);simp at hc
 split at hc;·rename_i dK o0;simp only [aB] at hc; subst hc;have h1:x.oneCell'=true:=DH h o0;(have hx:x.cells = #[x]:=by cases x <;> first | rfl | simp [Value.oneCell'] at h1);rw [hx];exact⟨.cons h (.nil _),fun y hy=>by simp at hy; subst hy; exact h1⟩
 simp at hc

theorem cU.BQ {E:Env} {w:World} {a:Act} {st:St} (hs:cU E w a st) {g:Nat} (hf:∀ o,E.F ⟨g,o,none⟩=none) {ad:Addr} {x:Value} (hx:E.F ad=some x):ad.block≠g:=by
 intro he;have hc:=hs.F ad x hx;have QC:ad.spot=none:=by unfold World.cell? at hc;split at hc;(·split at hc;(·simp at hc);rename_i h; cases QC:ad.spot with | none=>rfl | some s=>simp [QC] at h);simp at hc
 have:ad=⟨g,ad.off,none⟩:=by cases ad; simp_all
 rw [this,hf] at hx;cases hx

theorem cU.DI {E:Env} {w w':World} {a:Act} {st:St} (hs:cU E w a st) {b g e c:Nat} {B B':ba} (hm:st.mem[b]?=some B) (hh:B.held=true) (Zc:B'.dw=B.dw) (hb:E.cj b B.dw=some (g,e,c)) (hf:∀ o,E.F ⟨g,o,none⟩=none)
  (ho:tA w w' g) (hB:ni E w' b B'):cU E w' a { st with mem:=st.mem.set b B' }∧gE E w E w':=by
 have bX:b<st.mem.length:=(ax.1 hm).1
 refine⟨⟨fun ad x hx=>?_,fun k v g' e' c' hk=>by rw [ho.size]; exact hs.lt _ _ _ _ _ hk,fun k B1 hk=>?_,fun k hk=>hs.top k (by simpa using hk),fun k B1 hk v hv=>?_,hs.apart,hs.fr⟩,
  E.le_refl,fun k v g e c h=>.inl ⟨k,v,e,c,h⟩,fun _ _ h=>.inl h,ho.os,ho.tape,ho.output,by rw [ho.size]; exact aw _,fun b' j9 dK=>ho.heap b' fun e=>by subst e; exact dK _ _ _ _ hb⟩
 ·have dK:=hs.BQ hf hx;have:w'.heap[ad.block]?=w.heap[ad.block]?:=ho.heap _ dK;rw [← hs.F ad x hx]; simp [World.cell?,this]
 ·rw [bw] at hk;by_cases kh:b=k;(·subst kh; simp only [if_true,bX] at hk; cases hk; exact hB);rw [if_neg kh] at hk;cases QF:B1.held with | false=>(cases B1 <;> first | exact hs.mem k _ hk | trivial | simp [ba.held] at QF) | true =>refine (hs.mem k B1 hk).mono E.le_refl (fun _ h=>h) (fun g' e' c' fA=>ho.heap _ fun e=>?_) fun _ _ _ _ _ h=>h;subst e;exact kh (hs.apart _ _ _ _ _ _ _ _ _ hb fA)
 dsimp only at hk;rw [bw] at hk;by_cases hqb:b=k;·subst hqb; simp only [if_true,bX] at hk; cases hk; exact hs.dw b B hm v (by omega)
 rw [if_neg hqb] at hk; exact hs.dw k B1 hk v hv

def iA:V→Bool
 | .gn=>true
 | .sc _=>true
 | .slice _=>true
 | .eL _=>true
 | .undef=>true
 | _=>false
theorem BR {E:Env} {v:V} {x:Value} (h:cK E v x) (hp:iA v=true):cK E.pure v x:=by cases h with | undef=>exact .undef _ _ | gn=>exact .gn _ | sc=>exact .sc _ _ | slice _ rows a cap sy ad xf ha mW hz hF h1 hR=>exact .slice _ _ _ _ sy ad xf ha mW hz hF h1 hR | eL _ cs ad xf hF hR=>exact .eL _ _ _ xf hF hR | _=>simp [iA] at hp

def setRow (row:V) (o:Nat) (new:List V):V :=
 match row with
 | .agg cs=>.agg (jW cs o new)
 | r=>match o,new with
  | 0,[c]=>c
  | _,_=>r

theorem BS {row:V} {o:Nat} {new:List V} (ho:o+new.length≤row.cells.length) (o0:new.all BP=true) (dK:new≠[]):(setRow row o new).cells=jW row.cells o new:=by cases row with | agg cs=>rfl | _ =>simp only [V.cells,aD,aM] at ho ⊢;match new,dK with | [c],_ =>((obtain rfl:o=0:=by simp at ho; omega);simp only [cA,dA,aK] at o0;cases c <;> first | rfl | simp [BP] at o0) | _ :: _ :: _,_=>simp at ho; omega

def mG (tt:Table) (mem:List ba) (T:TypeId) (p v:V):Option (List ba) :=
 match k7 v with
 | none=>none
 | some new =>
  if nK tt T=some new.length then
   match p with
   | .ptr b o=>match mem[b]? with
    | some (.box cs)=>if o+new.length≤cs.length then some (mem.set b (.box (jW cs o new))) else none
    | _=>none
   | .gC b v i o=>match mem[b]? with
    | some (.rows v' e rs)=>match rs[i]? with
     | some row=>if v'=v∧o+new.length≤row.cells.length∧new≠[]∧new.all iA=true∧new.all BP=true then some (mem.set b (.rows v' e (rs.set i (setRow row o new)))) else none
     | none=>none
    | _=>none
   | _=>none
  else none
instance (new:List V):Decidable (new≠[]):=match new with | []=>.isFalse (by simp) | _ :: _=>.isTrue (by simp)

theorem cz.pure {E:Env}:∀ {vs:List V} {xs:List Value},cz E vs xs→vs.all iA=true→cz E.pure vs xs
 | [],xs,h,_=>by rw [h.of_nil]; exact .nil _
 | v :: vs,xs,h,hp=>by
  obtain⟨x,ys,rfl,h1,h2⟩:=h.of_cons
  simp only [cA,aN] at hp
  exact .cons (BR h1 hp.1) (cz.pure h2 hp.2)

theorem tB {P:Program} {tt:Table} (ht:TT P tt) {E:Env} {w:World} {a:Act} {st:St} (hs:cU E w a st) {T:TypeId} {p v:V} {x y:Value} {bM:List ba} (hp:cK E p x) (hv:cK E v y)
  (h:mG tt st.mem T p v=some bM):∃ w',(Instr.storeAt T x y).run P w = .ok () w'∧cU E w' a { st with mem:=bM }∧gE E w E w':=by
 unfold mG at h;split at h;·simp at h
 rename_i new ob;obtain⟨hr,o0⟩:=o4 hv ob;split at h
 ·rename_i lZ;have hlen:y.cells.size=new.length:=by have:=hr.1; simp at this; exact this.symm
  have fZ:∀ {g o:Nat} {xs:Array Value} {T':TypeId},w.heap[g]?=some (.cells xs T' (0,0))→o+new.length≤xs.size →
    ∃ w',(Instr.storeAt T (.pointer (some ⟨g,o,none⟩)) y).run P w = .ok () w'∧w'.heap[g]?=some (.cells (ju xs o y.cells.toList) T' (0,0))∧tA w w' g:=fun {g o xs T'} hh hle=>by
   obtain⟨w',h1,h2,h3⟩:=kA (P:=P) o y.cells.toList 0 w xs hh (by have:=hr.1; simp at this ⊢; omega) o0
   refine⟨w',?_,by simpa using h2,h3⟩
   unfold nK at lZ
   split at lZ
   ·rename_i i hi
    simp only [aB] at lZ
    simp only [Instr.storeAt,Instr.sureAddr,Sem.run_bind,Sem.run_pure,Result.andThen_ok,storeVar,ht.sizeOf hi,hlen,lZ,ne_eq,not_true_eq_false,if_false]
    exact h1
   simp at lZ
  split at h;·rename_i b o;split at h;(·rename_i cs hm;split at h;(·rename_i hle;simp only [aB] at h; subst h;cases hp with | ptr _ _ _ g e c hb =>obtain⟨g',T',xs,j9,hh,AU,hf⟩:=hs.mem b _ hm;rw [hb] at j9; cases j9;obtain⟨w',h1,h2,h3⟩:=fZ (o:=o) hh (by have:=AU.1; simp at this; omega);exact⟨w',h1,hs.DI hm rfl rfl hb hf h3 ⟨g,T',_,hb,h2,wo _ _ _ _ _ hr AU,hf⟩⟩);simp at h);simp at h
  ·rename_i b vv i o;split at h;(·rename_i v' e rs hm;split at h;(·rename_i row vg;split at h;(·rename_i qi;obtain⟨rfl,hle,dK,AV,Zd⟩:=qi;simp only [aB] at h; subst h;cases hp with | gC _ _ _ _ _ g e' c hb =>(rcases hs.mem b _ hm with ⟨rfl,-⟩ | ⟨g',T',xs,c',j9,hh,u6,n9,AU,hf⟩);(·simp at vg);rw [hb] at j9; cases j9;obtain⟨rV,hrc⟩:=AU i row vg;have hi:i<rs.length:=(ax.1 vg).1;(have hmul:i*e+e≤xs.size:=by rw [u6,← mR]; exact kJ e (by omega));obtain⟨w',h1,h2,h3⟩:=fZ (o:=i*e+o) hh (by omega);refine⟨w',h1,hs.DI hm rfl rfl hb hf h3 (.inr ⟨g,T',_,c,hb,h2,by rw [k6]; exact u6,by simpa using n9,?_,hf⟩)⟩;have hyl:y.cells.toList.length=new.length:=hr.1.symm;intro i' afd DJ;rw [bw] at DJ;by_cases hii:i=i';(·subst hii;simp only [if_true,hi] at DJ;cases DJ;have hc:=BS hle Zd dK;refine⟨by rw [hc,xX]; exact rV,fun j cc hj=>?_⟩;rw [hc,DG _ _ _ _ hle] at hj;dsimp only;rw [jB _ _ _ _ (by rw [hyl]; omega),hyl];by_cases n8:o≤j∧j<o+new.length;(·rw [if_pos n8] at hj;rw [if_pos ⟨by omega,by omega⟩];obtain⟨z,hz,hzr⟩:=(hr.pure AV).get hj;exact⟨z,by rw [← hz]; congr 1; omega,o0 z (ay hz),hzr⟩);rw [if_neg n8] at hj;rw [if_neg (by omega)];exact hrc j cc hj);rw [if_neg hii] at DJ;obtain⟨h5,h6⟩:=AU i' afd DJ;refine⟨h5,fun j cc hj=>?_⟩;obtain⟨z,hz,Va,hzr⟩:=h6 j cc hj;(have Gb:j<e:=by rw [← h5]; exact (ax.1 hj).1);refine⟨z,?_,Va,hzr⟩;dsimp only;rw [jB _ _ _ _ (by rw [hyl]; omega),hyl,if_neg ?_];(·exact hz);intro n8;(rcases Nat.lt_or_gt_of_ne hii with bX | hgt);(·have:(i+1)*e≤i'*e:=kJ e bX;rw [mR] at this;omega);have:(i'+1)*e≤i*e:=kJ e hgt;rw [mR] at this;omega);simp at h);simp at h);simp at h
  simp at h
 simp at h
end Go.Eng
end

section
namespace Go.Eng
variable [a6]
open Go.RowKit (Below)

def wq (E:Env) (e:Nat) (rs:List V) (ys:Array Value):Prop:=ys.size=rs.length*e∧lI E e rs (fun o=>ys[o]?)

theorem xY {i n j e:Nat} (hi:i<n) (hj:j<e):i*e+j<n*e:=by have:(i+1)*e≤n*e:=kJ e hi;rw [mR] at this; omega

theorem AW {P:Program} {E:Env} {w:World} {ad:Addr} {rows:List V} {size:Nat} (hz:∀ (i:Nat) (row:V),rows[i]?=some row→row.cells.length=size)
  (h:∀ (i:Nat) (row:V) (j:Nat) (c:V),rows[i]?=some row→row.cells[j]?=some c→∃ x,w.cell? (ad.add (i*size+j))=some x∧x.oneCell'=true∧cK E c x) :
  ∃ ys:Array Value,(loadCells ad (rows.length*size)).run P w = .ok ys w∧wq E size rows ys:=by
 let f:Nat→Value:=fun k=>(w.cell? (ad.add k)).getD default;have hf:∀ k,k<rows.length*size→w.cell? (ad.add k)=some (f k):=fun k hk=>by (have hs:0<size:=Nat.pos_of_ne_zero fun e=>by subst e; simp at hk);(have hi:k / size<rows.length:=by rwa [an5 hs]);have hj:k % size<size:=anf _ hs;have vg:=ah hi;have n9:=hz _ _ vg;obtain⟨x,hx,-⟩:=h _ _ (k % size) _ vg (ah (by rw [n9]; exact hj));rw [Nat.mul_comm,anH] at hx;simp [f,hx]
 refine⟨((List.range (rows.length*size)).map f).toArray,run_loadCells w ad _ f hf,by simp,fun i row hi=>⟨hz i row hi,fun j c hj=>?_⟩⟩;obtain⟨x,hx,h1,hr⟩:=h i row j c hi hj;have eU:i<rows.length:=(ax.1 hi).1;have Gb:j<size:=by rw [← hz i row hi]; exact (ax.1 hj).1
 refine⟨x,?_,h1,hr⟩;have:=xY eU Gb;simp [this,f,hx]

def rowsOf (mem:List ba) (size:Nat):V→Option (List V)
 | .slice rows=>if dx rows 0 size=true then some rows else none
 | .ms b v s l=>match mem[b]? with
  | some (.rows v' e rs)=>if v'=v∧e=size∧s+l≤rs.length then some ((rs.drop s).take l) else none
  | some (.tv v' e rs)=>if v'=v∧e=size∧s+l≤rs.length then some ((rs.drop s).take l) else none
  | _=>none
 | .sc (.slice none 0 0)=>some []
 | _=>none

theorem xu {rs:List V} {s l i:Nat} {row:V} (h:((rs.drop s).take l)[i]?=some row):rs[s+i]?=some row:=by
 rw [lX] at h;split at h;·simpa using h
 simp at h

theorem iS {P:Program} {E:Env} {w:World} {a:Act} {st:St} (hs:cU E w a st) {size:Nat} {v:V} {x:Value} {rows:List V} (hr:cK E v x) (h:rowsOf st.mem size v=some rows) :
  ∃ aa cap,x = .slice aa rows.length cap∧rows.length≤cap∧∃ ys:Array Value,(Builtin.firstCells size rows.length x).run P w = .ok ys w∧wq E.pure size rows ys:=by
 have BT:∀ n,n=0→∃ ys:Array Value,(Builtin.firstCells size n (.slice none n 0)).run P w = .ok ys w∧wq E.pure size [] ys:=fun n hn=>by subst hn;exact⟨#[],rfl,by simp,fun i row hi=>by simp at hi⟩
 unfold rowsOf at h;split at h;·rename_i nm;split at h;(·rename_i vk;simp only [aB] at h; subst h;cases hr with | slice _ _ aa cap sy ad xf ha mW hz hF o0 hR =>refine⟨aa,cap,rfl,mW,?_⟩;cases ml:nm with | nil =>(subst ml;cases aa with | none=>exact BT 0 rfl | some a0=>exact⟨#[],by simp [Builtin.firstCells,loadCells,loadCellsFrom],by simp,fun i row hi=>by simp at hi⟩) | cons r0 rr =>(have dK:nm≠[]:=by simp [ml]);(have he:sy=size:=by unfold dx at vk;(have h0:nm[0]?=some r0:=by simp [ml]);rw [h0] at vk;simp only [beq_iff_eq] at vk;rw [← vk,hz 0 _ h0]);subst he;obtain rfl:=ha dK;rw [← ml];exact AW (P:=P) hz fun i row j c hi hj=>⟨_,hs.F _ _ (hF i row j c hi hj),o0 i row j c hi hj,hR i row j c hi hj⟩);simp at h
 ·rename_i b v s l
  have Vb:∀ (rs:List V),s+l≤rs.length→rows=(rs.drop s).take l→(∀ g e c,E.cj b v=some (g,e,c)→e=size∧lI E.pure size rs (fun o=>w.cell? ⟨g,o,none⟩)) →
    ∃ aa cap,x = .slice aa rows.length cap∧rows.length≤cap∧∃ ys:Array Value,(Builtin.firstCells size rows.length x).run P w = .ok ys w∧wq E.pure size rows ys:=by
   intro rs hl ml hb
   have hlen:rows.length=l:=by rw [ml]; simp; omega
   cases hr with
   | iz =>
    have:rows=[]:=cd.1 hlen
    subst this
    exact⟨none,0,rfl,aw _,BT 0 rfl⟩
   | ms _ _ _ _ _ g e c aa cap fA hla Qz AS =>
    obtain⟨rfl,Ze⟩:=hb g e c fA
    rw [← hlen]
    refine⟨aa,cap,rfl,by omega,?_⟩
    by_cases U7:0<l
    ·obtain rfl:=hla U7
     refine AW (P:=P) (fun i row hi=>?_) fun i row j c hi hj=>?_
     ·rw [ml] at hi; exact (Ze _ _ (xu hi)).1
     rw [ml] at hi
     obtain⟨x,hx,h1,h2⟩:=(Ze _ _ (xu hi)).2 j c hj
     exact⟨x,by rw [add_lit,← hx]; congr 2; rw [iL]; omega,h1,h2⟩
    have:rows=[]:=cd.1 (by omega)
    subst this
    cases aa with
    | none=>exact⟨#[],rfl,by simp,fun i row hi=>by simp at hi⟩
    | some a0=>exact⟨#[],by simp [Builtin.firstCells,loadCells,loadCellsFrom],by simp,fun i row hi=>by simp at hi⟩
  split at h;·rename_i v' e rs hm;split at h;(·rename_i hc;obtain⟨rfl,hc⟩:=hc;simp only [aB] at h;refine Vb rs hc.2 h.symm fun g e' c hb=>?_;(rcases hs.mem b _ hm with ⟨-,hn⟩ | ⟨g',T',xs,c',j9,hh,-,-,AU,-⟩);(·rw [hb] at hn; cases hn);rw [hb] at j9; cases j9;refine⟨hc.1,?_⟩;rw [hc.1] at AU;intro i row hi;obtain⟨h1,h2⟩:=AU i row hi;exact⟨h1,fun j c hj=>by dsimp only; rw [nM hh]; exact h2 j c hj⟩);simp at h
  ·rename_i v' e rs hm;split at h;(·rename_i hc;obtain⟨rfl,hc⟩:=hc;simp only [aB] at h;refine Vb rs hc.2 h.symm fun g e' c hb=>?_;(rcases hs.mem b _ hm with ⟨-,hn⟩ | ⟨g',c',j9,-,AU⟩);(·rw [hb] at hn; cases hn);rw [hb] at j9; cases j9;refine⟨hc.1,?_⟩;rw [hc.1] at AU;intro i row hi;obtain⟨h1,h2⟩:=AU i row hi;exact⟨h1,fun j c hj=>let ⟨x,hx,h⟩:=h2 j c hj; ⟨x,hs.F _ _ hx,h⟩⟩);simp at h
  simp at h
 ·simp only [aB] at h; subst h;obtain rfl:=fY hr;exact⟨none,0,rfl,aw _,BT 0 rfl⟩
 simp at h

def jX:V→V
 | .sc (.slice none 0 0)=>.slice []
 | v=>v
theorem oC {E:Env} {v:V} {x:Value} (h:cK E v x):cK E (jX v) x:=by
 unfold jX;split;·obtain rfl:=fY h;exact .slice _ [] none 0 0 default (fun _ _=>default) (by simp) (by simp) (by simp) (by simp) (by simp) (by simp)
 exact h
def Gv:V→V
 | .agg cs=>.agg (cs.map jX)
 | v=>jX v
theorem Gw {v:V} {cs:List V} (h:k7 v=some cs):(Gv v).cells=cs.map jX:=by
 unfold k7 at h;split at h;·split at h;(·simp only [aB] at h; subst h; rfl);simp at h
 rename_i dK;split at h;·simp only [aB] at h; subst h;(cases v <;> first | exact absurd rfl (dK _) | rfl | skip);rename_i v;simp only [Gv,jX,cB,dY];split <;> rfl
 simp at h
theorem cz.jX {E:Env}:∀ {vs:List V} {xs:List Value},cz E vs xs→cz E (vs.map jX) xs
 | [],xs,h=>h
 | v :: vs,xs,h=>by
  obtain⟨x,ys,rfl,h1,h2⟩:=h.of_cons
  exact .cons (oC h1) (cz.jX h2)

def ri (size:Nat):List V→Option (List V)
 | []=>some []
 | v :: r=>match k7 v with
  | some cs=>if cs.length=size∧cs.all iA=true then (match ri size r with | some rs=>some (Gv v :: rs) | none=>none) else none
  | none=>none

def qj:Nat→List (Nat×Operand)→Bool
 | _,[]=>true
 | k,(i,_) :: r=>i==k&&qj (k+1) r

theorem wu (off:Nat):∀ (l:List Value) (n:Nat) (cs:Array Value),(l.zipIdx n).foldl (fun cs (x:Value×Nat)=>cs.setIfInBounds (off+x.2) x.1) cs=ju cs (off+n) l:=by intro l;induction l with | nil=>intro n cs; rfl | cons v r ih=>intro n cs; rw [List.zipIdx_cons,eZ,ih,ju,nH]

theorem LW {E:Env} {size:Nat}:∀ (parts:List (Nat×Operand)) (k:Nat) (ev:Operand→V) (av:Operand→Value) (Z:Array Value) (rs:List V),(∀ p∈parts,cK E (ev p.2) (av p.2))→qj k parts=true →
  ri size (parts.map fun p=>ev p.2)=some rs→(k+parts.length)*size≤Z.size →
  ∃ Z',Instr.fill (fun i=>some (i*size,size)) Z (parts.map fun p=>(p.1,av p.2))=some Z'∧Z'.size=Z.size∧rs.length=parts.length∧(∀ o,o<k*size→Z'[o]?=Z[o]?) ∧
   lI E.pure size rs (fun o=>Z'[k*size+o]?):=by intro parts;induction parts with | nil =>intro k ev av Z rs _ _ hl _;simp only [dY,ri,aB] at hl; subst hl;exact⟨Z,rfl,rfl,rfl,fun _ _=>rfl,fun i row hi=>by simp at hi⟩ | cons p r ih =>intro k ev av Z rs mm JR hl lZ;obtain⟨i,o⟩:=p;simp only [qj,aN,beq_iff_eq] at JR;obtain⟨rfl,JR⟩:=JR;simp only [cB,ri] at hl;split at hl;(·rename_i cs BB;split at hl;(·rename_i hc;split at hl;(·rename_i mo Vc;simp only [aB] at hl; subst hl;obtain⟨hr,o0⟩:=o4 (mm (i,o) (bJ ..)) BB;(have Ts:(av o).cells.size=size:=by have:=hr.1; simp at this; omega);simp only [aD] at lZ;(have hmul:i*size+size≤Z.size:=by have:(i+1)*size≤(i+(r.length+1))*size:=kJ _ (by omega);rw [mR] at this; omega);obtain⟨Z',h1,h2,h3,h4,h5⟩:=ih (i+1) ev av (ju Z (i*size) (av o).cells.toList) mo (fun p hp=>mm p (bh _ hp)) JR Vc (by rw [k6]; rw [show i+1+r.length=i+(r.length+1) from by omega]; exact lZ);(have hlen:(av o).cells.toList.length=size:=by simpa using Ts);(have QC:∀ q,(ju Z (i*size) (av o).cells.toList)[q]?=if i*size≤q∧q<i*size+size then (av o).cells.toList[q-i*size]? else Z[q]?:=fun q=>by rw [jB _ _ _ _ (by rw [hlen]; exact hmul),hlen]);refine⟨Z',?_,by rw [h2,k6],by simp [h3],fun q hq=>?_,fun q row hq=>?_⟩;(·simp only [cB,Instr.fill,Ts];rw [if_neg (by simp; omega)];rw [← h1];congr 1;rw [← ans,an0];exact wu (i*size) (av o).cells.toList 0 Z);(·rw [h4 q (by rw [mR]; omega),QC,if_neg (by omega)]);cases q with | zero =>simp only [fb,aB] at hq; subst hq;rw [Gw BB];refine⟨by simpa using hc.1,fun j c hj=>?_⟩;(have Gb:j<size:=by rw [← hc.1]; simpa using (ax.1 hj).1);obtain⟨x,hx,JQ⟩:=(hr.pure hc.2).jX.get hj;refine⟨x,?_,o0 x (ay hx),JQ⟩;dsimp only;rw [Nat.zero_mul,ct,h4 _ (by rw [mR]; omega),QC,if_pos ⟨by omega,by omega⟩,← hx];congr 1; omega | succ q =>simp only [mg] at hq;obtain⟨h6,h7⟩:=h5 q row hq;refine⟨h6,fun j c hj=>?_⟩;obtain⟨x,hx,Lz,JQ⟩:=h7 j c hj;refine⟨x,?_,Lz,JQ⟩;dsimp only at hx ⊢;rw [← hx];congr 1;rw [mR,mR]; omega);simp at hl);simp at hl);simp at hl

def vl (tt:Table) (T:TypeId) (len:Nat) (parts:List (Nat×Operand)) (ev:Operand→V):Option (Nat×List V) :=
 match iM tt T with
 | some e=>match nK tt e with
  | some size=>if qj 0 parts=true∧parts.length=len∧len*size≤65536 then (match ri size (parts.map fun p=>ev p.2) with | some rs=>some (size,rs) | none=>none) else none
  | none=>none
 | none=>none

theorem BU {P:Program} {tt:Table} (ht:TT P tt) {E:Env} {w:World} {a:Act} {ev:Operand→V} {T:TypeId} {len size:Nat} {parts:Array (Nat×Operand)} {rs:List V} (gD:∀ p∈parts.toList,cK E (ev p.2) (a.eval p.2))
  (h:vl tt T len parts.toList ev=some (size,rs)) :
  ∃ (Z:Array Value) (e:TypeId),(Instr.buildSlice T len (parts.map fun (i,x)=>(i,a.eval x))).run P w = .ok (.slice (some ⟨w.heap.size,0,none⟩) len len) (w.alloc (.cells Z e (0,0)))∧Z.size=len*size∧rs.length=len∧lI E.pure size rs (fun o=>Z[o]?):=by unfold vl iM nK at h;cases hT:tt T with | none=>rw [hT] at h; simp at h | some iT =>rw [hT] at h; simp only at h;cases he:iT.elem with | none=>rw [he] at h; simp at h | some e =>rw [he] at h; simp only at h;cases hE:tt e with | none=>rw [hE] at h; simp at h | some ie =>rw [hE] at h; simp only at h;split at h;(·rename_i hc;obtain⟨JR,hlen,akc⟩:=hc;split at h;(·rename_i mo LX;simp only [aB,dQ] at h;obtain⟨rfl,rfl⟩:=h;obtain⟨d,hd,-,BF,-⟩:=ht.desc T iT hT;obtain rfl:=BF e he;obtain⟨info,Ao,Tt,-,z,hz,DK⟩:=ht.size e ie hE;(have hzero:∀ w':World,(zeroValue e).run P w' = .ok z w':=fun w'=>by simp [zeroValue,gg Ao,hz]);obtain⟨zc,hzc⟩:∃ zc:Array Value,zc=if len*ie.size=0 then #[] else z.cells:=⟨_,rfl⟩;obtain⟨Z',h1,h2,h3,-,h5⟩:=LW (size:=ie.size) parts.toList 0 ev a.eval ((Array.range (len*ie.size)).map (zc[· % zc.size]!)) mo gD JR LX (by simp [hlen]);refine⟨Z',e,?_,by simpa using h2,by omega,by simpa using h5⟩;(have sC:(parts.map fun (i,x)=>(i,a.eval x)).toList=parts.toList.map fun p=>(p.1,a.eval p.2):=by simp);unfold Instr.buildSlice;simp only [Sem.run_bind,bn hd,Result.andThen_ok,ht.sizeOf hE];rw [if_neg (by omega)];by_cases h0:len*ie.size=0;(·simp only [h0,if_true,Sem.run_pure,Result.andThen_ok,sC];rw [if_pos h0] at hzc;subst hzc;rw [h0] at h1;simp only [Sem.run_bind,Sem.run_pure,Result.andThen_ok,sC];simp only [h1];simp [newRow]);simp only [h0,if_false,Sem.run_bind,hzero,Sem.run_pure,Result.andThen_ok,sC];rw [if_neg h0] at hzc;subst hzc;simp only [h1];simp [newRow]);simp at h);simp at h
end Go.Eng
end

section
namespace Go.Eng
variable [a6]
open Go.RowKit (Below)

section
variable {P:Program} {w:World}
theorem xZ {t u ty e e':TypeId} {i:TypeInfo} (ht:P.underlying t=some (.slice e)) (hu:P.underlying u=some (.slice e')) (hi:P.info? e=some i) (g pU jd n c:Nat) (aa:Option Addr) (news:Array Value)
  (hf:(Builtin.firstCells i.size n (.slice aa n c)).run P w = .ok news w) (tC:pU+n≤jd) {w':World} (vi:(storeCells ⟨g,pU*i.size,none⟩ news.toList).run P w = .ok () w') :
  (Builtin.append_ #[t,u] ty #[.slice (some ⟨g,0,none⟩) pU jd,.slice aa n c]).run P w = .ok (.slice (some ⟨g,0,none⟩) (pU+n) jd) w':=by simp [Builtin.append_,bn ht,bn hu,gG hi,Builtin.lenOf,tC,hf,add_lit,vi]

theorem jv {t u ty e e':TypeId} {i:TypeInfo} (ht:P.underlying t=some (.slice e)) (hu:P.underlying u=some (.slice e')) (hi:P.info? e=some i) (c:Nat) (aa:Option Addr) (news:Array Value)
  (hf:(Builtin.firstCells i.size 0 (.slice aa 0 c)).run P w = .ok news w) :
  (Builtin.append_ #[t,u] ty #[.slice none 0 0,.slice aa 0 c]).run P w = .ok (.slice none 0 0) w:=by simp [Builtin.append_,bn ht,bn hu,gG hi,Builtin.lenOf,hf]

theorem k8 {t u ty e e':TypeId} {i:TypeInfo} {z:Value} (ht:P.underlying t=some (.slice e)) (hu:P.underlying u=some (.slice e')) (hi:P.info? e=some i) (hz:i.zero=some z) (base:Option Addr) (pU jd n c:Nat)
  (aa:Option Addr) (Zf news:Array Value) (Zg:(Builtin.firstCells i.size pU (.slice base pU jd)).run P w.drew = .ok Zf w.drew) (hf:(Builtin.firstCells i.size n (.slice aa n c)).run P w.drew = .ok news w.drew)
  (hg:jd<pU+n) (h63:((pU+n:Nat):Int)≤9223372036854775807) (Au:Builtin.nextslicecap (pU+n) jd*i.bytes≤281474976710656) :
  (Builtin.append_ #[t,u] ty #[.slice base pU jd,.slice aa n c]).run P w =
   .ok (.slice (some ⟨w.heap.size,0,none⟩) (pU+n) (grownCap w (pU+n) jd e))
    (w.drew.alloc (.cells (Zf++news++Builtin.zeroCells z.cells (grownCap w (pU+n) jd e-(pU+n))) e)):=by
 have hn:¬ (pU+n≤jd):=by omega
 have afg:¬ (9223372036854775807<((pU:Int)+(n:Int))):=by omega
 have afh:¬ (281474976710656<Builtin.nextslicecap (pU+n) jd*i.bytes):=by omega
 simp [Builtin.append_,bn ht,bn hu,gg hi,gG hi,zeroValue,hz,Builtin.lenOf,hn,afg,afh,Question.forced,hf,Zg,newRow,grownCap]
end

def qk (mem:List ba) (size:Nat):V→Option (Option (Nat×Nat)×List V)
 | .sc (.slice none 0 0)=>some (none,[])
 | .full rows=>if dx rows 0 size=true then some (none,rows) else none
 | .ms b v 0 l=>match mem[b]? with
  | some (.rows v' e rs)=>if v'=v∧e=size∧rs.length=l then some (some (b,v),rs) else none
  | _=>none
 | _=>none

def DL:V→List V→Bool
 | .full _,[]=>false
 | _,_=>true
theorem LY (b v s l:Nat) (xs:List V):DL (.ms b v s l) xs=true:=rfl
theorem LZ (v:Value) (xs:List V):DL (.sc v) xs=true:=rfl
theorem Gx (v x:V) (xs:List V):DL v (x :: xs)=true:=by cases v <;> rfl
def iw (tt:Table) (mem:List ba) (ts:List TypeId) (s x:V):Option (Nat×Option (Nat×Nat)×List V) :=
 match ts with
 | [t,u]=>match tt t with
  | some it=>match it.elem with
   | some e=>match iM tt u with
    | some _=>match tt e with
     | some i =>
      if 0<i.size∧i.bytes≤4096∧i.zero.length=i.size then
       match qk mem i.size s with
       | some (sD,rs)=>match rowsOf mem i.size x with
        | some xs=>if rs.length+xs.length≤34359738368 then (if DL s xs=true then some (i.size,sD,rs++xs) else none) else none
        | none=>none
       | none=>none
      else none
     | none=>none
    | none=>none
   | none=>none
  | none=>none
 | _=>none

def fM (mem:List ba) (key size:Nat) (rows:List V):Option (Nat×Nat)→List ba×V
 | none=>(c7 mem key (.rows 0 size rows),.ms key 0 0 rows.length)
 | some (b,v)=>(mem.set b (.rows (v+1) size rows),.ms b (v+1) 0 rows.length)

theorem cU.renew {E:Env} {w w':World} {a:Act} {st:St} (hs:cU E w a st) {b v e0 g e c:Nat} {rs rows:List V} (hm:st.mem[b]?=some (.rows v e0 rs)) (hF:∀ ad x,E.F ad=some x→w'.cell? ad=some x) (lZ:w.heap.size≤w'.heap.size)
  (hg:g<w'.heap.size) (Vd:∀ k B',k≠b→st.mem[k]?=some B'→B'.held=true→∀ g' e' c',E.cj k B'.dw=some (g',e',c')→w'.heap[g']?=w.heap[g']?∧g'≠g)
  (hB:ni (E.with b (v+1) (g,e,c)) w' b (.rows (v+1) e rows)) (xv:∀ k v' e' c',E.cj k v'=some (g,e',c')→k=b):cU (E.with b (v+1) (g,e,c)) w' a { st with mem:=st.mem.set b (.rows (v+1) e rows) }:=by
 have hn:∀ v',v<v'→E.cj b v'=none:=fun v' xR=>hs.dw b _ hm v' xR;have hle:E.le (E.with b (v+1) (g,e,c)):=Env.l4 (hn _ (kW v)) _;have fg:(E.with b (v+1) (g,e,c)).cj b (v+1)=some (g,e,c):=if_pos ⟨rfl,rfl⟩;have gI:∀ k v',¬ (k=b∧v'=v+1)→(E.with b (v+1) (g,e,c)).cj k v'=E.cj k v':=fun k v' dK=>if_neg dK;have QD:∀ k v',k≠b→(E.with b (v+1) (g,e,c)).cj k v'=E.cj k v':=fun k v' dK=>gI k v' fun h=>dK h.1;have bX:b<st.mem.length:=(ax.1 hm).1;have js:∀ (k:Nat) (B:ba),(st.mem.set b (.rows (v+1) e rows))[k]?=some B→(k=b∧B = .rows (v+1) e rows)∨(k≠b∧st.mem[k]?=some B):=fun k B hk=>by rw [bw] at hk;by_cases kh:b=k;(·subst kh; simp only [if_true,bX] at hk; cases hk; exact .inl ⟨rfl,rfl⟩);rw [if_neg kh] at hk; exact .inr ⟨fun e=>kh e.symm,hk⟩
 refine⟨hF,fun k v' g' e' c' hb=>?_,fun k B hk=>?_,fun k hk v'=>?_,fun k B hk v' xR=>?_,fun k k' v1 v2 g' e1 c1 e2 c2 h5 h6=>?_,hs.fr.mono hle⟩;·by_cases hq:k=b∧v'=v+1;(·obtain⟨rfl,rfl⟩:=hq; rw [fg] at hb; cases hb; exact hg);rw [gI k v' hq] at hb; exact pI (hs.lt _ _ _ _ _ hb) lZ
 ·(rcases js k B hk with ⟨rfl,rfl⟩ | ⟨kh,jA⟩);(·exact hB);cases QF:B.held with | false =>(have:=hs.mem k B jA;cases B with | hole=>(exact fun v'=>by rw [QD k v' kh]; exact this v') | dead=>trivial | _=>simp [ba.held] at QF) | true=>exact (hs.mem k B jA).mono hle (fun v' h=>by rw [QD k v' kh]; exact h) (fun g' e' c' fA=>(Vd k B kh jA QF g' e' c' fA).1) fun _ _ _ _ _ h=>h
 ·(have jA:st.mem.length≤k:=by simpa using hk);rw [QD k v' (by omega)]; exact hs.top k jA v'
 ·(rcases js k B hk with ⟨rfl,rfl⟩ | ⟨kh,jA⟩);(·have:v+1<v':=xR;rw [gI k v' (by omega)]; exact hn v' (by omega));rw [QD k v' kh]; exact hs.dw k B jA v' xR
 by_cases hq:k=b∧v1=v+1 <;> by_cases QG:k'=b∧v2=v+1;·rw [hq.1,QG.1]
 ·obtain⟨rfl,rfl⟩:=hq; rw [fg] at h5; cases h5; rw [gI k' _ QG] at h6; exact (xv _ _ _ _ h6).symm
 ·obtain⟨rfl,rfl⟩:=QG; rw [fg] at h6; cases h6; rw [gI k _ hq] at h5; exact xv _ _ _ _ h5
 rw [gI k _ hq] at h5; rw [gI k' _ QG] at h6;exact hs.apart _ _ _ _ _ _ _ _ _ h5 h6

theorem cU.DN {E:Env} {w:World} {a:Act} {st:St} (hs:cU E w a st) {b v e0 e:Nat} {rs:List V} (hm:st.mem[b]?=some (.rows v e0 rs)):cU E w a { st with mem:=st.mem.set b (.rows (v+1) e []) }:=by
 have hn:∀ v',v<v'→E.cj b v'=none:=fun v' xR=>hs.dw b _ hm v' xR;have bX:b<st.mem.length:=(ax.1 hm).1;have js:∀ (k:Nat) (B:ba),(st.mem.set b (.rows (v+1) e []))[k]?=some B→(k=b∧B = .rows (v+1) e [])∨(k≠b∧st.mem[k]?=some B):=fun k B hk=>by rw [bw] at hk;by_cases kh:b=k;(·subst kh; simp only [if_true,bX] at hk; cases hk; exact .inl ⟨rfl,rfl⟩);rw [if_neg kh] at hk; exact .inr ⟨fun e=>kh e.symm,hk⟩
 refine⟨hs.F,hs.lt,fun k B hk=>?_,fun k hk v'=>hs.top k (by simpa using hk) v',fun k B hk v' xR=>?_,hs.apart,hs.fr⟩;·(rcases js k B hk with ⟨rfl,rfl⟩ | ⟨kh,jA⟩);(·exact .inl ⟨rfl,hn _ (kW v)⟩);exact hs.mem k B jA
 rcases js k B hk with ⟨rfl,rfl⟩ | ⟨kh,jA⟩
 ·exact hn v' (Nat.lt_of_succ_lt xR)
 exact hs.dw k B jA v' xR

theorem l5 {E:Env} {e:Nat} {rs xs:List V} {A B C:Array Value} (h1:wq E e rs A) (h2:wq E e xs B):lI E e (rs++xs) (fun o=>(A++B++C)[o]?):=by
 intro i row hi;rw [Tn] at hi;split at hi;·rename_i bX;obtain⟨h3,h4⟩:=h1.2 i row hi;refine⟨h3,fun j c hj=>?_⟩;obtain⟨x,hx,hr⟩:=h4 j c hj;dsimp only at hx;have Ve:i*e+j<A.size:=(dp.1 hx).1;refine⟨x,?_,hr⟩;dsimp only;rw [anV,anD Ve,hx]
 rename_i jw;obtain⟨h3,h4⟩:=h2.2 (i-rs.length) row hi;refine⟨h3,fun j c hj=>?_⟩;obtain⟨x,hx,hr⟩:=h4 j c hj;dsimp only at hx;have Ve:(i-rs.length)*e+j<B.size:=(dp.1 hx).1;refine⟨x,?_,hr⟩;dsimp only;have hmul:i*e=A.size+(i-rs.length)*e:=by rw [h1.1,← iL]; congr 1; omega
 rw [anV,aoc (by omega),anD (by omega),← hx];congr 1; omega

theorem BV {E:Env} {b v s l:Nat} {x:Value} (h:cK E (.ms b v s l) x):(l=0∧x = .slice none 0 0) ∨
  ∃ g e c a cap,x = .slice a l cap∧E.cj b v=some (g,e,c)∧(0<l→a=some ⟨g,s*e,none⟩)∧(s=0→a=some ⟨g,0,none⟩∧cap=c)∧(l≤cap∧s+cap=c∧(0<cap→a=some ⟨g,s*e,none⟩)):=by cases h with | iz=>exact .inl ⟨rfl,rfl⟩ | ms _ _ _ _ _ g e c a cap hb hl h0 hc=>exact .inr ⟨g,e,c,a,cap,rfl,hb,hl,h0,hc⟩

theorem wv {E:Env} {e:Nat} {xs:List V} {A:Array Value} (x5:0<e) (h:wq E e xs A):∀ v∈A.toList,v.oneCell'=true:=by
 intro v hv;obtain⟨q,hq,rfl⟩:=List.mem_iff_getElem.1 hv;have QG:q<xs.length*e:=by rw [← h.1]; simpa using hq
 have hiq:q / e<xs.length:=by rwa [an5 x5]
 have vg:=ah hiq;obtain⟨afi,tD⟩:=h.2 _ _ vg;obtain⟨vv,hvv,Gc,-⟩:=tD (q % e) _ (ah (by rw [afi]; exact anf _ x5));dsimp only at hvv;rw [Nat.mul_comm,anH] at hvv;have:A.toList[q]=vv:=by (have Vf:q<A.size:=by simpa using hq);rw [bS Vf] at hvv;simpa using hvv
 rw [this]; exact Gc

theorem Av {P:Program} {tt:Table} (ht:TT P tt) {E:Env} {w:World} {a:Act} {st:St} (hs:cU E w a st) {ts:Array TypeId} {ty:TypeId} {s x:V} {y z:Value} {size:Nat} {sD:Option (Nat×Nat)} {rows:List V} {key:Nat}
  (hk:iR st.mem key) (Gy:cK E s y) (JQ:cK E x z) (h:iw tt st.mem ts.toList s x=some (size,sD,rows)) :
  ∃ v w' E',(Builtin.append_ ts ty #[y,z]).run P w = .ok v w'∧cU E' w' a { st with mem:=(fM st.mem key size rows sD).1 }∧gE E w E' w'∧cK E' (fM st.mem key size rows sD).2 v:=by
 unfold iw at h;split at h
 ·rename_i t u AX;obtain rfl:ts = #[t,u]:=by rw [← cL (xs:=ts),AX]
  split at h
  ·rename_i it hT;split at h
   ·rename_i e he;split at h
    ·rename_i e' LA;split at h
     ·rename_i i hE;split at h
      ·rename_i hc;obtain⟨x5,x6,DK⟩:=hc;split at h
       ·rename_i ake rs mT;split at h
        ·rename_i xs u6;split at h
         ·rename_i hlen;split at h;case isFalse=>cases h
          rename_i afj;simp only [aB,dQ] at h;obtain⟨rfl,rfl,rfl⟩:=h;obtain⟨d,hd,-,BF,-⟩:=ht.desc t it hT;obtain rfl:=BF e he;have Dp:∃ e1,P.underlying u=some (.slice e1):=by unfold iM at LA;split at LA;(·rename_i iu hU;obtain⟨d,hd,-,BF,-⟩:=ht.desc u iu hU;exact⟨e',by rw [hd,BF e' LA]⟩);simp at LA
          obtain⟨e1,Dp⟩:=Dp;obtain⟨info,Ao,Tt,Zh,z0,Vg,Va⟩:=ht.size e i hE;have Vh:z0.cells.size=info.size:=by rw [Tt,← DK,← Va]; simp
          rw [← Tt] at u6 mT x5 ⊢;rw [← Zh] at x6;have Tu:cU E w.drew a st:=hs.drew;obtain⟨xa,xc,rfl,hxc,xA,Lz,QH⟩:=iS (P:=P) hs JQ u6;obtain⟨xa',xc',heq,-,xB,Zi,Vi⟩:=iS (P:=P) Tu JQ u6;simp only [Value.slice.injEq] at heq;obtain⟨rfl,-,rfl⟩:=heq
          have Au:∀ jd,jd<rs.length+xs.length→Builtin.nextslicecap (rs.length+xs.length) jd*info.bytes≤281474976710656:=fun jd bX =>
           growslice_fits bX (AO (anE hlen x6) (by decide))
          have rV:(rs++xs).length=rs.length+xs.length:=by simp
          have jw:∀ jd,rs.length+xs.length≤grownCap w (rs.length+xs.length) jd e:=fun jd=>grownCap_ge w (rs.length+xs.length) jd e;have ql:∀ (jd:Nat) (A:Array Value),wq E.pure info.size rs A→(A++xB++Builtin.zeroCells z0.cells (grownCap w (rs.length+xs.length) jd e-(rs.length+xs.length))).size=grownCap w (rs.length+xs.length) jd e*info.size:=fun jd A hrA=>by simp only [Y5,size_zeroCells,Vh,hrA.1,Vi.1,← iL];congr 1; have:=jw jd; omega
          unfold qk at mT;split at mT;·simp only [aB,dQ] at mT;obtain⟨rfl,rfl⟩:=mT;obtain rfl:=fY Gy;by_cases h0:xs.length=0;(·have Zj:xs=[]:=cd.1 h0;subst Zj;exact⟨_,w,E,jv (ty:=ty) hd Dp Ao xc xa xA Lz,hs.Q1 hk info.size,gE.refl E w,.iz _ _ _ _⟩);have fZ:=k8 (ty:=ty) hd Dp Ao Vg none 0 0 xs.length xc xa #[] xB rfl Zi (by omega) (by omega) (Au 0 (by simp; omega));obtain⟨E',h5,h6,h7⟩:=cU.tz Tu (key:=key) hk (xs := #[]++xB++Builtin.zeroCells z0.cells (grownCap w (([]:List V).length+xs.length) 0 e-(([]:List V).length+xs.length))) (rs:=[]++xs) (e:=info.size) (c:=grownCap w (([]:List V).length+xs.length) 0 e) e (ql 0 #[] ⟨by simp,fun i row hi=>by simp at hi⟩) (by rw [rV]; exact jw 0) (l5 ⟨by simp,fun i row hi=>by simp at hi⟩ Vi);refine⟨_,_,E',fZ,h5,(gE.drew E w).trans h6,?_⟩;simp only [fM];rw [rV] at h7 ⊢;exact h7
          ·rename_i nm;split at mT;(case isFalse=>cases mT);rename_i vk;simp only [aB,dQ] at mT;obtain⟨rfl,rfl⟩:=mT;(have Iu:0<xs.length:=by cases xs with | nil=>simp [DL] at afj | cons _ _=>simp);cases Gy with | full _ _ sa Gy =>(have U9:rowsOf st.mem info.size (.slice nm)=some nm:=by simp only [rowsOf]; rw [if_pos vk]);obtain⟨sa',sc,heq,hsc,A,tF,u7⟩:=iS (P:=P) Tu Gy U9;simp only [Value.slice.injEq] at heq;obtain⟨rfl,-,rfl⟩:=heq;have fZ:=k8 (ty:=ty) hd Dp Ao Vg sa nm.length nm.length xs.length xc xa A xB tF Zi (by omega) (by omega) (Au _ (by omega));obtain⟨E',h5,h6,h7⟩:=cU.tz Tu (key:=key) hk (xs:=A++xB++Builtin.zeroCells z0.cells (grownCap w (nm.length+xs.length) nm.length e-(nm.length+xs.length))) (rs:=nm++xs) (e:=info.size) (c:=grownCap w (nm.length+xs.length) nm.length e) e (ql nm.length A u7) (by rw [rV]; exact jw _) (l5 u7 Vi);refine⟨_,_,E',fZ,h5,(gE.drew E w).trans h6,?_⟩;simp only [fM];rw [rV] at h7 ⊢;exact h7
          ·rename_i b v l;split at mT
           ·rename_i v' eb mo hm;split at mT
            ·rename_i Tv;obtain⟨rfl,rfl,Tw⟩:=Tv;simp only [aB,dQ] at mT;obtain⟨rfl,rfl⟩:=mT;have U9:rowsOf st.mem info.size (.ms b v' 0 l)=some mo:=by simp [rowsOf,hm,Tw];rw [← Tw]; simp
             obtain⟨sa,sc,rfl,hsc,A,tF,u7⟩:=iS (P:=P) Tu Gy U9;simp only [fM];by_cases tC:mo.length+xs.length≤sc
             ·
              rcases BV Gy with ⟨U7,L0⟩ | ⟨g,eb',c,sa',sc',L0,hb,hl,Qz,AS⟩
              ·simp only [Value.slice.injEq] at L0
               obtain⟨rfl,afk,rfl⟩:=L0
               have Iu:xs=[]:=cd.1 (by omega)
               have Vj:mo=[]:=cd.1 (by omega)
               subst Iu; subst Vj
               exact⟨_,w,E,jv (ty:=ty) hd Dp Ao xc xa xA Lz,hs.DN hm,gE.refl E w,.iz _ _ _ _⟩
              simp only [Value.slice.injEq] at L0
              obtain⟨rfl,-,rfl⟩:=L0
              obtain⟨rfl,Tx⟩:=Qz rfl
              have afl:=Tx.symm
              subst afl
              rcases hs.mem b _ hm with ⟨-,hn⟩ | ⟨g',T',cur,c',j9,hh,BB,n9,AU,hf⟩
              ·rw [hb] at hn; cases hn
              rw [hb] at j9; cases j9
              have x7:mo.length*info.size+xA.toList.length≤cur.size:=by
               have:=QH.1
               simp only [jq]
               rw [this,BB,← iL]; exact kJ _ tC
              obtain⟨w',vi,QE,BX⟩:=kA (P:=P) (g:=g) (T:=T') (mo.length*info.size) xA.toList 0 w cur hh (by simpa using x7) (wv x5 QH)
              have fZ:=xZ (ty:=ty) hd Dp Ao g mo.length c xs.length xc xa xA Lz tC vi
              have hle:E.le (E.with b (v'+1) (g,info.size,c)):=Env.l4 (hs.dw b _ hm _ (kW v')) _
              have fg:(E.with b (v'+1) (g,info.size,c)).cj b (v'+1)=some (g,info.size,c):=if_pos ⟨rfl,rfl⟩
              refine⟨_,w',E.with b (v'+1) (g,info.size,c),fZ,hs.renew hm (fun ad y hy=>?_) (by rw [BX.size]; exact aw _) (by rw [BX.size]; exact hs.lt _ _ _ _ _ hb) (fun k B' kh jA Tz g' e' c' fA=>?_) ?_ (fun k v2 e2 c2 h=>hs.apart _ _ _ _ _ _ _ _ _ h hb),
               ⟨hle,fun k q g' e' c' kh=>?_,fun ad y hy=>.inl hy,BX.os,BX.tape,BX.output,by rw [BX.size]; exact aw _,fun b' j9 dK=>BX.heap b' fun e=>by subst e; exact dK _ _ _ _ hb⟩,?_⟩
              ·have dK:=hs.BQ hf hy
               rw [← hs.F ad y hy]; simp [World.cell?,BX.heap _ dK]
              ·have Zk:g'≠g:=fun e=>by
                subst e
                exact kh (hs.apart _ _ _ _ _ _ _ _ _ fA hb)
               exact⟨BX.heap _ Zk,Zk⟩
              ·refine .inr ⟨g,T',_,c,fg,QE,by rw [k6]; exact BB,by rw [rV]; exact tC,?_,hf⟩
               intro q row hq
               simp only [jS]
               have hxl:xA.toList.length=xs.length*info.size:=by simpa using QH.1
               rw [Tn] at hq
               split at hq
               ·rename_i bX
                obtain⟨h3,h4⟩:=AU q row hq
                refine⟨h3,fun j cc hj=>?_⟩
                obtain⟨v,hv,Gc,JS⟩:=h4 j cc hj
                have Gb:j<info.size:=by rw [← h3]; exact (ax.1 hj).1
                refine⟨v,?_,Gc,JS⟩
                rw [jB _ _ _ _ x7,if_neg (by have:=xY bX Gb; omega)]
                exact hv
               rename_i afn
               obtain⟨h3,h4⟩:=QH.2 _ row hq
               refine⟨h3,fun j cc hj=>?_⟩
               obtain⟨v,hv,Gc,JS⟩:=h4 j cc hj
               have Gb:j<info.size:=by rw [← h3]; exact (ax.1 hj).1
               have hql:q-mo.length<xs.length:=(ax.1 hq).1
               have hmul:q*info.size=mo.length*info.size+(q-mo.length)*info.size:=by rw [← iL]; congr 1; omega
               refine⟨v,?_,Gc,JS⟩
               rw [jB _ _ _ _ x7,if_pos (by have:=xY hql Gb; omega)]
               dsimp only at hv
               rw [← hv,eX]
               congr 1; omega
              ·by_cases hq:k=b∧q=v'+1
               ·obtain⟨rfl,rfl⟩:=hq; rw [fg] at kh; cases kh; exact .inl ⟨_,_,_,_,hb⟩
               have:(E.with b (v'+1) (g,info.size,c)).cj k q=E.cj k q:=if_neg hq
               rw [this] at kh; exact .inl ⟨_,_,_,_,kh⟩
              rw [rV]
              exact .ms _ _ _ _ _ g info.size c _ _ fg (fun _=>by simp) (fun _=>⟨rfl,rfl⟩) ⟨tC,ct _,fun _=>by simp⟩
             have bX:sc<mo.length+xs.length:=by omega
             have fZ:=k8 (ty:=ty) hd Dp Ao Vg sa mo.length sc xs.length xc xa A xB tF Zi bX (by omega) (Au sc bX);have hle:E.le (E.with b (v'+1) (w.heap.size,info.size,grownCap w (mo.length+xs.length) sc e)):=Env.l4 (hs.dw b _ hm _ (kW v')) _;have fg:(E.with b (v'+1) (w.heap.size,info.size,grownCap w (mo.length+xs.length) sc e)).cj b (v'+1)=some (w.heap.size,info.size,grownCap w (mo.length+xs.length) sc e):=if_pos ⟨rfl,rfl⟩
             refine⟨_,_,E.with b (v'+1) (w.heap.size,info.size,grownCap w (mo.length+xs.length) sc e),fZ,hs.renew hm (fun ad y hy=>?_) (by simp) (by simp) (fun k B' kh jA Tz g' e' c' fA=>?_) ?_ (fun k v2 e2 c2 h=>absurd (hs.lt _ _ _ _ _ h) (am0 _)),
              ⟨hle,fun k q g' e' c' kh=>?_,fun ad y hy=>.inl hy,rfl,rfl,rfl,by simp,fun b' j9 dK=>dL w.drew _ b' j9⟩,?_⟩
             ·rw [World.cell?_alloc_lt w.drew _ ad (World.block_lt_of_cell? w ad (hs.F ad y hy))]; exact hs.F ad y hy
             ·have:=hs.lt _ _ _ _ _ fA;exact⟨dL w.drew _ g' this,by omega⟩
             ·refine .inr ⟨w.heap.size,e,_,_,fg,heap_alloc_new w.drew _,ql sc A u7,by rw [rV]; exact jw sc,?_,fun o=>?_⟩;(·intro q row hq;obtain⟨h3,h4⟩:=l5 (C:=Builtin.zeroCells z0.cells (grownCap w (mo.length+xs.length) sc e-(mo.length+xs.length))) u7 Vi q row hq;exact⟨h3,fun j cc hj=>let ⟨v,hv,Gc,JS⟩:=h4 j cc hj; ⟨v,hv,Gc,JS.mono (Env.kp hle)⟩⟩);show E.F _=none;cases hx:E.F ⟨w.heap.size,o,none⟩ with | none=>rfl | some x=>have:=World.block_lt_of_cell? w _ (hs.F _ _ hx); simp at this
             ·by_cases hq:k=b∧q=v'+1;(·obtain⟨rfl,rfl⟩:=hq; rw [fg] at kh; cases kh; exact .inr (aw _));have:(E.with b (v'+1) (w.heap.size,info.size,grownCap w (mo.length+xs.length) sc e)).cj k q=E.cj k q:=if_neg hq;rw [this] at kh; exact .inl ⟨_,_,_,_,kh⟩
             rw [rV];exact .ms _ _ _ _ _ w.heap.size info.size _ _ _ fg (fun _=>by simp) (fun _=>⟨rfl,rfl⟩) ⟨jw sc,ct _,fun _=>by simp⟩
            simp at mT
           simp at mT
          simp at mT
         simp at h
        simp at h
       simp at h
      simp at h
     simp at h
    simp at h
   simp at h
  simp at h
 simp at h
end Go.Eng
end

section
namespace Go.Eng
variable [a6]

theorem fP.set {E:Env} {dq:List (Value×Nat×V)} {es:List MapEntry} (h:fP E dq es) (i:Nat) {kb:Value×Nat×V} {e:MapEntry} (h1:e.key=kb.1) (h2:e.born=kb.2.1) (h3:cK E kb.2.2 e.val):fP E (dq.set i kb) (es.set i e):=by
  refine⟨by simp [h.1],fun j k e' hk he=>?_⟩;by_cases Gd:i=j;·subst Gd;rw [bw] at hk he;simp only [if_true] at hk he;split at hk;(·split at he;(·cases hk; cases he; exact⟨h1,h2,h3⟩);·cases he);·cases hk
  ·rw [eE Gd] at hk he; exact h.2 j k e' hk he
theorem fP.push {E:Env} {dq:List (Value×Nat×V)} {es:List MapEntry} (h:fP E dq es) {kb:Value×Nat×V} {e:MapEntry} (h1:e.key=kb.1) (h2:e.born=kb.2.1) (h3:cK E kb.2.2 e.val):fP E (dq++[kb]) (es++[e]):=by
  refine⟨by simp [h.1],fun j k e' hk he=>?_⟩;by_cases hj:j<dq.length;·rw [bm hj] at hk; rw [bm (by have:=h.1; omega)] at he; exact h.2 j k e' hk he
  ·rw [aW (by omega)] at hk; rw [aW (by have:=h.1; omega)] at he;rw [h.1] at hk;cases hd:j-es.length with | zero=>rw [hd] at hk he; simp at hk he; subst hk; subst he; exact⟨h1,h2,h3⟩ | succ n=>rw [hd] at hk; simp at hk
theorem fP.erase {E:Env}:∀ {dq:List (Value×Nat×V)} {es:List MapEntry},fP E dq es→∀ (i:Nat),fP E (dq.eraseIdx i) (es.eraseIdx i)
  | [],es,h,i=>by rw [h.of_nil]; exact⟨rfl,fun j k e hk=>by simp at hk⟩
  | k :: r,es,h,i=>by
    obtain⟨e,es',rfl,h1,h2,h3,h4⟩:=h.of_cons
    cases i with
    | zero=>exact h4
    | succ i =>
      have h5:=fP.erase h4 i
      simp only [List.eraseIdx_cons_succ]
      refine⟨by simp [h5.1],fun j k' e' hk he=>?_⟩
      cases j with
      | zero=>simp at hk he; subst hk; subst he; exact⟨h1,h2,h3⟩
      | succ j=>exact h5.2 j k' e' (by simpa using hk) (by simpa using he)

def insertAt (P:Program) (kt:TypeId) (key:Value) (v:V) (dq:List (Value×Nat×V)) (clock:Nat):Option (List (Value×Nat×V)×Nat) :=
  match oz P kt key dq with
  | some (some (i,_))=>match dq[i]? with
    | some e=>if Instr.sameBits 10000 e.1 key=true then some (dq.set i (key,e.2.1,v),clock) else none
    | none=>none
  | some none=>some (dq++[(key,clock,v)],clock+1)
  | none=>none
def dt (P:Program) (mem:List ba) (T:TypeId) (m k v:V):Option (List ba) :=
  match iv P T with
  | some (kt,_)=>match fw k with
    | some key=>if sh P kt key=true then
        match m with
        | .mp b=>match mem[b]? with
          | some (.map dq clock)=>match insertAt P kt key v dq clock with
            | some (kvs',clock')=>some (mem.set b (.map kvs' clock'))
            | none=>none
          | _=>none
        | _=>none
      else none
    | none=>none
  | none=>none
def Iw (P:Program) (kt et:TypeId) (key:Value) (dq:List (Value×Nat×V)) (clock:Nat):Option (List (Value×Nat×V)×Nat×V) :=
  match oz P kt key dq with
  | some (some (i,v))=>match dq[i]? with
    | some e=>if Instr.sameBits 10000 e.1 key=true then some (dq.set i (key,e.2.1,e.2.2),clock,.eC [v,.sc (.int .i64 e.2.1)]) else none
    | none=>none
  | some none=>match zeroV P et with
    | some z=>some (dq++[(key,clock,z)],clock+1,.eC [z,.sc (.int .i64 clock)])
    | none=>none
  | none=>none
def vm (P:Program) (mem:List ba) (T:TypeId) (m k:V):Option (List ba×V) :=
  match iv P T with
  | some (kt,et)=>match fw k with
    | some key=>if sh P kt key=true then
        match m with
        | .mp b=>match mem[b]? with
          | some (.map dq clock)=>match Iw P kt et key dq clock with
            | some (kvs',clock',v)=>some (mem.set b (.map kvs' clock'),v)
            | none=>none
          | _=>none
        | _=>none
      else none
    | none=>none
  | none=>none
def vn (mem:List ba) (m s v:V):Option (List ba) :=
  match m,s with
  | .mp b,.sc (.int _ n)=>match mem[b]? with
    | some (.map dq clock)=>match dq.findIdx? (fun e=>(e.2.1:Int)==n) with
      | some i=>match dq[i]? with
        | some e=>some (mem.set b (.map (dq.set i (e.1,e.2.1,v)) clock))
        | none=>none
      | none=>none
    | _=>none
  | _,_=>none
def rj (P:Program) (mem:List ba) (ts:Array TypeId):List V→Option (List ba)
  | [.mp b,k]=>match ts[0]? with
    | some T=>match iv P T with
      | some (kt,_)=>match fw k with
        | some key=>if sh P kt key=true then
            match mem[b]? with
            | some (.map dq clock)=>match oz P kt key dq with
              | some (some (i,_))=>some (mem.set b (.map (dq.eraseIdx i) clock))
              | some none=>some (mem.set b (.map dq clock))
              | none=>none
            | _=>none
          else none
        | none=>none
      | none=>none
    | none=>none
  | _=>none

theorem qm {w:World} {g:Nat} {o:Obj}:tA w { w with heap:=w.heap.setIfInBounds g o } g :=
  ⟨rfl,rfl,rfl,by simp,fun b hb=>BA (fun e=>hb e.symm)⟩
theorem heap_set {w:World} {g:Nat} {o o':Obj} (h:w.heap[g]?=some o):({ w with heap:=w.heap.setIfInBounds g o' }:World).heap[g]?=some o':=by
  have:g<w.heap.size:=by (rcases bW g w.heap.size with h1 | h1);(·exact h1);·rw [am1 h1] at h; cases h
  simp [this]
theorem cU.o5 {E:Env} {w:World} {a:Act} {st:St} (hs:cU E w a st) {b g e c:Nat} {dq kvs':List (Value×Nat×V)} {clock clock':Nat} {es es':Array MapEntry} (hm:st.mem[b]?=some (.map dq clock)) (hb:E.cj b 0=some (g,e,c)) (hh:w.heap[g]?=some (.map es clock))
    (hf:∀ o,E.F ⟨g,o,none⟩=none) (hr:fP E kvs' es'.toList) :
    cU E { w with heap:=w.heap.setIfInBounds g (.map es' clock') } a { st with mem:=st.mem.set b (.map kvs' clock') }∧gE E w E { w with heap:=w.heap.setIfInBounds g (.map es' clock') }:=by obtain⟨-,-,-,-,h0⟩:=l0 hs hm hb;cases h0;exact hs.DI hm rfl (B':=.map kvs' clock') rfl hb hf qm ⟨g,es',hb,heap_set hh,hr,hf⟩

theorem sE {es:Array MapEntry} {i:Nat} {e:MapEntry} (h:es[i]?=some e) (f:MapEntry→MapEntry):(es.modify i f).toList=es.toList.set i (f e):=by
  apply di;intro j;rw [eX,an4,bw];by_cases Gd:i=j;·subst Gd;have:i<es.size:=(dp.1 h).1;have he:es[i]=e:=(dp.1 h).2;simp [this,he]
  ·simp [Gd]
theorem AY {P:Program} {w:World} {sD new:Value} (h:Instr.sameBits 10000 sD new=true):(Instr.keyThatStays sD new).run P w = .ok new w:=by simp [Instr.keyThatStays,h]

theorem sk {P:Program} {E:Env} {w:World} {a:Act} {st:St} (hs:cU E w a st) {T:TypeId} {m k v:V} {x y z:Value} {bM:List ba} (hm:cK E m x) (hk:cK E k y) (hv:cK E v z) (h:dt P st.mem T m k v=some bM) :
    ∃ w',(Instr.mapUpdate T x y z).run P w = .ok () w'∧cU E w' a { st with mem:=bM }∧gE E w E w':=by
  unfold dt at h;split at h;·rename_i kt et hd;have hd:=kz hd;split at h;(·rename_i key fg;cases jU hk fg;split at h;(·rename_i gh;have Ly:=fun b=>nQ gh b w;split at h;(·rename_i b;obtain⟨g,e,c,rfl,hb⟩:=sB hm;split at h;(·rename_i dq clock hB;obtain⟨es,hh,hr,hf,-⟩:=l0 hs hB hb;split at h;(·rename_i kvs' clock' hi;cases h;unfold insertAt at hi;split at hi;(·rename_i i u L1;obtain⟨r',h1,h2⟩:=gH hr w L1;match r',h2 with | some (j',z'),h2 =>obtain⟨rfl,h3,kb,en,h4,h5,h6,h7⟩:=h2;(have Vk:es[i]?=some en:=by simpa using h5);split at hi;(·rename_i kb' kh;rw [kh] at h4; cases h4;split at hi;(·rename_i L2;cases hi;obtain⟨p1,p2,p3⟩:=hr.2 i _ _ kh h5;(have fZ:(Instr.mapUpdate T (.map (some g)) y z).run P w = .ok () { w with heap:=w.heap.setIfInBounds g (.map (es.modify i fun e => { e with key:=y,val:=z }) clock) }:=by have:=iQ (P:=P) (o':=.map (es.modify i fun e => { e with key:=y,val:=z }) clock) hh (by simp);simp [Instr.mapUpdate,bn hd,fp hh,Ly,h1,Vk,p1,AY L2,this]);obtain⟨q1,q2⟩:=hs.o5 hB hb hh hf (clock':=clock) (kvs':=dq.set i (y,kb.2.1,v)) (es':=es.modify i fun e => { e with key:=y,val:=z }) (by rw [sE Vk]; exact hr.set i rfl p2 hv);exact⟨_,fZ,q1,q2⟩);·cases hi);·cases hi);(·rename_i L1;obtain⟨r',h1,h2⟩:=gH hr w L1;match r',h2 with | none,h2 =>cases hi;(have fZ:(Instr.mapUpdate T (.map (some g)) y z).run P w = .ok () { w with heap:=w.heap.setIfInBounds g (.map (es.push { key:=y,val:=z,born:=clock }) (clock+1)) }:=by have:=iQ (P:=P) (o':=.map (es.push { key:=y,val:=z,born:=clock }) (clock+1)) hh (by simp);simp [Instr.mapUpdate,bn hd,fp hh,Ly,h1,this]);obtain⟨q1,q2⟩:=hs.o5 hB hb hh hf (clock':=clock+1) (kvs':=dq++[(y,clock,v)]) (es':=es.push { key:=y,val:=z,born:=clock }) (by rw [anR]; exact hr.push rfl rfl hv);exact⟨_,fZ,q1,q2⟩);·cases hi);·cases h);·cases h);·cases h);·cases h);·cases h
  ·cases h

theorem DO {E:Env} {v:V} {x:Value} (h:cK E v x) (n:Nat):cK E (.eC [v,.sc (.int .i64 n)]) (.tuple #[x,goInt n]):=by refine .eC _ _ _ rfl fun i c y hc hy=>?_;match i with | 0=>simp at hc hy; subst hc; subst hy; exact h | 1=>simp at hc hy; subst hc; subst hy; exact .sc _ _ | i+2=>simp at hc
theorem BZ {P:Program} {E:Env} {w:World} {a:Act} {st:St} (hs:cU E w a st) {T:TypeId} {m k v:V} {x y:Value} {bM:List ba} (hm:cK E m x) (hk:cK E k y) (h:vm P st.mem T m k=some (bM,v)) :
    ∃ z w',(Instr.mapEntry T x y).run P w = .ok z w'∧cU E w' a { st with mem:=bM }∧gE E w E w'∧cK E v z:=by
  unfold vm at h;split at h;·rename_i kt et hd;have hd:=kz hd;split at h;(·rename_i key fg;cases jU hk fg;split at h;(·rename_i gh;have Ly:=fun b=>nQ gh b w;split at h;(·rename_i b;obtain⟨g,e,c,rfl,hb⟩:=sB hm;split at h;(·rename_i dq clock hB;obtain⟨es,hh,hr,hf,-⟩:=l0 hs hB hb;split at h;(·rename_i kvs' clock' v' hi;cases h;unfold Iw at hi;split at hi;(·rename_i i u L1;obtain⟨r',h1,h2⟩:=gH hr w L1;match r',h2 with | some (j',z'),h2 =>obtain⟨rfl,h3,kb,en,h4,h5,h6,h7⟩:=h2;(have Vk:es[i]?=some en:=by simpa using h5);split at hi;(·rename_i kb' kh;rw [kh] at h4; cases h4;split at hi;(·rename_i L2;cases hi;obtain⟨p1,p2,p3⟩:=hr.2 i _ _ kh h5;(have fZ:(Instr.mapEntry T (.map (some g)) y).run P w = .ok (.tuple #[z',goInt en.born]) { w with heap:=w.heap.setIfInBounds g (.map (es.modify i fun e => { e with key:=y }) clock) }:=by have:=iQ (P:=P) (o':=.map (es.modify i fun e => { e with key:=y }) clock) hh (by simp);simp [Instr.mapEntry,bn hd,fp hh,Ly,h1,Vk,p1,AY L2,this]);obtain⟨q1,q2⟩:=hs.o5 hB hb hh hf (clock':=clock) (kvs':=dq.set i (y,kb.2.1,kb.2.2)) (es':=es.modify i fun e => { e with key:=y }) (by rw [sE Vk]; exact hr.set i rfl p2 p3);exact⟨_,_,fZ,q1,q2,by rw [p2]; exact DO h3 _⟩);·cases hi);·cases hi);(·rename_i L1;obtain⟨r',h1,h2⟩:=gH hr w L1;match r',h2 with | none,h2 =>split at hi;(·rename_i z0 Vg;cases hi;obtain⟨zz,h3,h4⟩:=qf Vg E w;(have fZ:(Instr.mapEntry T (.map (some g)) y).run P w = .ok (.tuple #[zz,goInt clock]) { w with heap:=w.heap.setIfInBounds g (.map (es.push { key:=y,val:=zz,born:=clock }) (clock+1)) }:=by have:=iQ (P:=P) (o':=.map (es.push { key:=y,val:=zz,born:=clock }) (clock+1)) hh (by simp);simp [Instr.mapEntry,bn hd,fp hh,Ly,h1,h3,this]);obtain⟨q1,q2⟩:=hs.o5 hB hb hh hf (clock':=clock+1) (kvs':=dq++[(y,clock,z0)]) (es':=es.push { key:=y,val:=zz,born:=clock }) (by rw [anR]; exact hr.push rfl rfl h4);exact⟨_,_,fZ,q1,q2,DO h4 _⟩);·cases hi);·cases hi);·cases h);·cases h);·cases h);·cases h);·cases h
  ·cases h

theorem wx {E:Env} (n:Int):∀ {dq:List (Value×Nat×V)} {es:List MapEntry},fP E dq es→dq.findIdx? (fun e=>(e.2.1:Int)==n)=es.findIdx? (fun e=>(e.born:Int)==n)
  | [],es,h=>by rw [h.of_nil]; rfl
  | k :: r,es,h=>by
    obtain⟨e,es',rfl,h1,h2,h3,h4⟩:=h.of_cons
    rw [anW,anW,h2,wx n h4]
theorem B4 {P:Program} {E:Env} {w:World} {a:Act} {st:St} (hs:cU E w a st) {T:TypeId} {m s v:V} {x y z:Value} {bM:List ba} (hm:cK E m x) (hk:cK E s y) (hv:cK E v z) (h:vn st.mem m s v=some bM) :
    ∃ w',(Instr.entryStore T x y z).run P w = .ok () w'∧cU E w' a { st with mem:=bM }∧gE E w E w':=by
  unfold vn at h;split at h;·rename_i b k n;obtain⟨g,e,c,rfl,hb⟩:=sB hm;obtain rfl:=rf hk;split at h;(·rename_i dq clock hB;obtain⟨es,hh,hr,hf,-⟩:=l0 hs hB hb;split at h;(·rename_i i hi;split at h;(·rename_i kb kh;cases h;obtain⟨en,h5,p1,p2,p3⟩:=hr.get kh;(have Vk:es[i]?=some en:=by simpa using h5);(have Vl:es.findIdx? (fun e=>(e.born:Int)==n)=some i:=by rw [wx n hr,← List.findIdx?_toArray,cL] at hi; exact hi);(have fZ:(Instr.entryStore T (.map (some g)) (.int k n) z).run P w = .ok () { w with heap:=w.heap.setIfInBounds g (.map (es.modify i fun e => { e with val:=z }) clock) }:=by have:=iQ (P:=P) (o':=.map (es.modify i fun e => { e with val:=z }) clock) hh (by simp);simp [Instr.entryStore,fp hh,asInt,asIntOf,Vl,this]);obtain⟨q1,q2⟩:=hs.o5 hB hb hh hf (clock':=clock) (kvs':=dq.set i (kb.1,kb.2.1,v)) (es':=es.modify i fun e => { e with val:=z }) (by rw [sE Vk]; exact hr.set i p1 p2 hv);exact⟨_,fZ,q1,q2⟩);·cases h);·cases h);·cases h
  ·cases h

theorem Aw {P:Program} {E:Env} {w:World} {a:Act} {st:St} (hs:cU E w a st) {ts:Array TypeId} {ty:TypeId} {xs:List V} {ys:Array Value} {bM:List ba} (hx:cz E xs ys.toList) (h:rj P st.mem ts xs=some bM) :
    ∃ w',(Builtin.delete_ ts ty ys).run P w = .ok (.tuple #[]) w'∧cU E w' a { st with mem:=bM }∧gE E w E w':=by
  unfold rj at h;split at h;·rename_i b k;obtain⟨x,r,hy,Dn,hx⟩:=hx.of_cons;obtain⟨y,r2,hz,Dq,hx⟩:=hx.of_cons;have:=hx.of_nil;subst this; subst hz;(obtain rfl:ys = #[x,y]:=by rw [← cL (xs:=ys),hy]);obtain⟨g,e,c,rfl,hb⟩:=sB Dn;split at h;(·rename_i T h0;split at h;(·rename_i kt et hd;have hd:=kz hd;split at h;(·rename_i key fg;cases jU Dq fg;split at h;(·rename_i gh;have Ly:=fun b=>nQ gh b w;split at h;(·rename_i dq clock hB;obtain⟨es,hh,hr,hf,-⟩:=l0 hs hB hb;split at h;(·rename_i i u L1;cases h;obtain⟨r',h1,h2⟩:=gH hr w L1;match r',h2 with | some (j',z'),h2 =>obtain⟨rfl,h3,kb,en,h4,h5,h6,h7⟩:=h2;(have fZ:(Builtin.delete_ ts ty #[.map (some g),y]).run P w = .ok (.tuple #[]) { w with heap:=w.heap.setIfInBounds g (.map (es.eraseIdxIfInBounds i) clock) }:=by have:=iQ (P:=P) (o':=.map (es.eraseIdxIfInBounds i) clock) hh (by simp);simp [Builtin.delete_,h0,bn hd,fp hh,Ly,h1,this]);obtain⟨q1,q2⟩:=hs.o5 hB hb hh hf (clock':=clock) (kvs':=dq.eraseIdx i) (es':=es.eraseIdxIfInBounds i) (by rw [Array.toList_eraseIdxIfInBounds]; exact hr.erase i);exact⟨_,fZ,q1,q2⟩);(·rename_i L1;cases h;obtain⟨r',h1,h2⟩:=gH hr w L1;match r',h2 with | none,h2 =>(have fZ:(Builtin.delete_ ts ty #[.map (some g),y]).run P w = .ok (.tuple #[]) { w with heap:=w.heap.setIfInBounds g (.map es clock) }:=by have:=iQ (P:=P) (o':=.map es clock) hh (by simp);simp [Builtin.delete_,h0,bn hd,fp hh,Ly,h1,this]);obtain⟨q1,q2⟩:=hs.o5 hB hb hh hf (clock':=clock) (kvs':=dq) (es':=es) hr;exact⟨_,fZ,q1,q2⟩);·cases h);·cases h);·cases h);·cases h);·cases h);·cases h
  ·cases h


def leftOf (dq:List (Value×Nat×V)) (seen:List Nat):List (Value×Nat×V):=dq.filter fun e=>!seen.contains e.2.1
def x8 (dq:List (Value×Nat×V)) (seen:List Nat) (since:Nat):List (Value×Nat×V):=(leftOf dq seen).filter fun e=>e.2.1<since
def L3 (dq:List (Value×Nat×V)) (seen:List Nat) (since:Nat):List (Value×Nat×V):=(leftOf dq seen).filter fun e=>e.2.1≥since
def B5 (dq:List (Value×Nat×V)) (seen:List Nat) (last:Nat):Bool:=!seen.isEmpty && !dq.isEmpty&&dq.all fun e=>e.2.1≥last
def x9:V:=.eC [.sc (.bool false)]
def L6 (e:Value×Nat×V):V:=.eC [.sc (.bool true),kx e.1,e.2.2]
def TA (s:ByteArray) (pos:Nat):V:=.eC [.sc (.bool true),.sc (.int .i64 pos),.sc (.int .i32 (Utf8.decode s pos).1)]
def tG (st:St) (dst:Option Tmp) (it:V) (str:Bool) (Q:St→Prop):Prop :=
  match it with
  | .ptr b 0=>match st.mem[b]? with
    | some (.jc m since seen last)=>match st.mem[m]? with
      | some (.map dq clock)=>str=false∧B5 dq seen last=false∧(x8 dq seen since=[]→Q (st.put dst x9)) ∧
          ∀ e∈x8 dq seen since++L3 dq seen since,Q ({ st with mem:=st.mem.set b (.jc m since (seen++[e.2.1]) clock) }.put dst (L6 e))
      | _=>False
    | some (.mS s pos)=>str=true∧if pos<s.size then Q ({ st with mem:=st.mem.set b (.mS s (pos+(Utf8.decode s pos).2)) }.put dst (TA s pos)) else Q (st.put dst x9)
    | some .nh=>str=false∧Q (st.put dst x9)
    | _=>False
  | _=>False

theorem fP.filter {E:Env} (p:Nat→Bool):∀ {dq:List (Value×Nat×V)} {es:List MapEntry},fP E dq es→fP E (dq.filter fun e=>p e.2.1) (es.filter fun e=>p e.born)
  | [],es,h=>by rw [h.of_nil]; exact⟨rfl,fun j k e hk=>by simp at hk⟩
  | k :: r,es,h=>by
    obtain⟨e,es',rfl,h1,h2,h3,h4⟩:=h.of_cons
    have h5:=fP.filter p h4
    simp only [List.filter_cons,h2]
    split
    · refine⟨by simp [h5.1],fun j k' e' hk he=>?_⟩
      cases j with
      | zero=>simp at hk he; subst hk; subst he; exact⟨h1,h2,h3⟩
      | succ j=>exact h5.2 j k' e' (by simpa using hk) (by simpa using he)
    · exact h5
theorem fP.all {E:Env} (p:Nat→Bool):∀ {dq:List (Value×Nat×V)} {es:List MapEntry},fP E dq es→(dq.all fun e=>p e.2.1)=es.all fun e=>p e.born
  | [],es,h=>by rw [h.of_nil]; rfl
  | k :: r,es,h=>by
    obtain⟨e,es',rfl,h1,h2,h3,h4⟩:=h.of_cons
    simp only [cA,h2,fP.all p h4]
theorem fP.append {E:Env} {a b:List (Value×Nat×V)} {x y:List MapEntry} (h:fP E a x) (k:fP E b y):fP E (a++b) (x++y):=by
  refine⟨by simp [h.1,k.1],fun j kk e hk he=>?_⟩;by_cases hj:j<a.length;·rw [bm hj] at hk; rw [bm (by have:=h.1; omega)] at he; exact h.2 j kk e hk he
  ·rw [aW (by omega)] at hk; rw [aW (by have:=h.1; omega)] at he;rw [h.1] at hk;exact k.2 _ kk e hk he
theorem JT {E:Env} {k:Value×Nat×V} {e:MapEntry} (h1:e.key=k.1) (h3:cK E k.2.2 e.val):cK E (L6 k) (.tuple #[.bool true,e.key,e.val]):=by refine .eC _ _ _ rfl fun i c y hc hy=>?_;match i with | 0=>simp at hc hy; subst hc; subst hy; exact .sc _ _ | 1=>simp at hc hy; subst hc; subst hy; rw [h1]; exact kj E _ | 2=>simp at hc hy; subst hc; subst hy; exact h3 | i+3=>simp at hc

theorem ya {P:Program} {w:World} {n:Nat} (hn:0<n):∃ i w',(choose (.mapNext n)).run P w = .ok i w'∧i<n∧(w'=w∨w'=w.drew):=by
  unfold choose;rw [Sem.run];split;·exact⟨0,w,rfl,hn,.inl rfl⟩
  ·exact⟨_,_,rfl,anf _ hn,.inr rfl⟩
theorem cU.Vm {E:Env} {w w':World} {a:Act} {st:St} (hs:cU E w a st) (h:w'=w∨w'=w.drew):cU E w' a st∧gE E w E w'∧w'.heap=w.heap:=by
  rcases h with rfl | rfl
  ·exact⟨hs,gE.refl _ _,rfl⟩
  ·exact⟨hs.drew,gE.drew _ _,rfl⟩
theorem DP {P:Program} {E:Env} {w:World} {a:Act} {st:St} (hs:cU E w a st) {dst:Option Tmp} {it:V} {x:Value} {str:Bool} {ty:TypeId} {Q:St→Prop} (hi:cK E it x) (h:tG st dst it str Q) :
    ∃ z w' st',(Instr.next x str ty).run P w = .ok z w'∧cU E w' (a.put dst z) st'∧gE E w E w'∧Q st':=by
  unfold tG at h;split at h
  · rename_i b;split at h
    · rename_i m since seen last hB;split at h
      · rename_i dq clock hM;obtain⟨rfl,vi,Zl,er⟩:=h;obtain⟨g,gm,em,cm,hb,QB,hh,hf⟩:=hs.mem b _ hB;obtain⟨es,hhm,hr,hfm,h0⟩:=l0 hs hM QB;cases h0
        cases hi with
        | ptr _ _ _ g' e' c' j9 =>
        rw [hb] at j9; cases j9
        have js:(getObj g).run P w = .ok (.mapIter (some gm) since seen.toArray last) w:=by simp [getObj,Sem.run,hh]
        have Vn:(!seen.toArray.isEmpty && !es.isEmpty&&es.all (fun e=>decide (e.born≥last)))=false:=by
          rw [← vi]
          unfold B5
          have e1:seen.toArray.isEmpty=seen.isEmpty:=by simp
          have e2:es.isEmpty=dq.isEmpty:=by
            have h1:=hr.1
            rw [ae4,anM,anl,← cd,h1,jq]
          rw [e1,e2,← Array.all_toList,← fP.all (fun n=>decide (n≥last)) hr]
        have TB:(es.filter fun e=>!seen.toArray.contains e.born).toList=es.toList.filter fun e=>!seen.contains e.born:=by
          rw [ant]; simp
        have hl:=fP.filter (fun n=>!seen.contains n) hr
        have ho:=fP.filter (fun n=>decide (n<since)) hl
        have hw:=fP.filter (fun n=>decide (n≥since)) hl
        have Zm:=ho.append hw
        obtain⟨L,hL⟩:∃ L,L=es.filter fun e=>!seen.toArray.contains e.born:=⟨_,rfl⟩
        have hO:(L.filter fun e=>decide (e.born<since)).toList=(es.toList.filter fun e=>!seen.contains e.born).filter fun e=>decide (e.born<since):=by rw [ant,hL,TB]
        have hN:(L.filter fun e=>decide (e.born≥since)).toList=(es.toList.filter fun e=>!seen.contains e.born).filter fun e=>decide (e.born≥since):=by rw [ant,hL,TB]
        rw [← hO] at ho
        rw [← hO,← hN] at Zm
        generalize hOO:L.filter (fun e=>decide (e.born<since))=O at ho Zm
        generalize hNN:L.filter (fun e=>decide (e.born≥since))=N at Zm
        have afo:O.isEmpty=(x8 dq seen since).isEmpty:=by
          have h1:=ho.1
          rw [ae4,anM,anl,← cd,← jq,← h1]; rfl
        have Zn:0<((if O.isEmpty then #[none] else #[])++(O++N).map some:Array (Option MapEntry)).size:=by
          by_cases L7:O.isEmpty=true
          · rw [if_pos L7]; simp; omega
          · rw [if_neg L7]
            have:O.size≠0:=fun h=>L7 (anM.2 h)
            simp; omega
        obtain⟨i,w1,hc1,Tv,Tw⟩:=ya (P:=P) (w:=w) Zn
        obtain⟨s1,v1,hp1⟩:=hs.Vm Tw
        have fZ:∀ {R},(match ((if O.isEmpty then #[none] else #[])++(O++N).map some:Array (Option MapEntry))[i]? with
            | some (some e)=>do setObj g (.mapIter (some gm) since (seen.toArray.push e.born) clock); pure (Value.tuple #[.bool true,e.key,e.val])
            | some none=>(pure (Value.tuple #[.bool false]):Sem Value)
            | none=>stuck "Next: no such candidate").run P w1=R→(Instr.next (.pointer (some ⟨g,0,none⟩)) false ty).run P w=R:=fun hR=>by
          rw [← hR]
          simp only [Instr.next,Sem.run_bind,js,Result.andThen_ok,fp hhm,Vn,b9,if_false,← hL,hOO,hNN,hc1]
          rfl
        have hci:=bS Tv
        by_cases n8:i<(if O.isEmpty then #[none] else #[]:Array (Option MapEntry)).size
        · have L7:O.isEmpty=true:=by
            by_cases L7:O.isEmpty=true
            · exact L7
            · rw [if_neg L7] at n8; simp at n8
          rw [if_pos L7] at n8
          have hi0:i=0:=by simp at n8; omega
          subst hi0
          have hold:x8 dq seen since=[]:=by rw [afo] at L7; exact anl.1 L7
          refine⟨_,w1,_,fZ (R:=Result.ok (Value.tuple #[.bool false]) w1) ?_,s1.put dst (.eC _ _ _ rfl fun i c y hc hy=>?_),v1,Zl hold⟩
          · rw [if_pos L7,anD (by simp)]; rfl
          · match i with
            | 0=>simp at hc hy; subst hc; subst hy; exact .sc _ _
            | i+1=>simp at hc
        · obtain⟨j,hj,Vo⟩:∃ j,j<(O++N).size∧((if O.isEmpty then #[none] else #[])++(O++N).map some:Array (Option MapEntry))[i]?=some (some ((O++N)[j]!)):=by
            refine⟨i-(if O.isEmpty then #[none] else #[]:Array (Option MapEntry)).size,?_,?_⟩
            · have:=Tv; simp only [Y5,anF] at this ⊢; omega
            · rw [aoc (by omega),anX]
              have bX:i-(if O.isEmpty then #[none] else #[]:Array (Option MapEntry)).size<(O++N).size:=by have:=Tv; simp only [Y5,anF] at this ⊢; omega
              rw [bS bX,getElem!_pos (O++N) _ bX]; rfl
          rw [getElem!_pos (O++N) _ hj] at Vo
          obtain⟨kb,kh⟩:∃ kb,(x8 dq seen since++L3 dq seen since)[j]?=some kb:=⟨_,ah (by have h1:=Zm.1; simp only [ch,jq] at h1; simp only [ch]; simp only [Y5] at hj; exact Nat.lt_of_lt_of_eq hj h1.symm)⟩
          obtain⟨en,cw,p1,p2,p3⟩:=Zm.get kh
          have afq:(O++N)[j]=en:=by
            have:(O++N).toList[j]?=some en:=by rw [jr]; exact cw
            rw [eX,bS hj] at this
            simpa using this
          rw [afq] at Vo
          have YB:w1.heap[g]?=some (.mapIter (some gm) since seen.toArray last):=by rw [hp1]; exact hh
          have tn:ni E { w1 with heap:=w1.heap.setIfInBounds g (.mapIter (some gm) since (seen.toArray.push en.born) clock) } b (.jc m since (seen++[kb.2.1]) clock):=by
            refine⟨g,gm,0,0,hb,QB,?_,hf⟩
            rw [heap_set YB,p2]; simp
          obtain⟨q1,q2⟩:=s1.DI hB rfl (B':=.jc m since (seen++[kb.2.1]) clock) rfl hb hf qm tn
          refine⟨.tuple #[.bool true,en.key,en.val],_,_,fZ ?_,q1.put dst (JT p1 p3),v1.trans q2,er kb (ay kh)⟩
          rw [Vo]
          have:=iQ (P:=P) (o':=.mapIter (some gm) since (seen.toArray.push en.born) clock) YB (by simp)
          dsimp only
          rw [Sem.run_bind,this]; rfl
      ·exact h.elim
    ·rename_i s pos hB;obtain⟨rfl,yb⟩:=h;obtain⟨g,hb,hh,hf⟩:=hs.mem b _ hB;cases hi with | ptr _ _ _ g' e' c' j9 =>rw [hb] at j9; cases j9;(have js:(getObj g).run P w = .ok (.stringIter s pos) w:=by simp [getObj,Sem.run,hh]);split at yb;(·rename_i bX;obtain⟨q1,q2⟩:=hs.DI hB rfl (B':=.mS s (pos+(Utf8.decode s pos).2)) rfl hb hf (qm (o:=.stringIter s (pos+(Utf8.decode s pos).2))) ⟨g,hb,heap_set hh,hf⟩;refine⟨.tuple #[.bool true,goInt pos,.int .i32 (Utf8.decode s pos).1],_,_,?_,q1.put dst (.eC _ _ _ rfl fun i c y hc hy=>?_),q2,yb⟩;(·have:=iQ (P:=P) (o':=.stringIter s (pos+(Utf8.decode s pos).2)) hh (by simp);simp [Instr.next,js,bX,this]);·match i with | 0=>simp at hc hy; subst hc; subst hy; exact .sc _ _ | 1=>simp at hc hy; subst hc; subst hy; exact .sc _ _ | 2=>simp at hc hy; subst hc; subst hy; exact .sc _ _ | i+3=>simp at hc);·rename_i bX;refine⟨.tuple #[.bool false],w,_,by simp [Instr.next,js,bX],hs.put dst (.eC _ _ _ rfl fun i c y hc hy=>?_),gE.refl _ _,yb⟩;match i with | 0=>simp at hc hy; subst hc; subst hy; exact .sc _ _ | i+1=>simp at hc
    ·rename_i hB;obtain⟨rfl,yb⟩:=h;obtain⟨g,hb,hh,hf⟩:=hs.mem b _ hB;cases hi with | ptr _ _ _ g' e' c' j9 =>rw [hb] at j9; cases j9;(have js:(getObj g).run P w = .ok (.mapIter none 0 #[] 0) w:=by simp [getObj,Sem.run,hh]);refine⟨.tuple #[.bool false],w,_,by simp [Instr.next,js],hs.put dst (.eC _ _ _ rfl fun i c y hc hy=>?_),gE.refl _ _,yb⟩;match i with | 0=>simp at hc hy; subst hc; subst hy; exact .sc _ _ | i+1=>simp at hc
    ·exact h.elim
  ·exact h.elim

def oD (P:Program) (mem:List ba) (T:TypeId) (x:V):Option ba :=
  match x with
  | .mp b=>match mem[b]? with
    | some (.map _ clock)=>match iv P T with | some _=>some (.jc b clock [] clock) | none=>none
    | _=>none
  | .sc (.map none)=>match iv P T with | some _=>some .nh | none=>none
  | .sc (.string s)=>match P.underlying T with | some .string=>some (.mS s 0) | _=>none
  | _=>none
theorem Ix {E:Env} {w:World} {a:Act} {st:St} (hs:cU E w a st) (o:Nat):E.F ⟨w.heap.size,o,none⟩=none:=by cases hx:E.F ⟨w.heap.size,o,none⟩ with | none=>rfl | some x=>have:=World.block_lt_of_cell? w _ (hs.F _ _ hx); simp at this
theorem cU.newObj {E:Env} {w:World} {a:Act} {st:St} (hs:cU E w a st) {key:Nat} (hk:iR st.mem key) {obj:Obj} {B:ba} (hv:B.dw=0) (hB:ni (E.with key 0 (w.heap.size,0,0)) (w.alloc obj) key B) :
    ∃ E',cU E' (w.alloc obj) a { st with mem:=c7 st.mem key B }∧gE E w E' (w.alloc obj)∧E'.cj key 0=some (w.heap.size,0,0):=by have:=hs.new (obj:=obj) (B:=B) (e:=0) (c:=0) hk hv hB;exact⟨_,this.1,this.2,if_pos ⟨rfl,rfl⟩⟩
theorem yc {P:Program} {E:Env} {w:World} {a:Act} {st:St} (hs:cU E w a st) {key:Nat} (hk:iR st.mem key) {T:TypeId} {x:V} {y:Value} {B:ba} (hx:cK E x y) (h:oD P st.mem T x=some B) :
    ∃ E' w',(Instr.range T y).run P w = .ok (.pointer (some ⟨w.heap.size,0,none⟩)) w'∧cU E' w' a { st with mem:=c7 st.mem key B }∧gE E w E' w'∧cK E' (.ptr key 0) (.pointer (some ⟨w.heap.size,0,none⟩)):=by
  have fg:(E.with key 0 (w.heap.size,0,0)).cj key 0=some (w.heap.size,0,0):=if_pos ⟨rfl,rfl⟩;unfold oD at h;split at h;·rename_i b;split at h;(·rename_i dq clock hB;split at h;(·rename_i p hp;cases h;obtain⟨kt,et⟩:=p;have hd:=kz hp;obtain⟨g,e,c,rfl,hb⟩:=sB hx;obtain⟨es,hh,hr,-⟩:=l0 hs hB hb;(have dK:b≠key:=fun e=>by subst e; rw [hs.free hk 0] at hb; cases hb);obtain⟨E',h1,h2,h3⟩:=hs.newObj hk (obj:=.mapIter (some g) clock #[] clock) (B:=.jc b clock [] clock) rfl ⟨w.heap.size,g,e,c,fg,(if_neg fun h=>dK h.1).trans hb,heap_alloc_new w _,fun o=>Ix (E:=E) hs o⟩;exact⟨E',_,by simp [Instr.range,bn hd,fp hh,newObj,Sem.run],h1,h2,.ptr _ _ _ _ 0 0 h3⟩);·cases h);·cases h
  ·obtain rfl:=rf hx;split at h;(·rename_i p hp;cases h;obtain⟨kt,et⟩:=p;have hd:=kz hp;obtain⟨E',h1,h2,h3⟩:=hs.newObj hk (obj:=.mapIter none 0 #[] 0) (B:=.nh) rfl ⟨w.heap.size,fg,heap_alloc_new w _,fun o=>Ix (E:=E) hs o⟩;exact⟨E',_,by simp [Instr.range,bn hd,newObj,Sem.run],h1,h2,.ptr _ _ _ _ 0 0 h3⟩);·cases h
  ·rename_i s;obtain rfl:=rf hx;split at h;(·rename_i hd;cases h;obtain⟨E',h1,h2,h3⟩:=hs.newObj hk (obj:=.stringIter s 0) (B:=.mS s 0) rfl ⟨w.heap.size,fg,heap_alloc_new w _,fun o=>Ix (E:=E) hs o⟩;exact⟨E',_,by simp [Instr.range,bn hd,newObj,Sem.run],h1,h2,.ptr _ _ _ _ 0 0 h3⟩);·cases h
  ·cases h
theorem Ax {P:Program} {E:Env} {w:World} {a:Act} {st:St} (hs:cU E w a st) {key:Nat} (hk:iR st.mem key) (T:TypeId) :
    ∃ E' w',(Instr.makeMap T none).run P w = .ok (.map (some w.heap.size)) w'∧cU E' w' a { st with mem:=c7 st.mem key (.map [] 0) }∧gE E w E' w'∧cK E' (.mp key) (.map (some w.heap.size)):=by have fg:(E.with key 0 (w.heap.size,0,0)).cj key 0=some (w.heap.size,0,0):=if_pos ⟨rfl,rfl⟩;obtain⟨E',h1,h2,h3⟩:=hs.newObj hk (obj:=.map #[] 0) (B:=.map [] 0) rfl ⟨w.heap.size,#[],fg,heap_alloc_new w _,⟨rfl,fun i k e h=>by simp at h⟩,fun o=>Ix (E:=E) hs o⟩;exact⟨E',_,by simp [Instr.makeMap,newObj,Sem.run],h1,h2,.mp _ _ _ 0 0 h3⟩
def xw (i:Ti):V:=if i.agg=true then .agg (i.zero.map fun z=>jX (.sc z)) else match i.zero with | z :: _=>jX (.sc z) | []=>.undef
def wy (tt:Table) (T:TypeId) (l c:V):Option (Nat×List V×Nat) :=
  match l,c with
  | .sc (.int _ l),.sc (.int _ c)=>match iM tt T with
    | some e=>match tt e with
      | some i=>if 0≤l∧l≤c∧i.bytes*c≤281474976710656∧c≤1152921504606846976∧0<i.size∧i.zero.length=i.size∧i.zero.all Value.oneCell'=true∧(i.agg=true∨i.size=1) then some (i.size,List.replicate l.toNat (xw i),c.toNat) else none
      | none=>none
    | none=>none
  | _,_=>none
theorem Ay {i:Ti} (h:i.agg=true∨i.size=1) (hz:i.zero.length=i.size):(xw i).cells=i.zero.map fun z=>jX (.sc z):=by
  unfold xw;split;·rfl
  · rename_i hn
    have h1 : i.size = 1 := by rcases h with h | h
                               · exact absurd h hn
                               · exact h
    match Zo:i.zero with | []=>rw [Zo] at hz; simp at hz; omega | [z]=>simp only [cB,dY]; unfold jX; split <;> rfl | _ :: _ :: _=>rw [Zo] at hz; simp at hz; omega
theorem DQ {P:Program} {tt:Table} (ht:TT P tt) {E:Env} {w:World} {a:Act} {st:St} (hs:cU E w a st) {key:Nat} (hk:iR st.mem key) {T:TypeId} {l c:V} {x y:Value} {size cap:Nat} {rs:List V} (hl:cK E l x) (hc:cK E c y)
    (h:wy tt T l c=some (size,rs,cap)) :
    ∃ E' w',(Instr.makeSlice T x y).run P w = .ok (.slice (some ⟨w.heap.size,0,none⟩) rs.length cap) w'∧cU E' w' a { st with mem:=c7 st.mem key (.rows 0 size rs) }∧gE E w E' w'∧cK E' (.ms key 0 0 rs.length) (.slice (some ⟨w.heap.size,0,none⟩) rs.length cap):=by
  unfold wy at h;split at h;·rename_i k1 l k2 c;obtain rfl:=rf hl;obtain rfl:=rf hc;unfold iM at h;cases hT:tt T with | none=>rw [hT] at h; simp at h | some iT =>rw [hT] at h; simp only at h;cases he:iT.elem with | none=>rw [he] at h; simp at h | some e =>rw [he] at h; simp only at h;cases hE:tt e with | none=>rw [hE] at h; simp at h | some i =>rw [hE] at h; simp only at h;split at h;(·rename_i qi;obtain⟨h0,h1,hb,yd,x5,DK,o0,Q3⟩:=qi;cases h;obtain⟨d,hd,-,BF,-⟩:=ht.desc T iT hT;obtain rfl:=BF e he;obtain⟨info,Ao,Tt,Zh,z,hz,Zo⟩:=ht.size e i hE;(have Vh:z.cells.size=i.size:=by rw [← DK,← Zo]; simp);(have hwl:IntKind.i64.wrap l=l:=by rw [IntWalk.i64_in _ (by omega)]);(have hwc:IntKind.i64.wrap c=c:=by rw [IntWalk.i64_in _ (by omega)]);obtain⟨xs,u6⟩:∃ xs:Array Value,xs=(Array.range (c.toNat*i.size)).map (z.cells[· % z.cells.size]!):=⟨_,rfl⟩;(have fZ:(Instr.makeSlice T (.int k1 l) (.int k2 c)).run P w = .ok (.slice (some ⟨w.heap.size,0,none⟩) l.toNat c.toNat) (w.alloc (.cells xs e (0,0))):=by (have e0:(decide (c<0)||decide ((info.bytes:Int)*c>2 ^ 48))=false:=by rw [Zh];simp only [anu,decide_eq_false_iff_not];exact⟨by omega,by omega⟩);(have e1:(decide (l<0))=false:=by simp; omega);(have e2:(decide (l>c))=false:=by simp; omega);(have Zp:(zeroValue e).run P (w) = .ok z w:=by simp [zeroValue,gg Ao,hz]);simp only [Instr.makeSlice,Sem.run_bind,bn hd,Result.andThen_ok,asInt,asIntOf,Sem.run_pure,gg Ao,hwl,hwc,e0,e1,e2,bu,b9,if_false,run_askRoom,gG Ao,Tt];by_cases hn:c.toNat*i.size=0;(·(have Iu:xs = #[]:=by rw [u6,hn]; simp);have Vj:∀ f:Nat→Value,Array.map f (Array.range 0) = #[]:=fun f=>Array.eq_empty_of_size_eq_zero (by simp);simp only [hn,if_true,Sem.run_pure,Result.andThen_ok,Vj,Iu];rfl);·simp only [hn,if_false,Sem.run_bind,Zp,Result.andThen_ok,Sem.run_pure];simp [newRow,u6]);obtain⟨E',g1,g2,g3⟩:=hs.tz hk (xs:=xs) (rs:=List.replicate l.toNat (xw i)) (e:=i.size) (c:=c.toNat) e (by rw [u6]; simp) (by simp; omega) (fun q row hq=>by rw [anx] at hq;split at hq;(·rename_i hql;cases hq;have ql:=Ay Q3 DK;refine⟨by rw [ql]; simpa using DK,fun j cc hj=>?_⟩;rw [ql,ae,br] at hj;obtain⟨v,hv,rfl⟩:=hj;(have Gb:j<i.size:=by rw [← DK]; exact (ax.1 hv).1);(have bX:q*i.size+j<c.toNat*i.size:=by have:(q+1)*i.size≤c.toNat*i.size:=kJ _ (by omega);rw [mR] at this; omega);(have afr:(q*i.size+j) % i.size=j:=by rw [am2,Nat.add_mul_mod_self_right,Nat.mod_eq_of_lt Gb]);refine⟨v,?_,aY.1 o0 v (ay hv),oC (.sc _ _)⟩;rw [u6];(have hzj:z.cells[j]?=some v:=by rw [← eX,Zo]; exact hv);(have hjz:j<z.cells.size:=by omega);simp only [anX,Array.getElem?_range,bX,if_true,bz,Vh,afr];rw [getElem!_pos z.cells j hjz];rw [bS hjz] at hzj;exact hzj);·cases hq);refine⟨E',_,?_,g1,g2,?_⟩;(·simpa using fZ);·simpa using g3);·cases h
  ·cases h
end Go.Eng
end

section
namespace Go.Eng
variable [a6]
open Go.RowKit (Below)
def nR (tt:Table) (mem:List ba) (ts:List TypeId) (s x:V):Option (Nat×Nat×Nat×Nat×List V×List V) :=
 match s with
 | .ms b v o l=>match mem[b]? with
  | some (.rows v' eb rs)=>match ts with
   | [t,u]=>match iM tt t with
    | some e=>match iM tt u with
     | some _=>match tt e with
      | some i =>
       if v'=v∧eb=i.size∧o+l=rs.length∧0<i.size∧i.bytes≤4096∧i.zero.length=i.size then
        match rowsOf mem i.size x with
        | some xs=>if l+xs.length≤34359738368 then some (i.size,b,v,l,rs.drop o,xs) else none
        | none=>none
       else none
      | none=>none
     | none=>none
    | none=>none
   | _=>none
  | _=>none
 | _=>none
theorem Az {P:Program} {tt:Table} (ht:TT P tt) {E:Env} {w:World} {a:Act} {st:St} (hs:cU E w a st) {ts:Array TypeId} {ty:TypeId} {s x:V} {y z:Value} {size b v l:Nat} {rs0 xs:List V}
  (Gy:cK E s y) (JQ:cK E x z) (h:nR tt st.mem ts.toList s x=some (size,b,v,l,rs0,xs)) :
  ∃ u w' E' o' mo,(Builtin.append_ ts ty #[y,z]).run P w = .ok u w'∧mo.drop o'=rs0++xs∧o'+(l+xs.length)=mo.length∧cU E' w' a { st with mem:=st.mem.set b (.rows (v+1) size mo) }∧gE E w E' w'∧cK E' (.ms b (v+1) o' (l+xs.length)) u:=by
 unfold nR at h;split at h
 ·rename_i b1 v1 o l1;split at h
  ·rename_i v' eb rs hm;split at h
   ·rename_i t u AX;obtain rfl:ts = #[t,u]:=by rw [← cL (xs:=ts),AX]
    split at h
    ·rename_i e he;split at h
     ·rename_i e' LA;split at h
      ·rename_i i hE;split at h
       ·rename_i hc;obtain⟨rfl,rfl,TC,x5,x6,DK⟩:=hc;split at h
        ·rename_i sF u6;split at h
         ·rename_i hlen;simp only [aB,dQ] at h;obtain⟨rfl,rfl,rfl,rfl,rfl,rfl⟩:=h;have und:∀ {t e:TypeId},iM tt t=some e→P.underlying t=some (.slice e):=fun {t e} he=>by unfold iM at he;split at he;(·rename_i iu hU;obtain⟨d,hd,-,BF,-⟩:=ht.desc t iu hU;rw [hd,BF e he]);simp at he
          have hd:=und he;have Dp:=und LA;obtain⟨info,Ao,Tt,Zh,z0,Vg,Va⟩:=ht.size e i hE;have Vh:z0.cells.size=info.size:=by rw [Tt,← DK,← Va]; simp
          rw [← Tt] at u6 x5 hm ⊢;rw [← Zh] at x6;have Tu:cU E w.drew a st:=hs.drew;obtain⟨xa,xc,rfl,hxc,xA,Lz,QH⟩:=iS (P:=P) hs JQ u6;obtain⟨xa',xc',heq,-,xB,Zi,Vi⟩:=iS (P:=P) Tu JQ u6;simp only [Value.slice.injEq] at heq;obtain⟨rfl,-,rfl⟩:=heq
          have Au:∀ jd,jd<l1+sF.length→Builtin.nextslicecap (l1+sF.length) jd*info.bytes≤281474976710656:=fun jd bX =>
           growslice_fits bX (AO (anE hlen x6) (by decide))
          have kq:(rs.drop o).length=l1:=by rw [aep]; omega
          have rV:(rs.drop o++sF).length=l1+sF.length:=by rw [ch,kq]
          have jw:∀ jd,l1+sF.length≤grownCap w (l1+sF.length) jd e:=fun jd=>grownCap_ge w (l1+sF.length) jd e;have U9:rowsOf st.mem info.size (.ms b1 v' o l1)=some (rs.drop o):=by (have h1:o+l1≤rs.length:=by omega);simp [rowsOf,hm,h1];rw [bE (by rw [aep]; omega)]
          obtain⟨sa,sc,rfl,hsc,A,tF,u7⟩:=iS (P:=P) Tu Gy U9;rw [kq] at tF Gy ⊢;have ql:∀ jd,(A++xB++Builtin.zeroCells z0.cells (grownCap w (l1+sF.length) jd e-(l1+sF.length))).size=grownCap w (l1+sF.length) jd e*info.size:=fun jd=>by simp only [Y5,size_zeroCells,Vh,u7.1,Vi.1,kq,← iL];congr 1; have:=jw jd; omega
          by_cases tC:l1+sF.length≤sc
          ·rcases BV Gy with ⟨U7,L0⟩ | ⟨g,eb',c,sa',sc',L0,hb,hl,Qz,AS⟩
           ·simp only [Value.slice.injEq] at L0;obtain⟨rfl,afk,rfl⟩:=L0;have Iu:sF=[]:=cd.1 (by omega);subst Iu;(have Gz:l1=0:=by omega);subst Gz;have Vj:rs.drop o=[]:=cd.1 kq;rw [Vj];exact⟨_,w,E,0,[],jv (ty:=ty) hd Dp Ao xc xa xA Lz,rfl,rfl,hs.DN hm,gE.refl E w,.iz _ _ _ _⟩
           simp only [Value.slice.injEq] at L0;obtain⟨rfl,-,rfl⟩:=L0;obtain⟨hc1,Tv,Tw⟩:=AS;rcases hs.mem b1 _ hm with ⟨-,hn⟩ | ⟨g',T',cur,c',j9,hh,BB,n9,AU,hf⟩
           ·rw [hb] at hn; cases hn
           rw [hb] at j9; cases j9;by_cases afs:sc=0
           ·
            have Iu:sF=[]:=cd.1 (by omega)
            subst Iu
            have Gz:l1=0:=by omega
            subst Gz
            subst afs
            have Vj:rs.drop o=[]:=cd.1 kq
            have fZ:(Builtin.append_ #[t,u] ty #[.slice sa 0 0,.slice xa 0 xc]).run P w = .ok (.slice sa 0 0) w:=by
             cases sa with
             | none=>exact jv (ty:=ty) hd Dp Ao xc xa xA Lz
             | some ad =>
              have hxe:xA.toList=[]:=by
               have:=QH.1
               simp at this
               simpa using this
              have hfc:(Builtin.firstCells info.size 0 (.slice xa 0 xc)).run P w = .ok xA w:=Lz
              simp [Builtin.append_,bn hd,bn Dp,gG Ao,Builtin.lenOf,hfc,hxe,storeCells]
            have hle:E.le (E.with b1 (v'+1) (g,info.size,c)):=Env.l4 (hs.dw b1 _ hm _ (kW v')) _
            have fg:(E.with b1 (v'+1) (g,info.size,c)).cj b1 (v'+1)=some (g,info.size,c):=if_pos ⟨rfl,rfl⟩
            refine⟨_,w,E.with b1 (v'+1) (g,info.size,c),o,rs,fZ,by simp [Vj],by omega,hs.renew hm hs.F (aw _) (hs.lt _ _ _ _ _ hb) (fun k B' kh jA Tz g' e' c' fA=>⟨rfl,fun e=>by subst e; exact kh (hs.apart _ _ _ _ _ _ _ _ _ fA hb)⟩) ?_ (fun k v2 e2 c2 h=>hs.apart _ _ _ _ _ _ _ _ _ h hb),
             ⟨hle,fun k q g' e' c' kh=>?_,fun ad y hy=>.inl hy,rfl,rfl,rfl,aw _,fun _ _ _=>rfl⟩,?_⟩
            ·exact .inr ⟨g,T',cur,c,fg,hh,BB,n9,fun q row hq=>let ⟨h3,h4⟩:=AU q row hq; ⟨h3,fun j cc hj=>let ⟨v,hv,Gc,JS⟩:=h4 j cc hj; ⟨v,hv,Gc,JS.mono (Env.kp hle)⟩⟩,hf⟩
            ·by_cases hq:k=b1∧q=v'+1
             ·obtain⟨rfl,rfl⟩:=hq; rw [fg] at kh; cases kh; exact .inl ⟨_,_,_,_,hb⟩
             have:(E.with b1 (v'+1) (g,info.size,c)).cj k q=E.cj k q:=if_neg hq
             rw [this] at kh; exact .inl ⟨_,_,_,_,kh⟩
            exact .ms _ _ _ _ _ g info.size c _ _ fg (fun h=>absurd h (by simp)) (fun h=>Qz h) ⟨by simp,Tv,fun h=>absurd h (am0 _)⟩
           obtain rfl:=Tw (by omega);have x7:rs.length*info.size+xA.toList.length≤cur.size:=by have:=QH.1;simp only [jq];rw [this,BB,← iL]; exact kJ _ (by omega)
           obtain⟨w',vi,QE,BX⟩:=kA (P:=P) (g:=g) (T:=T') (rs.length*info.size) xA.toList 0 w cur hh (by simpa using x7) (wv x5 QH);have fZ:(Builtin.append_ #[t,u] ty #[.slice (some ⟨g,o*info.size,none⟩) l1 sc,.slice xa sF.length xc]).run P w = .ok (.slice (some ⟨g,o*info.size,none⟩) (l1+sF.length) sc) w':=by (have L8:(storeCells (Addr.add ⟨g,o*info.size,none⟩ (l1*info.size)) xA.toList).run P w = .ok () w':=by rw [add_lit,← iL,TC]; exact vi);simp [Builtin.append_,bn hd,bn Dp,gG Ao,Builtin.lenOf,tC,Lz,L8]
           have hle:E.le (E.with b1 (v'+1) (g,info.size,c)):=Env.l4 (hs.dw b1 _ hm _ (kW v')) _;have fg:(E.with b1 (v'+1) (g,info.size,c)).cj b1 (v'+1)=some (g,info.size,c):=if_pos ⟨rfl,rfl⟩
           refine⟨_,w',E.with b1 (v'+1) (g,info.size,c),o,rs++sF,fZ,by rw [List.drop_append_of_le_length (by omega)],by rw [ch]; omega,hs.renew hm (fun ad y hy=>?_) (by rw [BX.size]; exact aw _) (by rw [BX.size]; exact hs.lt _ _ _ _ _ hb) (fun k B' kh jA Tz g' e' c' fA=>?_) ?_ (fun k v2 e2 c2 h=>hs.apart _ _ _ _ _ _ _ _ _ h hb),
            ⟨hle,fun k q g' e' c' kh=>?_,fun ad y hy=>.inl hy,BX.os,BX.tape,BX.output,by rw [BX.size]; exact aw _,fun b' j9 dK=>BX.heap b' fun e=>by subst e; exact dK _ _ _ _ hb⟩,?_⟩
           ·have dK:=hs.BQ hf hy;rw [← hs.F ad y hy]; simp [World.cell?,BX.heap _ dK]
           ·(have Zk:g'≠g:=fun e=>by subst e;exact kh (hs.apart _ _ _ _ _ _ _ _ _ fA hb));exact⟨BX.heap _ Zk,Zk⟩
           ·refine .inr ⟨g,T',_,c,fg,QE,by rw [k6]; exact BB,by rw [ch]; omega,?_,hf⟩;intro q row hq;simp only [jS];(have hxl:xA.toList.length=sF.length*info.size:=by simpa using QH.1);rw [Tn] at hq;split at hq;(·rename_i bX;obtain⟨h3,h4⟩:=AU q row hq;refine⟨h3,fun j cc hj=>?_⟩;obtain⟨v,hv,Gc,JS⟩:=h4 j cc hj;(have Gb:j<info.size:=by rw [← h3]; exact (ax.1 hj).1);refine⟨v,?_,Gc,JS⟩;rw [jB _ _ _ _ x7,if_neg (by have:=xY bX Gb; omega)];exact hv);rename_i afn;obtain⟨h3,h4⟩:=QH.2 _ row hq;refine⟨h3,fun j cc hj=>?_⟩;obtain⟨v,hv,Gc,JS⟩:=h4 j cc hj;(have Gb:j<info.size:=by rw [← h3]; exact (ax.1 hj).1);have hql:q-rs.length<sF.length:=(ax.1 hq).1;(have hmul:q*info.size=rs.length*info.size+(q-rs.length)*info.size:=by rw [← iL]; congr 1; omega);refine⟨v,?_,Gc,JS⟩;rw [jB _ _ _ _ x7,if_pos (by have:=xY hql Gb; omega)];dsimp only at hv;rw [← hv,eX];congr 1; omega
           ·by_cases hq:k=b1∧q=v'+1;(·obtain⟨rfl,rfl⟩:=hq; rw [fg] at kh; cases kh; exact .inl ⟨_,_,_,_,hb⟩);have:(E.with b1 (v'+1) (g,info.size,c)).cj k q=E.cj k q:=if_neg hq;rw [this] at kh; exact .inl ⟨_,_,_,_,kh⟩
           exact .ms _ _ _ _ _ g info.size c _ _ fg (fun _=>rfl) (fun h=>Qz h) ⟨tC,Tv,fun _=>rfl⟩
          have bX:sc<l1+sF.length:=by omega
          have fZ:=k8 (ty:=ty) hd Dp Ao Vg sa l1 sc sF.length xc xa A xB tF Zi bX (by omega) (Au sc bX);have hle:E.le (E.with b1 (v'+1) (w.heap.size,info.size,grownCap w (l1+sF.length) sc e)):=Env.l4 (hs.dw b1 _ hm _ (kW v')) _;have fg:(E.with b1 (v'+1) (w.heap.size,info.size,grownCap w (l1+sF.length) sc e)).cj b1 (v'+1)=some (w.heap.size,info.size,grownCap w (l1+sF.length) sc e):=if_pos ⟨rfl,rfl⟩
          refine⟨_,_,E.with b1 (v'+1) (w.heap.size,info.size,grownCap w (l1+sF.length) sc e),0,rs.drop o++sF,fZ,rfl,by rw [rV]; omega,hs.renew hm (fun ad y hy=>?_) (by simp) (by simp) (fun k B' kh jA Tz g' e' c' fA=>?_) ?_ (fun k v2 e2 c2 h=>absurd (hs.lt _ _ _ _ _ h) (am0 _)),
           ⟨hle,fun k q g' e' c' kh=>?_,fun ad y hy=>.inl hy,rfl,rfl,rfl,by simp,fun b' j9 dK=>dL w.drew _ b' j9⟩,?_⟩
          ·rw [World.cell?_alloc_lt w.drew _ ad (World.block_lt_of_cell? w ad (hs.F ad y hy))]; exact hs.F ad y hy
          ·have:=hs.lt _ _ _ _ _ fA;exact⟨dL w.drew _ g' this,by omega⟩
          ·refine .inr ⟨w.heap.size,e,_,_,fg,heap_alloc_new w.drew _,ql sc,by rw [rV]; exact jw sc,?_,fun o=>?_⟩;(·intro q row hq;obtain⟨h3,h4⟩:=l5 (C:=Builtin.zeroCells z0.cells (grownCap w (l1+sF.length) sc e-(l1+sF.length))) u7 Vi q row hq;exact⟨h3,fun j cc hj=>let ⟨v,hv,Gc,JS⟩:=h4 j cc hj; ⟨v,hv,Gc,JS.mono (Env.kp hle)⟩⟩);show E.F _=none;cases hx:E.F ⟨w.heap.size,o,none⟩ with | none=>rfl | some x=>have:=World.block_lt_of_cell? w _ (hs.F _ _ hx); simp at this
          ·by_cases hq:k=b1∧q=v'+1;(·obtain⟨rfl,rfl⟩:=hq; rw [fg] at kh; cases kh; exact .inr (aw _));have:(E.with b1 (v'+1) (w.heap.size,info.size,grownCap w (l1+sF.length) sc e)).cj k q=E.cj k q:=if_neg hq;rw [this] at kh; exact .inl ⟨_,_,_,_,kh⟩
          exact .ms _ _ _ _ _ w.heap.size info.size _ _ _ fg (fun _=>by simp) (fun _=>⟨rfl,rfl⟩) ⟨jw sc,ct _,fun _=>by simp⟩
         simp at h
        simp at h
       simp at h
      simp at h
     simp at h
    simp at h
   simp at h
  simp at h
 simp at h
end Go.Eng
end

section
namespace Go.Eng
variable [a6]
open Go.RowKit (Below)

def dg (mem:List ba):V→Option V
  | .undef=>some .undef
  | .sc v=>some (jX (.sc v))
  | .slice rows=>some (.slice rows)
  | .full rows=>some (.slice rows)
  | .eL cs=>some (.eL cs)
  | .gn=>some .gn
  | .ms b v s l=>match mem[b]? with
    | some (.rows v' _ rs)=>if v'=v∧s+l≤rs.length then some (.slice ((rs.drop s).take l)) else none
    | some (.tv v' _ rs)=>if v'=v∧s+l≤rs.length then some (.slice ((rs.drop s).take l)) else none
    | _=>none
  | .cC f [] []=>some (.sc (.func f #[] #[]))
  | _=>none
def gJ (mem:List ba):List V→Option (List V)
  | []=>some []
  | c :: r=>match dg mem c with
    | some c'=>match gJ mem r with | some r'=>some (c' :: r') | none=>none
    | none=>none
def gu (mem:List ba):V→Option V
  | .agg cs=>match gJ mem cs with | some l=>some (.agg l) | none=>none
  | v=>dg mem v
def fh (mem:List ba):List V→Option (List V)
  | []=>some []
  | c :: r=>match gu mem c with
    | some c'=>match fh mem r with | some r'=>some (c' :: r') | none=>none
    | none=>none
def DR (mem:List ba):V→Option V
  | .eC vs=>match fh mem vs with | some l=>some (.eC l) | none=>none
  | v=>gu mem v

def kr:V→List (Nat×Nat)
  | .ms b v _ _=>[(b,v)]
  | _=>[]
def eR:V→List (Nat×Nat)
  | .agg cs=>cs.flatMap kr
  | v=>kr v
def refs:V→List (Nat×Nat)
  | .eC vs=>vs.flatMap eR
  | v=>eR v

def Env.oX (E:Env) (w:World) (keys:List (Nat×Nat)):Env :=
  { F:=fun ad=>match E.F ad with
      | some x=>some x
      | none=>if keys.any (fun k=>match E.cj k.1 k.2 with | some (g,_,_)=>g==ad.block | none=>false) then w.cell? ad else none
    cj:=E.cj
    gl:=E.gl.mono fun ad x h=>by simp only [h] }
theorem Env.vo (E:Env) (w:World) (keys:List (Nat×Nat)):E.le (E.oX w keys):=⟨fun ad x h=>by simp [Env.oX,h],fun _ _ _ h=>h⟩
theorem Env.Iy {E:Env} {w:World} {keys:List (Nat×Nat)} (hF:∀ ad x,E.F ad=some x→w.cell? ad=some x) {ad:Addr} {x:Value} (h:(E.oX w keys).F ad=some x):w.cell? ad=some x:=by
  unfold Env.oX at h;dsimp only at h;split at h;·rename_i y hy; cases h; exact hF _ _ hy
  ·split at h;(·exact h);·cases h
theorem Env.B6 {E:Env} {w:World} {keys:List (Nat×Nat)} {ad:Addr} {x:Value} (h:(E.oX w keys).F ad=some x):E.F ad=some x∨∃ k∈keys,∃ e c,E.cj k.1 k.2=some (ad.block,e,c):=by
  unfold Env.oX at h;dsimp only at h;split at h;·rename_i y hy; cases h; exact .inl hy
  ·split at h;(·rename_i dC;obtain⟨k,hk,hm⟩:=am3.1 dC;split at hm;(·rename_i g e c hb;simp only [beq_iff_eq] at hm; subst hm;exact .inr ⟨k,hk,e,c,hb⟩);·cases hm);·cases h
theorem Env.Vp {E:Env} {w:World} {keys:List (Nat×Nat)} {k v g e c:Nat} (hk:(k,v)∈keys) (hb:E.cj k v=some (g,e,c)) {o:Nat} {x:Value} (hn:E.F ⟨g,o,none⟩=none) (hx:w.cell? ⟨g,o,none⟩=some x):(E.oX w keys).F ⟨g,o,none⟩=some x:=by have:keys.any (fun k=>match E.cj k.1 k.2 with | some (g',_,_)=>g'==g | none=>false)=true:=am3.2 ⟨(k,v),hk,by simp [hb]⟩;unfold Env.oX;dsimp only;rw [hn];dsimp only;rw [if_pos this]; exact hx

theorem DS {E:Env} {w:World} {a:Act} {st:St} (hs:cU E w a st) {keys:List (Nat×Nat)} {k v g e c:Nat} (hk:(k,v)∈keys) (hb:E.cj k v=some (g,e,c)) {B:ba} (hm:st.mem[k]?=some B) {rs:List V} {e':Nat}
    (hB:B = .rows v e' rs∨B = .tv v e' rs):e'=e∧rs.length≤c∧lI E.pure e rs (fun o=>(E.oX w keys).F ⟨g,o,none⟩):=by
  rcases hB with rfl | rfl
  ·(rcases hs.mem k _ hm with ⟨-,hn⟩ | ⟨g',T,xs,c',j9,hh,lZ,hl,hr,hf⟩);(·rw [hb] at hn; cases hn);·rw [hb] at j9; cases j9;refine⟨rfl,hl,fun i row hi=>?_⟩;obtain⟨h1,h2⟩:=hr i row hi;exact⟨h1,fun j cc hj=>let ⟨x,hx,h⟩:=h2 j cc hj; ⟨x,Env.Vp hk hb (hf _) (by rw [nM hh]; exact hx),h⟩⟩
  ·(rcases hs.mem k _ hm with ⟨-,hn⟩ | ⟨g',c',j9,hl,hr⟩);(·rw [hb] at hn; cases hn);rw [hb] at j9; cases j9;refine⟨rfl,hl,fun i row hi=>?_⟩;obtain⟨h1,h2⟩:=hr i row hi;exact⟨h1,fun j cc hj=>let ⟨x,hx,h⟩:=h2 j cc hj; ⟨x,(Env.vo E w keys).F _ _ hx,h⟩⟩

theorem oc {E:Env} {w:World} {a:Act} {st:St} (hs:cU E w a st) {keys:List (Nat×Nat)} {v v':V} {x:Value} (hr:cK E v x) (h:dg st.mem v=some v') (hk:∀ k∈kr v,k∈keys):cK (E.oX w keys).pure v' x:=by
  have hle:=Env.kp (Env.vo E w keys)
  have Vb:∀ {b v s l:Nat} {B:ba} {rs:List V} {e':Nat},cK E (.ms b v s l) x→(b,v)∈keys→st.mem[b]?=some B→(B = .rows v e' rs∨B = .tv v e' rs)→s+l≤rs.length→cK (E.oX w keys).pure (.slice ((rs.drop s).take l)) x:=by
    intro b v s l B rs e' hr fA hm hB hl;have hlen:((rs.drop s).take l).length=l:=by simp; omega
    rcases BV hr with ⟨rfl,rfl⟩ | ⟨g,e,c,aa,cap,rfl,hb,Gz,-,hlc⟩
    ·rw [show (rs.drop s).take 0=[] from by simp];exact .slice _ [] none 0 0 default (fun _ _=>default) (by simp) (by simp) (by simp) (by simp) (by simp) (by simp)
    · obtain⟨rfl,rV,Ze⟩:=DS hs fA hb hm hB
      have js:∀ (i:Nat) (row:V) (j:Nat) (cc:V),((rs.drop s).take l)[i]?=some row→row.cells[j]?=some cc→∃ y,(E.oX w keys).F ⟨g,(s+i)*e'+j,none⟩=some y∧y.oneCell'=true∧cK E.pure cc y:=fun i row j cc hi hj =>
        (Ze _ _ (xu hi)).2 j cc hj
      let xf:Nat→Nat→Value:=fun i j=>((E.oX w keys).F ⟨g,(s+i)*e'+j,none⟩).getD default;have Dz:cK (E.oX w keys).pure (.slice ((rs.drop s).take l)) (.slice aa ((rs.drop s).take l).length cap):=by refine .slice _ _ _ _ e' ⟨g,s*e',none⟩ xf (fun dK=>Gz ?_) (by rw [hlen]; exact hlc.1) (fun i row hi=>(Ze _ _ (xu hi)).1) (fun i row j cc hi hj=>?_) (fun i row j cc hi hj=>?_) fun i row j cc hi hj=>?_;(·have:((rs.drop s).take l).length≠0:=fun h0=>dK (cd.1 h0);omega);(·obtain⟨y,hy,-⟩:=js i row j cc hi hj;(have Vl:s*e'+(i*e'+j)=(s+i)*e'+j:=by rw [iL]; omega);rw [add_lit,Vl];show (E.oX w keys).F _=some (xf i j);simp [xf,hy]);(·obtain⟨y,hy,h1,-⟩:=js i row j cc hi hj;simp [xf,hy,h1]);·obtain⟨y,hy,-,h2⟩:=js i row j cc hi hj;(have:xf i j=y:=by simp [xf,hy]);rw [this]; exact h2.mono hle
      rw [hlen] at Dz; exact Dz
  unfold dg at h;split at h;·simp only [aB] at h; subst h; exact .undef _ _
  ·simp only [aB] at h; subst h; exact oC (by rw [fY hr]; exact .sc _ _)
  ·simp only [aB] at h; subst h;cases hr with | slice _ _ a cap sy ad xf ha mW hz hF h1 hR=>exact (cK.slice E.pure _ a cap sy ad xf ha mW hz hF h1 hR).mono hle
  ·simp only [aB] at h; subst h;cases hr with | full _ _ a h =>cases h with | slice _ _ a cap sy ad xf ha mW hz hF h1 hR=>exact (cK.slice E.pure _ a _ sy ad xf ha (aw _) hz hF h1 hR).mono hle
  ·simp only [aB] at h; subst h;cases hr with | eL _ _ ad xf hF hR=>exact (cK.eL E.pure _ ad xf hF hR).mono hle
  ·simp only [aB] at h; subst h;cases hr with | gn=>exact .gn _
  ·rename_i b v s l;have fA:(b,v)∈keys:=hk (b,v) (by simp [kr]);split at h;(·rename_i v' e rs hm;split at h;(·rename_i hl; obtain⟨rfl,hl⟩:=hl; simp only [aB] at h; subst h; exact Vb hr fA hm (.inl rfl) hl);·cases h);(·rename_i v' e rs hm;split at h;(·rename_i hl; obtain⟨rfl,hl⟩:=hl; simp only [aB] at h; subst h; exact Vb hr fA hm (.inr rfl) hl);·cases h);·cases h
  ·simp only [aB] at h; subst h;cases hr with | cC _ f _ _ xs ys hx hy h1 h2 =>(have e1:xs = #[]:=by simpa using hx.symm);(have e2:ys = #[]:=by simpa using hy.symm);subst e1; subst e2; exact .sc _ _
  ·cases h

theorem qn {E:Env} {w:World} {a:Act} {st:St} (hs:cU E w a st) {keys:List (Nat×Nat)}:∀ {vs vs':List V} {xs:List Value},cz E vs xs→gJ st.mem vs=some vs'→(∀ k∈vs.flatMap kr,k∈keys) →
    cz (E.oX w keys).pure vs' xs
  | [],vs',xs,hr,h,_=>by simp [gJ] at h; subst h; rw [hr.of_nil]; exact .nil _
  | v :: vs,vs',xs,hr,h,hk=>by
    obtain⟨x,ys,rfl,h1,h2⟩:=hr.of_cons
    simp only [gJ] at h
    split at h
    · rename_i c' hc
      split at h
      · rename_i r' Dr
        simp only [aB] at h; subst h
        exact .cons (oc hs h1 hc fun k jA=>hk k (by simp [jA])) (qn hs h2 Dr fun k jA=>hk k (by simp at jA ⊢; exact .inr jA))
      · cases h
    · cases h

theorem ye {E:Env} {w:World} {a:Act} {st:St} (hs:cU E w a st) {keys:List (Nat×Nat)} {v v':V} {x:Value} (hr:cK E v x) (h:gu st.mem v=some v') (hk:∀ k∈eR v,k∈keys):cK (E.oX w keys).pure v' x:=by
  unfold gu at h;split at h;·split at h;(·rename_i cs l hl;simp only [aB] at h; subst h;cases hr with | agg _ _ xs hlen hh =>have:=qn hs (xs:=xs.toList) ⟨by simpa using hlen,fun i c x hc hx=>hh i c x hc (by simpa using hx)⟩ hl (by simpa [eR] using hk);exact .agg _ _ _ (by simpa using this.1) fun i c x hc hx=>this.2 i c x hc (by simpa using hx));·cases h
  ·rename_i dK;refine oc hs hr h fun k jA=>hk k ?_;cases v <;> first | exact jA | exact absurd rfl (dK _)
theorem lK {E:Env} {w:World} {a:Act} {st:St} (hs:cU E w a st) {keys:List (Nat×Nat)}:∀ {vs vs':List V} {xs:List Value},cz E vs xs→fh st.mem vs=some vs'→(∀ k∈vs.flatMap eR,k∈keys) →
    cz (E.oX w keys).pure vs' xs
  | [],vs',xs,hr,h,_=>by simp [fh] at h; subst h; rw [hr.of_nil]; exact .nil _
  | v :: vs,vs',xs,hr,h,hk=>by
    obtain⟨x,ys,rfl,h1,h2⟩:=hr.of_cons
    simp only [fh] at h
    split at h
    · rename_i c' hc
      split at h
      · rename_i r' Dr
        simp only [aB] at h; subst h
        exact .cons (ye hs h1 hc fun k jA=>hk k (by simp [jA])) (lK hs h2 Dr fun k jA=>hk k (by simp at jA ⊢; exact .inr jA))
      · cases h
    · cases h
theorem AZ {E:Env} {w:World} {a:Act} {st:St} (hs:cU E w a st) {keys:List (Nat×Nat)} {v v':V} {x:Value} (hr:cK E v x) (h:DR st.mem v=some v') (hk:∀ k∈refs v,k∈keys):cK (E.oX w keys).pure v' x:=by
  unfold DR at h;split at h;·split at h;(·rename_i vs l hl;simp only [aB] at h; subst h;cases hr with | eC _ _ xs hlen hh =>have:=lK hs (xs:=xs.toList) ⟨by simpa using hlen,fun i c x hc hx=>hh i c x hc (by simpa using hx)⟩ hl (by simpa [refs] using hk);exact .eC _ _ _ (by simpa using this.1) fun i c x hc hx=>this.2 i c x hc (by simpa using hx));·cases h
  ·rename_i dK;refine ye hs hr h fun k jA=>hk k ?_;cases v <;> first | exact jA | exact absurd rfl (dK _)

def bG (P:Program) (f:FuncId) (args:List V) (r:V):Prop :=
  (∀ (xs:Array Value) (w:World),(callFunc f xs).run P w = .ok (.enter f xs) w) ∧
  ∀ (F:Addr→Option Value) (hg:Gl F) (w:World) (xs:Array Value),(∀ ad x,F ad=some x→w.cell? ad=some x)→cz ⟨F,fun _ _=>none,hg⟩ args xs.toList →
    Calls P f xs w fun e w'=>∃ F' x,e = .returned x∧(∀ ad y,F ad=some y→F' ad=some y)∧(∀ ad y,F' ad=some y→w'.cell? ad=some y)∧(∀ ad y,F' ad=some y→F ad=some y∨w.heap.size≤ad.block) ∧
      (∃ DT,cK ⟨F',fun _ _=>none,DT⟩ r x)∧Below w.heap.size w w'

def DU:V→Bool
  | .undef=>true
  | .sc _=>true
  | .agg cs=>cs.all (fun c=>match c with | .sc _=>true | _=>false)
  | _=>false
def L9:V→Bool
  | .eC vs=>vs.all DU
  | v=>DU v

theorem A0 {E E':Env} {v:V} {x:Value} (h:cK E v x) (hf:DU v=true):cK E' v x:=by cases h with | undef=>exact .undef _ _ | sc=>exact .sc _ _ | agg _ cs xs hl hh =>refine .agg _ _ _ hl fun i c x hc hx=>?_;have h1:=hh i c x hc hx;simp only [DU,aY] at hf;have:=hf c (ay hc);cases c <;> simp at this;rw [fY h1]; exact .sc _ _ | _=>simp [DU] at hf
theorem JU {E E':Env} {v:V} {x:Value} (h:cK E v x) (hf:L9 v=true):cK E' v x:=by
  unfold L9 at hf;split at hf;·cases h with | eC _ vs xs hl hh =>refine .eC _ _ _ hl fun i c x hc hx=>A0 (hh i c x hc hx) ?_;simp only [aY] at hf;exact hf c (ay hc)
  ·exact A0 h hf

def DV (mem:List ba) (k:Nat×Nat):List ba:=match mem[k.1]? with | some (.rows v e rs)=>if v=k.2 then mem.set k.1 (.tv v e rs) else mem | _=>mem
def ey (mem:List ba) (keys:List (Nat×Nat)):List ba:=keys.foldl DV mem

def nS (keys:List (Nat×Nat)) (q:Nat):Option ba→Option ba
  | some (.rows v e rs)=>if (q,v)∈keys then some (.tv v e rs) else some (.rows v e rs)
  | B=>B
theorem Ma (mem:List ba) (k:Nat×Nat) (q:Nat):(DV mem k)[q]?=nS [k] q mem[q]?:=by
  obtain⟨k,kv⟩:=k;unfold DV;dsimp only;split;·rename_i v e rs hk;split;(·rename_i hv;subst hv;rw [bw];by_cases hq:k=q;(·subst hq;rw [hk];simp [nS,(ax.1 hk).1]);·rw [if_neg hq];have QG:¬ q=k:=fun e=>hq e.symm;cases hB:mem[q]? with | none=>rfl | some B=>cases B <;> simp [nS,QG]);·rename_i hv;cases hB:mem[q]? with | none=>rfl | some B =>(cases B <;> first | rfl | skip);rename_i v' e' mo;simp only [nS,fO,dQ];rw [if_neg];rintro⟨rfl,rfl⟩;rw [hk] at hB; cases hB; exact hv rfl
  ·rename_i hk;cases hB:mem[q]? with | none=>rfl | some B =>(cases B <;> first | rfl | skip);rename_i v e rs;simp only [nS,fO,dQ];rw [if_neg];rintro⟨rfl,rfl⟩;exact hk _ _ _ hB
theorem o6 (keys:List (Nat×Nat)):∀ (mem:List ba) (q:Nat),(ey mem keys)[q]?=nS keys q mem[q]?:=by induction keys with | nil=>(intro mem q; simp only [ey,anh]; cases hB:mem[q]? with | none=>rfl | some B=>cases B <;> simp [nS]) | cons k r ih =>intro mem q;show (ey (DV mem k) r)[q]?=_;rw [ih,Ma];cases hB:mem[q]? with | none=>rfl | some B =>(cases B <;> first | rfl | skip);rename_i v e rs;simp only [nS,cp,nG,or_false];by_cases hq:(q,v)=k;(·rw [if_pos hq,if_pos (.inl hq)]);·rw [if_neg hq];by_cases hr:(q,v)∈r;(·rw [if_pos (.inr hr)]; simp [hr]);·rw [if_neg (fun h=>h.elim hq hr)]; simp [hr]
theorem sm (keys:List (Nat×Nat)):∀ (mem:List ba),(ey mem keys).length=mem.length:=by induction keys with | nil=>intro mem; rfl | cons k r ih =>intro mem;show (ey (DV mem k) r).length=_;rw [ih]; unfold DV;split;(·split <;> simp);·rfl

def fQ (mem:List ba) (keys:List (Nat×Nat)) (r:V):List ba:=if L9 r=true then mem else ey mem keys

theorem JV {mem:List ba} {k:Nat×Nat}:∀ {us Mb:List V},fh mem us=some Mb→k∈us.flatMap eR→∃ B,mem[k.1]?=some B∧B.dw=k.2∧∃ e rs,B = .rows k.2 e rs∨B = .tv k.2 e rs:=by
  have TD:∀ (cs sj:List V),gJ mem cs=some sj→k∈cs.flatMap kr→∃ B,mem[k.1]?=some B∧B.dw=k.2∧∃ e rs,B = .rows k.2 e rs∨B = .tv k.2 e rs:=by intro cs;induction cs with | nil=>intro sj _ hm; simp at hm | cons c r ih =>intro sj hp hm;simp only [gJ] at hp;split at hp;(·rename_i c' hc;split at hp;(·rename_i r' hr;simp only [gq,fI] at hm;(rcases hm with hm | hm);(·cases c <;> simp only [kr,fO,nG] at hm;subst hm;simp only [dg] at hc;split at hc;(·rename_i h;split at hc;(·rename_i hv; obtain⟨rfl,-⟩:=hv; exact⟨_,h,rfl,_,_,.inl rfl⟩);·cases hc);(·rename_i h;split at hc;(·rename_i hv; obtain⟨rfl,-⟩:=hv; exact⟨_,h,rfl,_,_,.inr rfl⟩);·cases hc);·cases hc);·exact ih _ hr hm);·cases hp);·cases hp
  intro us;induction us with | nil=>intro Mb _ hm; simp at hm | cons c r ih =>intro Mb hp hm;simp only [fh] at hp;split at hp;(·rename_i c' hc;split at hp;(·rename_i r' hr;simp only [gq,fI] at hm;(rcases hm with hm | hm);(·unfold gu at hc;split at hc;(·split at hc;(·rename_i l hl; exact TD _ _ hl hm);·cases hc);·rename_i dK;refine TD [c] [c'] (by simp [gJ,hc]) ?_;simp only [gq,anm,ou];cases c <;> first | exact hm | exact absurd rfl (dK _));·exact ih hr hm);·cases hp);·cases hp

theorem yf {E:Env} {w w':World} {a:Act} {st:St} (hs:cU E w a st) {vs vs':List V} (hp:fh st.mem vs=some vs') {F':Addr→Option Value} (GC:∀ ad y,(E.oX w (vs.flatMap eR)).F ad=some y→F' ad=some y)
    (jY:∀ ad y,F' ad=some y→w'.cell? ad=some y) (hF3:∀ ad y,F' ad=some y→(E.oX w (vs.flatMap eR)).F ad=some y∨w.heap.size≤ad.block) (hb:Below w.heap.size w w') :
    ∃ hg,gE E w ⟨F',E.cj,hg⟩ w'∧cU ⟨F',E.cj,hg⟩ w' a { st with mem:=ey st.mem (vs.flatMap eR) }:=by
  have hg:Gl F':=E.gl.mono fun ad x h=>GC _ _ ((Env.vo E w _).F _ _ h);refine⟨hg,?_⟩;have hle:E.le ⟨F',E.cj,hg⟩:=⟨fun ad y hy=>GC _ _ ((Env.vo E w _).F _ _ hy),fun _ _ _ h=>h⟩;have aft:(E.oX w (vs.flatMap eR)).le ⟨F',E.cj,hg⟩:=⟨GC,fun _ _ _ h=>h⟩;have clean:∀ k B,st.mem[k]?=some B→B.held=true→(∀ v e rs,B ≠ .tv v e rs)→(∀ v e rs,B = .rows v e rs→(k,v) ∉ vs.flatMap eR)→∀ g e c o,E.cj k B.dw=some (g,e,c)→E.F ⟨g,o,none⟩=none→F' ⟨g,o,none⟩=none:=by intro k B hB hh cE yg g e c o fA hn;cases hy:F' ⟨g,o,none⟩ with | none=>rfl | some y =>exfalso;(rcases hF3 _ y hy with h | h);(·(rcases Env.B6 h with h | ⟨k',jA,e',c',h⟩);(·rw [hn] at h; cases h);·obtain⟨B',tn,xR,e1,rs1,QF⟩:=JV hp jA;(have QE:B'.held=true:=by rcases QF with rfl | rfl <;> rfl);rw [← xR] at h;have fe:=hs.apart _ _ _ _ _ _ _ _ _ fA h;subst fe;rw [hB] at tn; cases tn;(rcases QF with rfl | rfl);(·exact yg _ _ _ rfl (by rw [show (k'.1,k'.2)=k' from rfl]; exact jA));·exact cE _ _ _ rfl);·have:=hs.lt _ _ _ _ _ fA; simp at h; omega
  refine⟨⟨hle,fun k v g e c h=>.inl ⟨k,v,e,c,h⟩,fun ad y hy=>?_,hb.os,hb.tape,hb.output,hb.size,fun b bX _=>hb.block b bX⟩,?_⟩;·(rcases hF3 ad y hy with h | h);(·(rcases Env.B6 h with h | ⟨k,-,e,c,h⟩);(·exact .inl h);·exact .inr (.inr ⟨k.1,k.2,e,c,h⟩));·exact .inr (.inl h)
  ·(have sD:∀ (q:Nat) (B:ba),(ey st.mem (vs.flatMap eR))[q]?=some B→∃ B',st.mem[q]?=some B'∧B.dw=B'.dw∧B.held=B'.held∧(B=B'∧(∀ v e rs,B = .rows v e rs→(q,v) ∉ vs.flatMap eR)∨∃ v e rs,B' = .rows v e rs∧B = .tv v e rs∧(q,v)∈vs.flatMap eR):=fun q B hq=>by rw [o6] at hq;cases Iz:st.mem[q]? with | none=>rw [Iz] at hq; simp [nS] at hq | some B0 =>rw [Iz] at hq;refine⟨B0,rfl,?_⟩;cases B0 with | rows v e rs =>(simp only [nS] at hq;split at hq;(·rename_i n8; cases hq; exact⟨rfl,rfl,.inr ⟨v,e,rs,rfl,rfl,n8⟩⟩);·rename_i n8; cases hq; exact⟨rfl,rfl,.inl ⟨rfl,fun v' e' mo h=>by cases h; exact n8⟩⟩) | _=>cases hq; exact⟨rfl,rfl,.inl ⟨rfl,fun v' e' mo h=>by cases h⟩⟩);refine⟨jY,fun k v g e c h=>pI (hs.lt _ _ _ _ _ h) hb.size,fun k B hk=>?_,fun k hk v=>hs.top k (by simpa [sm] using hk) v,fun k B hk v hv=>?_,hs.apart,hs.fr.mono hle⟩;(·obtain⟨B',tn,-,-,yb⟩:=sD k B hk;(rcases yb with ⟨rfl,yg⟩ | ⟨v,e,rs,rfl,rfl,n8⟩);(·have yh:=(hs.mem k B tn).mono (E':=⟨F',E.cj,hg⟩) (w':=w') hle (fun _ h=>h) (fun g e c h=>hb.block _ (hs.lt _ _ _ _ _ h));cases Q4:B with | tv v e rs =>(subst Q4;(rcases hs.mem k _ tn with h9 | ⟨g,c,l6,hl,hr⟩);(·exact .inl h9);refine .inr ⟨g,c,l6,hl,fun i row hi=>?_⟩;obtain⟨h5,h6⟩:=hr i row hi;exact⟨h5,fun j cc hj=>let ⟨x,hx,h7,h8⟩:=h6 j cc hj; ⟨x,hle.F _ _ hx,h7,h8.mono (Env.kp hle)⟩⟩) | hole=>subst Q4; exact hs.mem k _ tn | dead=>trivial | loop s mX fr params assign body=>subst Q4; exact yh (clean k _ tn rfl (fun _ _ _ h=>by cases h) (fun _ _ _ h=>by cases h)) | box cs=>subst Q4; exact yh (clean k _ tn rfl (fun _ _ _ h=>by cases h) (fun _ _ _ h=>by cases h)) | map dq clock=>subst Q4; exact yh (clean k _ tn rfl (fun _ _ _ h=>by cases h) (fun _ _ _ h=>by cases h)) | jc m since seen last=>subst Q4; exact yh (clean k _ tn rfl (fun _ _ _ h=>by cases h) (fun _ _ _ h=>by cases h)) | mS s pos=>subst Q4; exact yh (clean k _ tn rfl (fun _ _ _ h=>by cases h) (fun _ _ _ h=>by cases h)) | nh=>subst Q4; exact yh (clean k _ tn rfl (fun _ _ _ h=>by cases h) (fun _ _ _ h=>by cases h)) | rows v e rs=>subst Q4; exact yh (clean k _ tn rfl (fun _ _ _ h=>by cases h) yg));·(rcases hs.mem k _ tn with h9 | ⟨g,T,cur,c,l6,-⟩);(·exact .inl h9);·obtain⟨-,hl,hr⟩:=DS hs n8 l6 tn (.inl rfl);refine .inr ⟨g,c,l6,hl,fun i row hi=>?_⟩;obtain⟨h5,h6⟩:=hr i row hi;exact⟨h5,fun j cc hj=>let ⟨x,hx,h7,h8⟩:=h6 j cc hj; ⟨x,aft.F _ _ hx,h7,h8.mono (Env.kp hle)⟩⟩);·obtain⟨B',tn,Gc,-,-⟩:=sD k B hk;exact hs.dw k B' tn v (by omega)

theorem cU.freeze {E:Env} {w:World} {a:Act} {st:St} (hs:cU E w a st) {vs vs':List V} (hp:fh st.mem vs=some vs') :
    ∃ E',cU E' w a { st with mem:=ey st.mem (vs.flatMap eR) }∧gE E w E' w∧∀ xs,cz E vs xs→cz E' vs' xs:=by obtain⟨hg,h1,h2⟩:=yf hs hp (F':=(E.oX w (vs.flatMap eR)).F) (fun _ _ h=>h) (fun ad y h=>Env.Iy hs.F h) (fun _ _ h=>.inl h) (Below.refl _ w);exact⟨_,h2,h1,fun xs hx=>(lK hs (keys:=vs.flatMap eR) hx hp fun k hk=>hk).mono ⟨fun _ _ h=>h,fun _ _ _ h=>by cases h⟩⟩

theorem JW {P:Program} {f:FuncId} {E:Env} {w:World} {a:Act} {st:St} (hs:cU E w a st) {vs vs':List V} {r:V} {xs:Array Value} (hx:cz E vs xs.toList) (hp:fh st.mem vs=some vs') (hf:bG P f vs' r) :
    Calls P f xs w fun e w'=>∃ E' x,e = .returned x∧gE E w E' w'∧cU E' w' a { st with mem:=fQ st.mem (vs.flatMap eR) r }∧cK E' r x:=by
  have h1:=lK hs (keys:=vs.flatMap eR) hx hp fun k hk=>hk;refine (hf.2 (E.oX w (vs.flatMap eR)).F (E.oX w (vs.flatMap eR)).gl w xs (fun ad x h=>Env.Iy hs.F h) h1).mono ?_;rintro e w' ⟨F',x,rfl,GC,jY,hF3,⟨DT,mm⟩,hb⟩;unfold fQ;split;·rename_i Zq;refine⟨E,x,rfl,⟨E.le_refl,fun k v g e c h=>.inl ⟨k,v,e,c,h⟩,fun _ _ h=>.inl h,hb.os,hb.tape,hb.output,hb.size,fun b bX _=>hb.block b bX⟩,?_,JU mm Zq⟩;refine⟨fun ad y hy=>?_,fun k v g e c h=>pI (hs.lt _ _ _ _ _ h) hb.size,fun k B hk=>?_,hs.top,hs.dw,hs.apart,hs.fr⟩;(·rw [hb.cell (World.block_lt_of_cell? w ad (hs.F ad y hy))]; exact hs.F ad y hy);·exact (hs.mem k B hk).mono E.le_refl (fun _ h=>h) (fun g e c h=>hb.block _ (hs.lt _ _ _ _ _ h)) fun _ _ _ _ _ h=>h
  ·obtain⟨hg,e1,s1⟩:=yf hs hp GC jY hF3 hb;exact⟨_,x,rfl,e1,s1,mm.mono ⟨fun _ _ h=>h,fun _ _ _ h=>by simp at h⟩⟩
end Go.Eng
end
